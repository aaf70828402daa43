/- The field of 256 as the document has it: multiplication bit by bit, its exponents and logarithms, its laws; plain Lean, no program. -/
namespace Go.Proofs.Ytnfodhagfcjfpaa.Hyp
/-- times x -/
def stp (x : UInt8) : UInt8 := (x <<< 1) ^^^ (if x < 128 then 0 else 0x1d)

theorem xxy (a b : UInt8) : a ^^^ (a ^^^ b) = b := by rw [← UInt8.xor_assoc, UInt8.xor_self, UInt8.zero_xor]
theorem xor_lc (a b c : UInt8) : a ^^^ (b ^^^ c) = b ^^^ (a ^^^ c) := by rw [← UInt8.xor_assoc, UInt8.xor_comm a b, UInt8.xor_assoc]

theorem stp_xor (x y : UInt8) : stp (x ^^^ y) = stp x ^^^ stp y := by
  unfold stp
  have h : ∀ z : UInt8, (z < 128) ↔ z.toBitVec.msb = false := by
    intro z
    rw [BitVec.msb_eq_decide]
    simp [UInt8.lt_iff_toNat_lt]
  simp only [h]
  have e : (x ^^^ y).toBitVec.msb = (x.toBitVec.msb ^^ y.toBitVec.msb) := by simp
  rw [e]
  have e2 : (x ^^^ y) <<< 1 = (x <<< 1) ^^^ (y <<< 1) := by
    apply UInt8.toBitVec_inj.1
    simp [BitVec.shiftLeft_xor_distrib]
  rw [e2]
  cases x.toBitVec.msb <;> cases y.toBitVec.msb <;> simp [UInt8.xor_assoc, xor_lc, UInt8.xor_comm]

def iter : Nat → UInt8 → UInt8
  | 0, x => x
  | n + 1, x => stp (iter n x)

def gexp (n : Nat) : UInt8 := iter n 1

theorem iter_xor (n : Nat) (x y : UInt8) : iter n (x ^^^ y) = iter n x ^^^ iter n y := by
  induction n with
  | zero => rfl
  | succ n ih => simp only [iter, ih, stp_xor]

theorem iter_stp (n : Nat) (x : UInt8) : iter n (stp x) = stp (iter n x) := by
  induction n with
  | zero => rfl
  | succ n ih => simp only [iter, ih]

theorem iter_add (m n : Nat) (x : UInt8) : iter (m + n) x = iter m (iter n x) := by
  induction m with
  | zero => simp [iter]
  | succ m ih => rw [Nat.succ_add]; simp only [iter, ih]

theorem stp_zero : stp 0 = 0 := by decide
theorem iter_zero (n : Nat) : iter n 0 = 0 := by
  induction n with
  | zero => rfl
  | succ n ih => simp only [iter, ih, stp_zero]

/-- multiplication, bit by bit of the second -/
def sel (b : UInt8) (i : Nat) (x : UInt8) : UInt8 := if b.toNat.testBit i then iter i x else 0

def mul (a b : UInt8) : UInt8 :=
  sel b 0 a ^^^ (sel b 1 a ^^^ (sel b 2 a ^^^ (sel b 3 a ^^^ (sel b 4 a ^^^ (sel b 5 a ^^^ (sel b 6 a ^^^ sel b 7 a))))))

theorem sel_xor_l (b : UInt8) (i : Nat) (x y : UInt8) : sel b i (x ^^^ y) = sel b i x ^^^ sel b i y := by
  unfold sel
  split
  · exact iter_xor i x y
  · simp

theorem sel_stp (b : UInt8) (i : Nat) (x : UInt8) : sel b i (stp x) = stp (sel b i x) := by
  unfold sel
  split
  · exact iter_stp i x
  · exact stp_zero.symm

theorem sel_xor_r (b c : UInt8) (i : Nat) (x : UInt8) : sel (b ^^^ c) i x = sel b i x ^^^ sel c i x := by
  unfold sel
  rw [UInt8.toNat_xor, Nat.testBit_xor]
  cases b.toNat.testBit i <;> cases c.toNat.testBit i <;> simp

theorem mul_xor_l (a b c : UInt8) : mul (a ^^^ b) c = mul a c ^^^ mul b c := by
  simp only [mul, sel_xor_l, UInt8.xor_assoc, xor_lc]

theorem mul_stp (a b : UInt8) : mul (stp a) b = stp (mul a b) := by
  simp only [mul, sel_stp, stp_xor]

theorem mul_iter (n : Nat) (a b : UInt8) : mul (iter n a) b = iter n (mul a b) := by
  induction n with
  | zero => rfl
  | succ n ih => simp only [iter, mul_stp, ih]

theorem mul_xor (a b c : UInt8) : mul a (b ^^^ c) = mul a b ^^^ mul a c := by
  simp only [mul, sel_xor_r, UInt8.xor_assoc, xor_lc]

theorem zero_mul (b : UInt8) : mul 0 b = 0 := by
  have h := mul_xor_l 0 0 b
  rw [UInt8.xor_self, UInt8.xor_self] at h
  exact h

theorem mul_zero (b : UInt8) : mul b 0 = 0 := by
  have h := mul_xor b 0 0
  rw [UInt8.xor_self, UInt8.xor_self] at h
  exact h

theorem forall_u8 (p : UInt8 → Prop) (h : ∀ n, n < 256 → p (UInt8.ofNat n)) (a : UInt8) : p a := by
  have := h a.toNat a.toNat_lt
  simpa using this

theorem one_mul (b : UInt8) : mul 1 b = b := by
  revert b
  apply forall_u8
  decide +kernel

/-- the exponent of a byte that is not 0 -/
def find (a : UInt8) : Nat → UInt8 → Nat → Nat
  | 0, _, i => i
  | k + 1, x, i => if x = a then i else find a k (stp x) (i + 1)

def glog (a : UInt8) : Nat := find a 255 1 0

theorem glog_spec : ∀ n, n < 256 → n ≠ 0 → glog (UInt8.ofNat n) < 255 ∧ gexp (glog (UInt8.ofNat n)) = UInt8.ofNat n := by
  decide +kernel

theorem glog_gexp : ∀ n, n < 255 → glog (gexp n) = n := by
  decide +kernel

theorem gexp_glog (a : UInt8) (h : a ≠ 0) : gexp (glog a) = a := by
  have h1 := glog_spec a.toNat a.toNat_lt (fun h0 => h (by rw [← UInt8.toNat_inj]; simpa using h0))
  simpa using h1.2

theorem glog_lt (a : UInt8) (h : a ≠ 0) : glog a < 255 := by
  have h1 := glog_spec a.toNat a.toNat_lt (fun h0 => h (by rw [← UInt8.toNat_inj]; simpa using h0))
  simpa using h1.1

theorem gexp_255 : gexp 255 = 1 := by decide +kernel

theorem gexp_add (m n : Nat) : gexp (m + n) = iter m (gexp n) := by
  unfold gexp
  exact iter_add m n 1

theorem gexp_period (n : Nat) : gexp (n + 255) = gexp n := by
  rw [gexp_add, gexp_255]
  rfl

theorem mul_gexp (m n : Nat) : mul (gexp m) (gexp n) = gexp (m + n) := by
  rw [gexp_add]
  unfold gexp
  rw [mul_iter, one_mul]

theorem gexp_ne (n : Nat) : gexp n ≠ 0 := by
  induction n using Nat.strongRecOn with
  | ind n ih =>
    rcases Nat.lt_or_ge n 255 with h | h
    · have : ∀ m, m < 255 → gexp m ≠ 0 := by decide +kernel
      exact this n h
    · have := ih (n - 255) (by omega)
      rw [← gexp_period, Nat.sub_add_cancel h] at this
      exact this

theorem mul_comm (a b : UInt8) : mul a b = mul b a := by
  by_cases ha : a = 0
  · subst ha; rw [zero_mul, mul_zero]
  by_cases hb : b = 0
  · subst hb; rw [zero_mul, mul_zero]
  rw [← gexp_glog a ha, ← gexp_glog b hb, mul_gexp, mul_gexp, Nat.add_comm]

theorem mul_assoc (a b c : UInt8) : mul (mul a b) c = mul a (mul b c) := by
  by_cases ha : a = 0
  · subst ha; simp only [zero_mul]
  by_cases hb : b = 0
  · subst hb; simp only [zero_mul, mul_zero]
  by_cases hc : c = 0
  · subst hc; simp only [mul_zero]
  rw [← gexp_glog a ha, ← gexp_glog b hb, ← gexp_glog c hc]
  simp only [mul_gexp, Nat.add_assoc]

theorem mul_one (a : UInt8) : mul a 1 = a := by rw [mul_comm, one_mul]

def inv (a : UInt8) : UInt8 := if a = 0 then 0 else gexp (255 - glog a)

theorem mul_inv (a : UInt8) (h : a ≠ 0) : mul a (inv a) = 1 := by
  unfold inv
  rw [if_neg h]
  have h1 := glog_lt a h
  have : mul (gexp (glog a)) (gexp (255 - glog a)) = 1 := by
    rw [mul_gexp, show glog a + (255 - glog a) = 255 by omega, gexp_255]
  rwa [gexp_glog a h] at this

theorem inv_mul (a : UInt8) (h : a ≠ 0) : mul (inv a) a = 1 := by rw [mul_comm, mul_inv a h]

theorem inv_ne (a : UInt8) (h : a ≠ 0) : inv a ≠ 0 := by
  intro h0
  have := mul_inv a h
  rw [h0, mul_zero] at this
  exact absurd this (by decide)

theorem mul_eq_zero (a b : UInt8) (h : mul a b = 0) : a = 0 ∨ b = 0 := by
  by_cases ha : a = 0
  · exact .inl ha
  · right
    have h1 : mul (inv a) (mul a b) = b := by rw [← mul_assoc, inv_mul a ha, one_mul]
    rw [h, mul_zero] at h1
    exact h1.symm

theorem mul_ne_zero {a b : UInt8} (ha : a ≠ 0) (hb : b ≠ 0) : mul a b ≠ 0 := fun h => (mul_eq_zero a b h).elim ha hb

/-- as the tables say -/
theorem mul_tab (a b : UInt8) (ha : a ≠ 0) (hb : b ≠ 0) : mul a b = gexp (glog a + glog b) := by
  rw [← mul_gexp, gexp_glog a ha, gexp_glog b hb]

theorem xor_eq_zero {a b : UInt8} : a ^^^ b = 0 ↔ a = b := by
  constructor
  · intro h
    have := congrArg (a ^^^ ·) h
    simp only [xxy, UInt8.xor_zero] at this
    exact this.symm
  · rintro rfl; exact UInt8.xor_self

end Go.Proofs.Ytnfodhagfcjfpaa.Hyp
