/- J1: Gf, Fld, Fld2, L1, L2, L3, one behind the other. -/
import Derived.Test.YtnfodhagfcjfpaaProg
import Derived.WalkKit
import Derived.WalkSpells
import Derived.WalkLawsBesides
import Derived.Lib.Hide
import Derived.Deep.QuietTactic
import Derived.Deep.LoopGhost
import Derived.BigQuiet
import Derived.BigRegion
import Derived.Tactics2
import Derived.Defers
import Derived.Laws.Pointers
import Derived.Laws.LoneSync
import Derived.RegionTactic
import Derived.RegionCalls
import Derived.ChangeAlike
import Derived.Test.YtnfodhagfcjfpaaWMore
import Derived.Test.YtnfodhagfcjfpaaWAt
import Derived.Test.YtnfodhagfcjfpaaWNEv
import Derived.Test.YtnfodhagfcjfpaaWSized
import Derived.Lib.SliceRun
/- The field of 256 as the document has it: multiplication bit by bit, its exponents and logarithms, its laws; plain Lean, no program. -/
namespace Go.Proofs.Ytnfodhagfcjfpaa.Hyp
/-- times x -/
def stp (x : UInt8) : UInt8 := (x <<< 1) ^^^ (if x < 128 then 0 else 0x1d)

theorem xxy (a b : UInt8) : a ^^^ (a ^^^ b) = b := by rw [← UInt8.xor_assoc, UInt8.xor_self, UInt8.zero_xor]
theorem xor_lc (a b c : UInt8) : a ^^^ (b ^^^ c) = b ^^^ (a ^^^ c) := by rw [← UInt8.xor_assoc, UInt8.xor_comm a b, UInt8.xor_assoc]

theorem stp_xor (x y : UInt8) : stp (x ^^^ y) = stp x ^^^ stp y := by
  unfold stp
  have h : ∀ z : UInt8, (z < 128) ↔ z.toBitVec.msb = false := by
    intro z
    rw [BitVec.msb_eq_decide]
    simp [UInt8.lt_iff_toNat_lt]
  simp only [h]
  have e : (x ^^^ y).toBitVec.msb = (x.toBitVec.msb ^^ y.toBitVec.msb) := by simp
  rw [e]
  have e2 : (x ^^^ y) <<< 1 = (x <<< 1) ^^^ (y <<< 1) := by
    apply UInt8.toBitVec_inj.1
    simp [BitVec.shiftLeft_xor_distrib]
  rw [e2]
  cases x.toBitVec.msb <;> cases y.toBitVec.msb <;> simp [UInt8.xor_assoc, xor_lc, UInt8.xor_comm]

def iter : Nat → UInt8 → UInt8
  | 0, x => x
  | n + 1, x => stp (iter n x)

def gexp (n : Nat) : UInt8 := iter n 1

theorem iter_xor (n : Nat) (x y : UInt8) : iter n (x ^^^ y) = iter n x ^^^ iter n y := by
  induction n with
  | zero => rfl
  | succ n ih => simp only [iter, ih, stp_xor]

theorem iter_stp (n : Nat) (x : UInt8) : iter n (stp x) = stp (iter n x) := by
  induction n with
  | zero => rfl
  | succ n ih => simp only [iter, ih]

theorem iter_add (m n : Nat) (x : UInt8) : iter (m + n) x = iter m (iter n x) := by
  induction m with
  | zero => simp [iter]
  | succ m ih => rw [Nat.succ_add]; simp only [iter, ih]

theorem stp_zero : stp 0 = 0 := by decide
theorem iter_zero (n : Nat) : iter n 0 = 0 := by
  induction n with
  | zero => rfl
  | succ n ih => simp only [iter, ih, stp_zero]

/-- multiplication, bit by bit of the second -/
def sel (b : UInt8) (i : Nat) (x : UInt8) : UInt8 := if b.toNat.testBit i then iter i x else 0

def mul (a b : UInt8) : UInt8 :=
  sel b 0 a ^^^ (sel b 1 a ^^^ (sel b 2 a ^^^ (sel b 3 a ^^^ (sel b 4 a ^^^ (sel b 5 a ^^^ (sel b 6 a ^^^ sel b 7 a))))))

theorem sel_xor_l (b : UInt8) (i : Nat) (x y : UInt8) : sel b i (x ^^^ y) = sel b i x ^^^ sel b i y := by
  unfold sel
  split
  · exact iter_xor i x y
  · simp

theorem sel_stp (b : UInt8) (i : Nat) (x : UInt8) : sel b i (stp x) = stp (sel b i x) := by
  unfold sel
  split
  · exact iter_stp i x
  · exact stp_zero.symm

theorem sel_xor_r (b c : UInt8) (i : Nat) (x : UInt8) : sel (b ^^^ c) i x = sel b i x ^^^ sel c i x := by
  unfold sel
  rw [UInt8.toNat_xor, Nat.testBit_xor]
  cases b.toNat.testBit i <;> cases c.toNat.testBit i <;> simp

theorem mul_xor_l (a b c : UInt8) : mul (a ^^^ b) c = mul a c ^^^ mul b c := by
  simp only [mul, sel_xor_l, UInt8.xor_assoc, xor_lc]

theorem mul_stp (a b : UInt8) : mul (stp a) b = stp (mul a b) := by
  simp only [mul, sel_stp, stp_xor]

theorem mul_iter (n : Nat) (a b : UInt8) : mul (iter n a) b = iter n (mul a b) := by
  induction n with
  | zero => rfl
  | succ n ih => simp only [iter, mul_stp, ih]

theorem mul_xor (a b c : UInt8) : mul a (b ^^^ c) = mul a b ^^^ mul a c := by
  simp only [mul, sel_xor_r, UInt8.xor_assoc, xor_lc]

theorem zero_mul (b : UInt8) : mul 0 b = 0 := by
  have h := mul_xor_l 0 0 b
  rw [UInt8.xor_self, UInt8.xor_self] at h
  exact h

theorem mul_zero (b : UInt8) : mul b 0 = 0 := by
  have h := mul_xor b 0 0
  rw [UInt8.xor_self, UInt8.xor_self] at h
  exact h

theorem forall_u8 (p : UInt8 → Prop) (h : ∀ n, n < 256 → p (UInt8.ofNat n)) (a : UInt8) : p a := by
  have := h a.toNat a.toNat_lt
  simpa using this

theorem one_mul (b : UInt8) : mul 1 b = b := by
  revert b
  apply forall_u8
  decide +kernel

/-- the exponent of a byte that is not 0 -/
def find (a : UInt8) : Nat → UInt8 → Nat → Nat
  | 0, _, i => i
  | k + 1, x, i => if x = a then i else find a k (stp x) (i + 1)

def glog (a : UInt8) : Nat := find a 255 1 0

theorem glog_spec : ∀ n, n < 256 → n ≠ 0 → glog (UInt8.ofNat n) < 255 ∧ gexp (glog (UInt8.ofNat n)) = UInt8.ofNat n := by
  decide +kernel

theorem glog_gexp : ∀ n, n < 255 → glog (gexp n) = n := by
  decide +kernel

theorem gexp_glog (a : UInt8) (h : a ≠ 0) : gexp (glog a) = a := by
  have h1 := glog_spec a.toNat a.toNat_lt (fun h0 => h (by rw [← UInt8.toNat_inj]; simpa using h0))
  simpa using h1.2

theorem glog_lt (a : UInt8) (h : a ≠ 0) : glog a < 255 := by
  have h1 := glog_spec a.toNat a.toNat_lt (fun h0 => h (by rw [← UInt8.toNat_inj]; simpa using h0))
  simpa using h1.1

theorem gexp_255 : gexp 255 = 1 := by decide +kernel

theorem gexp_add (m n : Nat) : gexp (m + n) = iter m (gexp n) := by
  unfold gexp
  exact iter_add m n 1

theorem gexp_period (n : Nat) : gexp (n + 255) = gexp n := by
  rw [gexp_add, gexp_255]
  rfl

theorem mul_gexp (m n : Nat) : mul (gexp m) (gexp n) = gexp (m + n) := by
  rw [gexp_add]
  unfold gexp
  rw [mul_iter, one_mul]

theorem gexp_ne (n : Nat) : gexp n ≠ 0 := by
  induction n using Nat.strongRecOn with
  | ind n ih =>
    rcases Nat.lt_or_ge n 255 with h | h
    · have : ∀ m, m < 255 → gexp m ≠ 0 := by decide +kernel
      exact this n h
    · have := ih (n - 255) (by omega)
      rw [← gexp_period, Nat.sub_add_cancel h] at this
      exact this

theorem mul_comm (a b : UInt8) : mul a b = mul b a := by
  by_cases ha : a = 0
  · subst ha; rw [zero_mul, mul_zero]
  by_cases hb : b = 0
  · subst hb; rw [zero_mul, mul_zero]
  rw [← gexp_glog a ha, ← gexp_glog b hb, mul_gexp, mul_gexp, Nat.add_comm]

theorem mul_assoc (a b c : UInt8) : mul (mul a b) c = mul a (mul b c) := by
  by_cases ha : a = 0
  · subst ha; simp only [zero_mul]
  by_cases hb : b = 0
  · subst hb; simp only [zero_mul, mul_zero]
  by_cases hc : c = 0
  · subst hc; simp only [mul_zero]
  rw [← gexp_glog a ha, ← gexp_glog b hb, ← gexp_glog c hc]
  simp only [mul_gexp, Nat.add_assoc]

theorem mul_one (a : UInt8) : mul a 1 = a := by rw [mul_comm, one_mul]

def inv (a : UInt8) : UInt8 := if a = 0 then 0 else gexp (255 - glog a)

theorem mul_inv (a : UInt8) (h : a ≠ 0) : mul a (inv a) = 1 := by
  unfold inv
  rw [if_neg h]
  have h1 := glog_lt a h
  have : mul (gexp (glog a)) (gexp (255 - glog a)) = 1 := by
    rw [mul_gexp, show glog a + (255 - glog a) = 255 by omega, gexp_255]
  rwa [gexp_glog a h] at this

theorem inv_mul (a : UInt8) (h : a ≠ 0) : mul (inv a) a = 1 := by rw [mul_comm, mul_inv a h]

theorem inv_ne (a : UInt8) (h : a ≠ 0) : inv a ≠ 0 := by
  intro h0
  have := mul_inv a h
  rw [h0, mul_zero] at this
  exact absurd this (by decide)

theorem mul_eq_zero (a b : UInt8) (h : mul a b = 0) : a = 0 ∨ b = 0 := by
  by_cases ha : a = 0
  · exact .inl ha
  · right
    have h1 : mul (inv a) (mul a b) = b := by rw [← mul_assoc, inv_mul a ha, one_mul]
    rw [h, mul_zero] at h1
    exact h1.symm

theorem mul_ne_zero {a b : UInt8} (ha : a ≠ 0) (hb : b ≠ 0) : mul a b ≠ 0 := fun h => (mul_eq_zero a b h).elim ha hb

/-- as the tables say -/
theorem mul_tab (a b : UInt8) (ha : a ≠ 0) (hb : b ≠ 0) : mul a b = gexp (glog a + glog b) := by
  rw [← mul_gexp, gexp_glog a ha, gexp_glog b hb]

theorem xor_eq_zero {a b : UInt8} : a ^^^ b = 0 ↔ a = b := by
  constructor
  · intro h
    have := congrArg (a ^^^ ·) h
    simp only [xxy, UInt8.xor_zero] at this
    exact this.symm
  · rintro rfl; exact UInt8.xor_self

end Go.Proofs.Ytnfodhagfcjfpaa.Hyp

/- The field's block: without tables, or with them; what stays read beside it; what sync.Once, the closure that makes the tables, and the methods tables, Mul and Inv do to it. -/
namespace Go.Proofs.Ytnfodhagfcjfpaa
open Go.RowKit

/-! ### the frame: block f alone may have turned -/
/-- w' is w but for new blocks and for what block f holds. -/
abbrev Kf (f : Nat) (w w' : World) : Prop := w.grownBy w' (some f)

theorem Kf.refl (f : Nat) (w : World) : Kf f w w := ⟨rfl, rfl, rfl, Nat.le_refl _, fun _ _ _ => rfl⟩
theorem Kf.trans {f : Nat} {a b c : World} (h : Kf f a b) (k : Kf f b c) : Kf f a c :=
  ⟨k.os.trans h.os, k.tape.trans h.tape, k.output.trans h.output, Nat.le_trans h.size k.size, fun i hi hn => (k.block i (Nat.lt_of_lt_of_le hi h.size) hn).trans (h.block i hi hn)⟩
theorem Kf.drew {f : Nat} {a w : World} (h : Kf f a w) : Kf f a w.drew := ⟨h.os, h.tape, h.output, h.size, h.block⟩
theorem Kf.drewN {f : Nat} {a w : World} (h : Kf f a w) (n : Nat) : Kf f a (w.drewN n) := ⟨h.os, h.tape, h.output, h.size, h.block⟩
theorem Kf.alloc {f : Nat} {a w : World} (h : Kf f a w) (o : Obj) : Kf f a (w.alloc o) := h.trans (World.grownBy_alloc w o _)
theorem Kf.set {f : Nat} {a w : World} (h : Kf f a w) (j : Nat) (u : Value) : Kf f a (w.setCell ⟨f, j, none⟩ u) :=
  ⟨h.os, h.tape, h.output, by simpa [World.setCell] using h.size, fun i hi hn => (Below.heap_setCell w ⟨f, j, none⟩ u i (fun e => hn (by rw [e]))).trans (h.block i hi hn)⟩
theorem Kf.below {f : Nat} {a w w1 : World} (h : Kf f a w) (k : Below w.heap.size w w1) : Kf f a w1 :=
  h.trans ⟨k.os, k.tape, k.output, k.size, fun i hi _ => k.block i hi⟩
theorem Kf.heap {f : Nat} {a w : World} (h : Kf f a w) {g : Nat} {o : Obj} (hg : a.heap[g]? = some o) (hne : g ≠ f) : w.heap[g]? = some o :=
  (h.block g (Array.getElem?_eq_some_iff.1 hg).1 (fun e => hne (Option.some.inj e))).trans hg
theorem Kf.cell {f : Nat} {a w : World} (h : Kf f a w) {p : Addr} {v : Value} (hc : a.cell? p = some v) (hne : p.block ≠ f) : w.cell? p = some v :=
  World.grownBy.cell h hc (fun e => hne (Option.some.inj e))

/-! ### the field's cells -/
/-- cell i: o done, m the lock, q how often made; k exponents, l logarithms are laid -/
def fcell (o m q : Int) (k l i : Nat) : Value :=
  if i = 0 then .int .u32 o else if i = 1 then .int .i32 m else if i = 2 then .int .u32 0 else if i = 3 then .int .i64 q else
  if i < 514 then .int .u8 (if (i - 4) % 255 < k then ((Hyp.gexp ((i - 4) % 255)).toNat : Int) else 0) else
  .int .i64 (if i ≠ 514 ∧ Hyp.glog (UInt8.ofNat (i - 514)) < l then (Hyp.glog (UInt8.ofNat (i - 514)) : Int) else 0)
def fcells (o m q : Int) (k l : Nat) : Array Value := Array.ofFn (n := 770) fun i => fcell o m q k l i

theorem fcells_get (o m q : Int) (k l i : Nat) (h : i < 770) : (fcells o m q k l)[i]? = some (fcell o m q k l i) := by
  simp [fcells, h]
theorem fcells_size (o m q : Int) (k l : Nat) : (fcells o m q k l).size = 770 := by simp [fcells]

/-- the block f is a field's: without tables -/
def FFresh (w : World) (f : Nat) : Prop := w.heap[f]? = some (.cells (fcells 0 0 0 0 0) 152 (0, 0))
/-- .. with them -/
def FMade (w : World) (f : Nat) : Prop := w.heap[f]? = some (.cells (fcells 1 0 1 255 255) 152 (0, 0))
def Fld (w : World) (f : Nat) : Prop := FFresh w f ∨ FMade w f

theorem Fld.lt {w : World} {f : Nat} (h : Fld w f) : f < w.heap.size := by
  rcases h with h | h <;> exact (Array.getElem?_eq_some_iff.1 h).1
theorem FMade.drewN {w : World} {f : Nat} (h : FMade w f) (n : Nat) : FMade (w.drewN n) f := h
theorem Fld.drewN {w : World} {f : Nat} (h : Fld w f) (n : Nat) : Fld (w.drewN n) f := h
theorem Fld.below {w w1 : World} {f : Nat} (h : Fld w f) (hb : Below w.heap.size w w1) : Fld w1 f := by
  have hl := h.lt
  rcases h with h | h
  · exact .inl ((hb.block f hl).trans h)
  · exact .inr ((hb.block f hl).trans h)
theorem Fld.alloc {w : World} {f : Nat} (h : Fld w f) (o : Obj) : Fld (w.alloc o) f := h.below ((Below.refl _ _).alloc (Nat.le_refl _) o)
theorem FMade.fld {w : World} {f : Nat} (h : FMade w f) : Fld w f := .inr h

theorem blk_at {w : World} {g : Nat} {t : TypeId} {cs : Array Value} {fr : Nat × Nat} (h : w.heap[g]? = some (.cells cs t fr)) (i : Nat) : w.cell? ⟨g, i, none⟩ = cs[i]? := cell_of_row w g i cs t fr h
theorem blk_free {w : World} {g : Nat} {t : TypeId} {cs : Array Value} (h : w.heap[g]? = some (.cells cs t (0, 0))) (i : Nat) : w.frozen? ⟨g, i, none⟩ = false := by simp [World.frozen?, h]
theorem blk_put {w : World} {g : Nat} {t : TypeId} {cs : Array Value} {fr : Nat × Nat} (h : w.heap[g]? = some (.cells cs t fr)) (i : Nat) (u : Value) : (w.setCell ⟨g, i, none⟩ u).heap[g]? = some (.cells (cs.setIfInBounds i u) t fr) := by
  simp [World.setCell, Array.getElem?_modify, h]
theorem blk_else {w : World} {g : Nat} {o : Obj} (h : w.heap[g]? = some o) {p : Addr} (hp : g ≠ p.block) (u : Value) : (w.setCell p u).heap[g]? = some o := (Below.heap_setCell w p u g hp).trans h

/-- a store into the field's cells is the cells of another state -/
theorem fcells_set {o m q o' m' q' : Int} {k l k' l' i : Nat} {u : Value} (hi : i < 770) (hu : u = fcell o' m' q' k' l' i) (h : ∀ j, j < 770 → j ≠ i → fcell o m q k l j = fcell o' m' q' k' l' j) :
    (fcells o m q k l).setIfInBounds i u = fcells o' m' q' k' l' := by
  apply Array.ext_getElem?
  intro j
  rw [Array.getElem?_setIfInBounds]
  by_cases hj : j < 770
  · by_cases hij : i = j
    · subst hij
      rw [if_pos rfl, if_pos (by rw [fcells_size]; exact hi), fcells_get _ _ _ _ _ _ hi, hu]
    · rw [if_neg hij, fcells_get _ _ _ _ _ _ hj, fcells_get _ _ _ _ _ _ hj, h j hj (fun e => hij e.symm)]
  · rw [if_neg (by omega)]
    rw [Array.getElem?_eq_none (by rw [fcells_size]; omega), Array.getElem?_eq_none (by rw [fcells_size]; omega)]

/-! ### sync.Once -/
theorem disable (w : World) : (callFunc 250 #[]).run Try.prog w = .ok (.value (.tuple #[])) w := run_call_mark0 Try.func250 (by kernel_rfl) (by kernel_rfl) (by kernel_rfl) .disable (by kernel_rfl) w
theorem enable (w : World) : (callFunc 252 #[]).run Try.prog w = .ok (.value (.tuple #[])) w := run_call_mark0 Try.func252 (by kernel_rfl) (by kernel_rfl) (by kernel_rfl) .enable (by kernel_rfl) w
theorem acquire (a : Addr) (w : World) : (callFunc 253 #[.pointer (some a)]).run Try.prog w = .ok (.value (.tuple #[])) w := run_call_marked Try.func253 (by kernel_rfl) (by kernel_rfl) (by kernel_rfl) .acquire (by kernel_rfl) a w
theorem releaseMerge (a : Addr) (w : World) : (callFunc 255 #[.pointer (some a)]).run Try.prog w = .ok (.value (.tuple #[])) w := run_call_marked Try.func255 (by kernel_rfl) (by kernel_rfl) (by kernel_rfl) .releaseMerge (by kernel_rfl) a w

theorem store_deferred (a : Addr) (x : Value) (u : FrameMode) (w : World) (hc : w.cell? a = some x) (hz : w.frozen? a = false) :
    CallsD Try.prog 234 #[.pointer (some a), .bool true] u w fun e u' w' => u' = u ∧ (e = .returned (.tuple #[]) ∧ w' = w.drew.setCell a (.int .u32 1)) := by
  have hc' : w.drew.cell? a = some x := by go_simp
  have hz' : w.drew.frozen? a = false := by go_simp
  have hst := run_call_store (P := Try.prog) Try.func246 (by kernel_rfl) (by kernel_rfl) (by kernel_rfl) (by kernel_rfl) (k := .u32) (y := 1) hc' hz'
  go_enter_d Try.func234, Try.ntmps234
  go_wp2
  go_region_calls
  all_goals (go_end0; exact ⟨rfl, rfl⟩)

set_option maxRecDepth 100000 in
theorem unlock_deferred (a : Addr) (u : FrameMode) (w : World) (hc : w.cell? a = some (.int .i32 1)) (hz : w.frozen? a = false) :
    CallsD Try.prog 233 #[.pointer (some a)] u w fun e u' w' => u' = u ∧ (e = .returned (.tuple #[]) ∧ w' = w.setCell a (.int .i32 0)) := by
  have hd := disable
  have he := enable
  have hr := releaseMerge
  have hadd := run_call_add (P := Try.prog) Try.func256 (by kernel_rfl) (by kernel_rfl) (by kernel_rfl) .i32 (by kernel_rfl) (y := -1) (s := 0) hc hz (by simp [go_sem]; rfl)
  have hcv := run_convert_to_unsafe (P := Try.prog) (src := 309) (dst := 313) Try.underlying309 Try.underlying313 (by kernel_rfl) hc
  go_enter_d Try.func233, Try.ntmps233
  go_wp2
  go_end0
  go_wp2
  go_end0
  exact ⟨rfl, rfl⟩

set_option maxRecDepth 100000 in
theorem lock_free (a : Addr) (w : World) (hc : w.cell? a = some (.int .i32 0)) (hz : w.frozen? a = false) :
    Calls Try.prog 232 #[.pointer (some a)] w fun e w' => e = .returned (.tuple #[]) ∧ w' = w.setCell a (.int .i32 1) := by
  have hd := disable
  have he := enable
  have ha := acquire
  have hcas := run_call_cas_hit (P := Try.prog) Try.func251 (by kernel_rfl) (by kernel_rfl) (by kernel_rfl) .i32 (by kernel_rfl) (y := 1) hc hz
  have hc' : (w.setCell a (.int .i32 1)).cell? a = some (.int .i32 1) := World.cell?_setCell_same w a _ hc
  have hcv := run_convert_to_unsafe (P := Try.prog) (src := 309) (dst := 313) Try.underlying309 Try.underlying313 (by kernel_rfl) hc'
  go_enter Try.func232, Try.ntmps232
  go_wp2
  first | go_end0 | (simp only [Exit.inBlock, Exit.then]; refine bodyPost_ret (results_none rfl _ _ _) rfl ?_) | refine bodyPost_ret (results_none rfl _ _ _) rfl ?_
  go_wp2
  go_end0
  exact ⟨rfl, rfl⟩
end Go.Proofs.Ytnfodhagfcjfpaa

/- The closure that makes the field's tables; tables, Mul and Inv. -/
namespace Go.Proofs.Ytnfodhagfcjfpaa
open Go.RowKit

theorem u8_wrap (n : Nat) (h : n < 256) : IntKind.u8.wrap (n : Int) = n := by
  simp [IntKind.wrap, IntKind.bits, IntKind.signed]; omega

theorem fcell_low {o m q : Int} {k l k' l' j : Nat} (h : j < 4) : fcell o m q k l j = fcell o m q k' l' j := by
  obtain rfl | rfl | rfl | rfl : j = 0 ∨ j = 1 ∨ j = 2 ∨ j = 3 := by omega
  all_goals rfl
theorem fcell_mid {o m q : Int} {k l j : Nat} (h : 4 ≤ j) (h2 : j < 514) : fcell o m q k l j = .int .u8 (if (j - 4) % 255 < k then ((Hyp.gexp ((j - 4) % 255)).toNat : Int) else 0) := by
  unfold fcell
  rw [if_neg (by omega), if_neg (by omega), if_neg (by omega), if_neg (by omega), if_pos h2]
theorem fcell_high {o m q : Int} {k l j : Nat} (h : 514 ≤ j) : fcell o m q k l j = .int .i64 (if j ≠ 514 ∧ Hyp.glog (UInt8.ofNat (j - 514)) < l then (Hyp.glog (UInt8.ofNat (j - 514)) : Int) else 0) := by
  unfold fcell
  rw [if_neg (by omega), if_neg (by omega), if_neg (by omega), if_neg (by omega), if_neg (by omega)]

theorem fcell_exp {o m q : Int} {k l j : Nat} (hj : j < 255) : fcell o m q k l (4 + j) = .int .u8 (if j < k then ((Hyp.gexp j).toNat : Int) else 0) ∧ fcell o m q k l (4 + (j + 255)) = .int .u8 (if j < k then ((Hyp.gexp j).toNat : Int) else 0) := by
  constructor
  · rw [fcell_mid (by omega) (by omega), show 4 + j - 4 = j by omega, Nat.mod_eq_of_lt hj]
  · rw [fcell_mid (by omega) (by omega), show 4 + (j + 255) - 4 = j + 255 by omega, Nat.add_mod_right, Nat.mod_eq_of_lt hj]

/-- two exponents are laid -/
theorem lay_exp (o m q : Int) (k l : Nat) (hk : k < 255) :
    ((fcells o m q k l).setIfInBounds (4 + k) (.int .u8 ((Hyp.gexp k).toNat : Int))).setIfInBounds (4 + (k + 255)) (.int .u8 ((Hyp.gexp k).toNat : Int)) = fcells o m q (k + 1) l := by
  apply Array.ext_getElem?
  intro j
  rw [Array.getElem?_setIfInBounds, Array.getElem?_setIfInBounds, Array.size_setIfInBounds, fcells_size]
  by_cases h2 : 4 + (k + 255) = j
  · subst h2
    rw [if_pos rfl, if_pos (by omega), fcells_get _ _ _ _ _ _ (by omega), (fcell_exp hk).2, if_pos (by omega)]
  · rw [if_neg h2]
    by_cases h1 : 4 + k = j
    · subst h1
      rw [if_pos rfl, if_pos (by omega), fcells_get _ _ _ _ _ _ (by omega), (fcell_exp hk).1, if_pos (by omega)]
    · rw [if_neg h1]
      by_cases hj : j < 770
      · rw [fcells_get _ _ _ _ _ _ hj, fcells_get _ _ _ _ _ _ hj]
        congr 1
        by_cases h4 : j < 4
        · exact fcell_low h4
        · by_cases h5 : j < 514
          · rw [fcell_mid (by omega) h5, fcell_mid (by omega) h5]
            obtain ⟨i, hi⟩ : ∃ i, i = (j - 4) % 255 := ⟨_, rfl⟩
            have hh : i ≠ k := by omega
            rw [← hi]
            by_cases hk2 : i < k
            · rw [if_pos hk2, if_pos (by omega)]
            · rw [if_neg hk2, if_neg (by omega)]
          · rw [fcell_high (by omega), fcell_high (by omega)]
      · rw [Array.getElem?_eq_none (by rw [fcells_size]; omega), Array.getElem?_eq_none (by rw [fcells_size]; omega)]

theorem toNat_ofNat {n : Nat} (h : n < 256) : (UInt8.ofNat n).toNat = n := UInt8.toNat_ofNat_of_lt' (by show n < 256; exact h)

theorem fcell_log {o m q : Int} {k l : Nat} (a : UInt8) (ha : a ≠ 0) : fcell o m q k l (514 + a.toNat) = .int .i64 (if Hyp.glog a < l then (Hyp.glog a : Int) else 0) := by
  have h0 : a.toNat ≠ 0 := fun h => ha (by rw [← UInt8.toNat_inj]; simpa using h)
  rw [fcell_high (by omega), show 514 + a.toNat - 514 = a.toNat by omega, UInt8.ofNat_toNat]
  by_cases h : Hyp.glog a < l
  · rw [if_pos ⟨by omega, h⟩, if_pos h]
  · rw [if_neg (fun e => h e.2), if_neg h]

/-- a logarithm is laid -/
theorem lay_log (o m q : Int) (k l : Nat) (hl : l < 255) :
    (fcells o m q k l).setIfInBounds (514 + (Hyp.gexp l).toNat) (.int .i64 (l : Int)) = fcells o m q k (l + 1) := by
  have hg := (Hyp.gexp l).toNat_lt
  have hgl := Hyp.glog_gexp l hl
  refine fcells_set (by omega) ?_ ?_
  · rw [fcell_log _ (Hyp.gexp_ne l), hgl, if_pos (by omega)]
  · intro j hj hne
    by_cases h4 : j < 4
    · exact fcell_low h4
    by_cases h : j < 514
    · rw [fcell_mid (by omega) h, fcell_mid (by omega) h]
    · rw [fcell_high (by omega), fcell_high (by omega)]
      congr 1
      by_cases h0 : j = 514
      · rw [if_neg (fun e => e.1 h0), if_neg (fun e => e.1 h0)]
      · have hb : (UInt8.ofNat (j - 514)) ≠ Hyp.gexp l := by
          intro e
          have := congrArg UInt8.toNat e
          rw [toNat_ofNat (by omega)] at this
          omega
        have hz : (UInt8.ofNat (j - 514)) ≠ 0 := by
          intro e
          have := congrArg UInt8.toNat e
          rw [toNat_ofNat (by omega)] at this
          have e0 : (0 : UInt8).toNat = 0 := rfl
          omega
        have hne2 : Hyp.glog (UInt8.ofNat (j - 514)) ≠ l := fun e => hb (by rw [← e, Hyp.gexp_glog _ hz])
        by_cases h3 : Hyp.glog (UInt8.ofNat (j - 514)) < l
        · rw [if_pos ⟨h0, h3⟩, if_pos ⟨h0, by omega⟩]
        · rw [if_neg (fun e => h3 e.2), if_neg (fun e => h3 (by omega))]

theorem stp_hi : ∀ n, n < 256 → 256 ≤ n * 2 → Go.bits BinOp.xor IntKind.i64 ((n * 2 : Nat) : Int) 285 = ((Hyp.stp (UInt8.ofNat n)).toNat : Int) := by decide +kernel
theorem stp_lo : ∀ n, n < 256 → n * 2 < 256 → n * 2 = (Hyp.stp (UInt8.ofNat n)).toNat := by decide +kernel
theorem gexp_hi (k : Nat) (h : (256 : Int) ≤ ((Hyp.gexp k).toNat : Int) * 2) : Go.bits BinOp.xor IntKind.i64 (((Hyp.gexp k).toNat : Int) * 2) 285 = ((Hyp.gexp (k + 1)).toNat : Int) := by
  have := stp_hi (Hyp.gexp k).toNat (Hyp.gexp k).toNat_lt (by omega)
  rw [UInt8.ofNat_toNat] at this
  exact this
theorem gexp_lo (k : Nat) (h : ((Hyp.gexp k).toNat : Int) * 2 < 256) : ((Hyp.gexp k).toNat : Int) * 2 = ((Hyp.gexp (k + 1)).toNat : Int) := by
  have := stp_lo (Hyp.gexp k).toNat (Hyp.gexp k).toNat_lt (by omega)
  rw [UInt8.ofNat_toNat] at this
  have e : ((Hyp.gexp (k + 1)).toNat : Int) = ((Hyp.stp (Hyp.gexp k)).toNat : Int) := rfl
  omega

theorem add_any (a : Addr) (w : World) (n : Nat) (hn : n < 1000000) (hc : w.cell? a = some (.int .i64 n)) (hz : w.frozen? a = false) :
    Calls Try.prog 166 #[.pointer (some a), .int .i64 1] w fun e w' => e = .returned (.int .i64 ((n : Int) + 1)) ∧ w.setCell a (.int .i64 ((n : Int) + 1)) = w' := by
  have hadd := run_call_add (P := Try.prog) Try.func199 (by kernel_rfl) (by kernel_rfl) (by kernel_rfl) .i64 (by kernel_rfl) (y := 1) (s := (n : Int) + 1) hc hz (by simp [go_sem]; exact IntWalk.i64_in _ ⟨by omega, by omega⟩)
  go_enter Try.func166, Try.ntmps166
  go_wp2
  go_ret
  exact ⟨rfl, rfl⟩

set_option maxRecDepth 100000 in
set_option maxHeartbeats 1000000 in
theorem fill_any (f : Nat) (pl : Addr) (hpl : ¬ f = pl.block) (w : World) (hp : w.cell? pl = some (.pointer (some ⟨f, 0, none⟩)))
    (hf : w.heap[f]? = some (.cells (fcells 0 1 0 0 0) 152 (0, 0))) :
    Calls Try.prog 165 #[.pointer (some pl)] w fun e w' => e = .returned (.tuple #[]) ∧ Kf f w w' ∧ w'.heap[f]? = some (.cells (fcells 0 1 1 255 255) 152 (0, 0)) := by
  have HP := Lib.hid hp
  have HF := Lib.hid hf
  clear hp hf
  go_enter Try.func165, Try.ntmps165
  go_wp2
  go_loopw [1, 2, 3] (fun x _ c wr => ∃ k : Nat, k ≤ 255 ∧ c = .int .i64 k ∧ x = .int .i64 ((Hyp.gexp k).toNat : Int) ∧ Kf f w wr ∧ wr.heap[f]? = some (.cells (fcells 0 1 0 k k) 152 (0, 0)))
    (fun _ _ c _ => 255 - (intOf c).toNat)
  case atStart => exact ⟨0, by omega, rfl, rfl, Kf.refl _ _, HF.out⟩
  case round =>
    obtain ⟨k, hk, rfl, rfl, hkf, hfr⟩ := hrel
    have hpr := hkf.cell HP.out (fun e => hpl e.symm)
    by_cases hlt : k < 255
    · have hg := (Hyp.gexp k).toNat_lt
      have g1 : wr.cell? ⟨f, 4 + k, none⟩ = some (fcell 0 1 0 k k (4 + k)) := (blk_at hfr _).trans (fcells_get _ _ _ _ _ _ (by omega))
      have g2 : wr.cell? ⟨f, 4 + (k + 255), none⟩ = some (fcell 0 1 0 k k (4 + (k + 255))) := (blk_at hfr _).trans (fcells_get _ _ _ _ _ _ (by omega))
      have z1 : ∀ j, wr.frozen? ⟨f, j, none⟩ = false := fun j => blk_free hfr j
      have zz1 := z1 (4 + k)
      have zz2 := z1 (4 + (k + 255))
      have hne : ∀ j, (⟨f, j, none⟩ : Addr) ≠ pl := fun j e => hpl (by rw [← e])
      have p1 : (wr.setCell ⟨f, 4 + k, none⟩ (.int .u8 ((Hyp.gexp k).toNat : Int))).cell? pl = some (.pointer (some ⟨f, 0, none⟩)) := (World.cell?_setCell_other _ _ _ _ (hne _)).trans hpr
      have p2 : (wr.setCell ⟨f, 4 + (k + 255), none⟩ (.int .u8 ((Hyp.gexp k).toNat : Int))).cell? pl = some (.pointer (some ⟨f, 0, none⟩)) := (World.cell?_setCell_other _ _ _ _ (hne _)).trans hpr
      have b1 : (k : Int) < 510 := by omega
      have b2 : (k : Int) + 255 < 510 := by omega
      obtain ⟨W2, hW2⟩ : ∃ W2, W2 = ((wr.setCell ⟨f, 4 + k, none⟩ (.int .u8 ((Hyp.gexp k).toNat : Int))).setCell ⟨f, 4 + (k + 255), none⟩ (.int .u8 ((Hyp.gexp k).toNat : Int))).drew := ⟨_, rfl⟩
      have hkf2 : Kf f w W2 := by rw [hW2]; exact ((hkf.set _ _).set _ _).drew
      have hfr2 : W2.heap[f]? = some (.cells (fcells 0 1 0 (k + 1) k) 152 (0, 0)) := by
        rw [hW2, ← lay_exp 0 1 0 k k hlt]
        exact blk_put (blk_put hfr _ _) _ _
      have HKF2 := Lib.hid hkf2
      have HFR2 := Lib.hid hfr2
      have HW2 := Lib.hid hW2
      have HG := Lib.hid hg
      clear hkf hfr z1 hne hkf2 hfr2 hW2
      go_wp2
      go_region
      rw [← HW2.out]
      have hfr := HFR2.out
      have hpr2 := HKF2.out.cell HP.out (fun e => hpl e.symm)
      have g3 : W2.cell? ⟨f, 514 + (Hyp.gexp k).toNat, none⟩ = some (fcell 0 1 0 (k + 1) k (514 + (Hyp.gexp k).toNat)) := (blk_at hfr _).trans (fcells_get _ _ _ _ _ _ (by omega))
      have z3 : W2.frozen? ⟨f, 514 + (Hyp.gexp k).toNat, none⟩ = false := blk_free hfr _
      clear hfr p1 p2 g1 g2 zz1 zz2
      go_wp2
      all_goals go_roundw
      case rel =>
        have h1 : (256 : Int) ≤ ((Hyp.gexp k).toNat : Int) * 2 := by assumption
        exact ⟨k + 1, by omega, by go_num, congrArg (Value.int .i64) (gexp_hi k h1), (HKF2.out).set _ _, by rw [← lay_log 0 1 0 (k + 1) k hlt]; exact blk_put HFR2.out _ _⟩
      case measure => simp [intOf]; omega
      case rel =>
        have h1 : ((Hyp.gexp k).toNat : Int) * 2 < 256 := by assumption
        exact ⟨k + 1, by omega, by go_num, congrArg (Value.int .i64) (gexp_lo k h1), (HKF2.out).set _ _, by rw [← lay_log 0 1 0 (k + 1) k hlt]; exact blk_put HFR2.out _ _⟩
      case measure => simp [intOf]; omega
    · obtain rfl : k = 255 := by omega
      have g3 : wr.cell? ⟨f, 3, none⟩ = some (.int .i64 ((0 : Nat) : Int)) := (blk_at hfr _).trans (fcells_get _ _ _ _ _ _ (by omega))
      have z3 : wr.frozen? ⟨f, 3, none⟩ = false := blk_free hfr _
      have G3 := Lib.hid g3
      have HKF := Lib.hid hkf
      have HFR := Lib.hid hfr
      clear hkf hfr g3
      go_wp2_with (go_at_call 166; refine (add_any ⟨f, 3, none⟩ _ 0 (by omega) G3.out z3).mono ?_; rintro e w' ⟨rfl, rfl⟩)
      go_end0
      refine ⟨rfl, HKF.out.set _ _, ?_⟩
      have : fcells 0 1 1 255 255 = (fcells 0 1 0 255 255).setIfInBounds 3 (.int .i64 (((0 : Nat) : Int) + 1)) := by
        refine (fcells_set (by omega) rfl ?_).symm
        intro j hj hne
        unfold fcell
        by_cases j0 : j = 0
        · rw [if_pos j0, if_pos j0]
        · rw [if_neg j0, if_neg j0, if_neg hne, if_neg hne]
      rw [this]
      exact blk_put HFR.out _ _

/-- w' is w behind the making of the tables: block f holds them; new blocks. -/
def Tabled (f : Nat) (w w' : World) : Prop := Kf f w w' ∧ FMade w' f

theorem fc_head (o m q : Int) (k l : Nat) : fcell o m q k l 0 = .int .u32 o ∧ fcell o m q k l 1 = .int .i32 m ∧ fcell o m q k l 3 = .int .i64 q := ⟨rfl, rfl, rfl⟩

set_option maxRecDepth 100000 in
set_option maxHeartbeats 1600000 in
/-- doSlow, the tables not there. -/
theorem slow_any (f : Nat) (pl : Addr) (hpl : ¬ f = pl.block) (w : World) (hp : w.cell? pl = some (.pointer (some ⟨f, 0, none⟩))) (hf : FFresh w f) :
    Calls Try.prog 198 #[.pointer (some ⟨f, 0, none⟩), .func (.func 165) #[] #[.pointer (some pl)]] w fun e w' => e = .returned (.tuple #[]) ∧ Tabled f w w' := by
  unfold FFresh at hf
  have h0 : w.cell? ⟨f, 0, none⟩ = some (.int .u32 0) := (blk_at hf 0).trans (fcells_get _ _ _ _ _ _ (by omega))
  have h1 : w.cell? ⟨f, 1, none⟩ = some (.int .i32 0) := (blk_at hf 1).trans (fcells_get _ _ _ _ _ _ (by omega))
  have f1 : w.frozen? ⟨f, 1, none⟩ = false := blk_free hf 1
  have hl := run_call_load (P := Try.prog) Try.func231 (by kernel_rfl) (by kernel_rfl) (by kernel_rfl) .u32 (by kernel_rfl) (w := w.setCell ⟨f, 1, none⟩ (.int .i32 1)) (a := ⟨f, 0, none⟩) (x := 0) ((World.cell?_setCell_other _ ⟨f, 1, none⟩ ⟨f, 0, none⟩ _ (by simp)).trans h0)
  have hp1 : (w.setCell ⟨f, 1, none⟩ (.int .i32 1)).cell? pl = some (.pointer (some ⟨f, 0, none⟩)) := (World.cell?_setCell_other _ ⟨f, 1, none⟩ pl _ (fun h => hpl (by rw [← h]))).trans hp
  have hf1 : (w.setCell ⟨f, 1, none⟩ (.int .i32 1)).heap[f]? = some (.cells (fcells 0 1 0 0 0) 152 (0, 0)) := by
    have e : (fcells 0 0 0 0 0).setIfInBounds 1 (.int .i32 1) = fcells 0 1 0 0 0 := by
      refine fcells_set (by omega) rfl ?_
      intro j hj hne
      unfold fcell
      by_cases j0 : j = 0
      · rw [if_pos j0, if_pos j0]
      · rw [if_neg j0, if_neg j0, if_neg hne, if_neg hne]
    rw [← e]
    exact blk_put hf _ _
  have hnot : ∀ (x : Bool) (w : World), (Op.unary .not (.bool x)).run Try.prog w = .ok (.bool (!x)) w := fun _ _ => rfl
  have HP1 := Lib.hid hp1
  have HF1 := Lib.hid hf1
  clear hp1 hf1 hp hf
  go_enter_defers Try.func198, Try.ntmps198
  go_wp2_with (first | (go_at_call 232; refine (lock_free ⟨f, 1, none⟩ _ h1 f1).mono ?_; rintro e w' ⟨rfl, rfl⟩) | (go_at_call 197; go_in) | (go_at_call 165; refine (fill_any f pl hpl _ HP1.out HF1.out).mono ?_; rintro e w1 ⟨rfl, hk1, hb1⟩))
  have c0 : w1.cell? ⟨f, 0, none⟩ = some (.int .u32 0) := (blk_at hb1 0).trans (fcells_get _ _ _ _ _ _ (by omega))
  have c1 : w1.cell? ⟨f, 1, none⟩ = some (.int .i32 1) := (blk_at hb1 1).trans (fcells_get _ _ _ _ _ _ (by omega))
  refine leaves_cons (f := 234) (args := #[.pointer (some ⟨f, 0, none⟩), .bool true]) (by simp) (by simp [go_sem]) ?_
  refine (store_deferred ⟨f, 0, none⟩ (.int .u32 0) .returning _ c0 (blk_free hb1 0)).mono ?_
  rintro e u' w'' ⟨rfl, rfl, rfl⟩
  refine leaves_cons (f := 233) (args := #[.pointer (some ⟨f, 1, none⟩)]) (by simp [settle]) (by simp [go_sem]) ?_
  have hb2 : (w1.drew.setCell ⟨f, 0, none⟩ (.int .u32 1)).heap[f]? = some (.cells ((fcells 0 1 1 255 255).setIfInBounds 0 (.int .u32 1)) 152 (0, 0)) := blk_put (show w1.drew.heap[f]? = _ from hb1) _ _
  refine (unlock_deferred ⟨f, 1, none⟩ _ _ ?_ ?_).mono ?_
  · exact (World.cell?_setCell_other _ ⟨f, 0, none⟩ ⟨f, 1, none⟩ _ (by simp)).trans c1
  · exact blk_free hb2 1
  rintro e u' w'' ⟨rfl, rfl, rfl⟩
  have hT : Tabled f w ((w1.drew.setCell ⟨f, 0, none⟩ (.int .u32 1)).setCell ⟨f, 1, none⟩ (.int .i32 0)) := by
    refine ⟨(((((Kf.refl f w).set 1 (.int .i32 1)).trans hk1).drew).set 0 _).set 1 _, ?_⟩
    have e1 : (fcells 0 1 1 255 255).setIfInBounds 0 (.int .u32 1) = fcells 1 1 1 255 255 := by
      refine fcells_set (by omega) rfl ?_
      intro j hj hne
      unfold fcell
      rw [if_neg hne, if_neg hne]
    have e2 : (fcells 1 1 1 255 255).setIfInBounds 1 (.int .i32 0) = fcells 1 0 1 255 255 := by
      refine fcells_set (by omega) rfl ?_
      intro j hj hne
      unfold fcell
      by_cases j0 : j = 0
      · rw [if_pos j0, if_pos j0]
      · rw [if_neg j0, if_neg j0, if_neg hne, if_neg hne]
    unfold FMade
    rw [← e2, ← e1]
    exact blk_put hb2 _ _
  simpa [Leaves, settle, results, Try.results198] using hT

/-- Once.Do, the tables not there; there. -/
theorem do_first (f : Nat) (pl : Addr) (hpl : ¬ f = pl.block) (w : World) (hp : w.cell? pl = some (.pointer (some ⟨f, 0, none⟩))) (hf : FFresh w f) :
    Calls Try.prog 164 #[.pointer (some ⟨f, 0, none⟩), .func (.func 165) #[] #[.pointer (some pl)]] w fun e w' => e = .returned (.tuple #[]) ∧ Tabled f w w' := by
  have h0 : w.cell? ⟨f, 0, none⟩ = some (.int .u32 0) := (blk_at (show w.heap[f]? = _ from hf) 0).trans (fcells_get _ _ _ _ _ _ (by omega))
  have hl := run_call_load (P := Try.prog) Try.func231 (by kernel_rfl) (by kernel_rfl) (by kernel_rfl) .u32 (by kernel_rfl) h0
  have hnot : ∀ (x : Bool) (w : World), (Op.unary .not (.bool x)).run Try.prog w = .ok (.bool (!x)) w := fun _ _ => rfl
  have HP := Lib.hid hp
  clear hp
  go_enter Try.func164, Try.ntmps164
  go_wp2_with (first | (go_at_call 198; refine (slow_any f pl hpl _ HP.out hf).mono ?_; rintro e w1 ⟨rfl, hT⟩) | (go_at_call 197; go_in))
  go_end0
  exact ⟨rfl, hT⟩

theorem do_done (f : Nat) (fv : Value) (w : World) (hf : FMade w f) :
    Calls Try.prog 164 #[.pointer (some ⟨f, 0, none⟩), fv] w fun e w' => e = .returned (.tuple #[]) ∧ w = w' := by
  have h0 : w.cell? ⟨f, 0, none⟩ = some (.int .u32 1) := (blk_at (show w.heap[f]? = _ from hf) 0).trans (fcells_get _ _ _ _ _ _ (by omega))
  have hl := run_call_load (P := Try.prog) Try.func231 (by kernel_rfl) (by kernel_rfl) (by kernel_rfl) .u32 (by kernel_rfl) h0
  have hnot : ∀ (x : Bool) (w : World), (Op.unary .not (.bool x)).run Try.prog w = .ok (.bool (!x)) w := fun _ _ => rfl
  go_enter Try.func164, Try.ntmps164
  go_wp2
  go_end0
  exact ⟨rfl, rfl⟩

theorem tables_any (f : Nat) (w : World) (hf : Fld w f) :
    Calls Try.prog 119 #[.pointer (some ⟨f, 0, none⟩)] w fun e w' => e = .returned (.tuple #[]) ∧ Tabled f w w' := by
  have hmf : ∀ (fn : Fn) (first cap : Array Value) (w : World), (Instr.makeFunc fn first cap).run Try.prog w = .ok (.func fn first cap) w := fun _ _ _ _ => rfl
  have hlt := hf.lt
  rcases hf with hf | hf
  · have hf2 : FFresh (w.alloc (.cells #[.pointer (some ⟨f, 0, none⟩)] 43)) f := (Below.heap_alloc w _ f hlt).trans hf
    have hc : (w.alloc (.cells #[.pointer (some ⟨f, 0, none⟩)] 43)).cell? ⟨w.heap.size, 0, none⟩ = some (.pointer (some ⟨f, 0, none⟩)) := by simp
    have HC := Lib.hid hc
    clear hc hf
    go_enter Try.func119, Try.ntmps119
    go_wp2_with (go_at_call 164; refine (do_first f ⟨w.heap.size, 0, none⟩ (by simp; omega) _ HC.out hf2).mono ?_; rintro e w1 ⟨rfl, hT⟩)
    go_end0
    exact ⟨rfl, ((Kf.refl f w).alloc _).trans hT.1, hT.2⟩
  · have hf2 : FMade (w.alloc (.cells #[.pointer (some ⟨f, 0, none⟩)] 43)) f := (Below.heap_alloc w _ f hlt).trans hf
    go_enter Try.func119, Try.ntmps119
    go_wp2_with (go_at_call 164; refine (do_done f _ _ hf2).mono ?_; rintro e w1 ⟨rfl, rfl⟩)
    go_end0
    exact ⟨rfl, (Kf.refl f w).alloc _, hf2⟩

theorem wrap64_ix (n : Nat) (h : n < 1000) : IntKind.i64.wrap (n : Int) = n := IntWalk.i64_in _ ⟨by omega, by omega⟩

set_option maxHeartbeats 400000 in
theorem mul_zero_l (f : Nat) (b : UInt8) (w : World) :
    Calls Try.prog 123 #[.pointer (some ⟨f, 0, none⟩), .int .u8 0, .int .u8 (b.toNat : Int)] w fun e w' => e = .returned (.int .u8 0) ∧ w = w' := by
  go_enter Try.func123, Try.ntmps123
  go_wp2
  go_ret
  exact ⟨rfl, rfl⟩
set_option maxHeartbeats 400000 in
theorem mul_zero_r (f : Nat) (a : UInt8) (ha : ((a.toNat : Int) == 0) = false) (w : World) :
    Calls Try.prog 123 #[.pointer (some ⟨f, 0, none⟩), .int .u8 (a.toNat : Int), .int .u8 0] w fun e w' => e = .returned (.int .u8 0) ∧ w = w' := by
  go_enter Try.func123, Try.ntmps123
  go_wp2
  go_ret
  exact ⟨rfl, rfl⟩

theorem made_log {w : World} {f : Nat} (h : FMade w f) (a : UInt8) (ha : a ≠ 0) : w.cell? ⟨f, 514 + a.toNat, none⟩ = some (.int .i64 (Hyp.glog a : Int)) := by
  have := a.toNat_lt
  rw [blk_at h, fcells_get _ _ _ _ _ _ (by omega), fcell_log a ha, if_pos (Hyp.glog_lt a ha)]
theorem made_exp {w : World} {f : Nat} (h : FMade w f) (j : Nat) (hj : j < 510) : w.cell? ⟨f, 4 + j, none⟩ = some (.int .u8 ((Hyp.gexp j).toNat : Int)) := by
  have hp : Hyp.gexp (j % 255) = Hyp.gexp j := by
    by_cases h1 : j < 255
    · rw [Nat.mod_eq_of_lt h1]
    · have := Hyp.gexp_period (j - 255)
      rw [show j - 255 + 255 = j by omega] at this
      rw [show j % 255 = j - 255 by omega, this]
  rw [blk_at h, fcells_get _ _ _ _ _ _ (by omega), fcell_mid (by omega) (by omega), show 4 + j - 4 = j by omega, if_pos (by omega), hp]

theorem u8_ne (a : UInt8) (ha : a ≠ 0) : ((a.toNat : Int) == 0) = false := by
  rw [beq_eq_false_iff_ne]
  intro h
  apply ha
  rw [← UInt8.toNat_inj]
  have e0 : (0 : UInt8).toNat = 0 := rfl
  omega

/-- some word on the world behind a call that may have made the tables -/
def MulPost (f : Nat) (w : World) (v : Value) (e : Ending) (w' : World) : Prop := e = .returned v ∧ Kf f w w' ∧ Fld w' f

set_option maxRecDepth 100000 in
set_option maxHeartbeats 1000000 in
theorem mul_tab (f : Nat) (a b : UInt8) (ha : a ≠ 0) (hb : b ≠ 0) (w : World) (hf : Fld w f) :
    Calls Try.prog 123 #[.pointer (some ⟨f, 0, none⟩), .int .u8 (a.toNat : Int), .int .u8 (b.toNat : Int)] w (MulPost f w (.int .u8 ((Hyp.mul a b).toNat : Int))) := by
  have ea := u8_ne a ha
  have eb := u8_ne b hb
  have la := a.toNat_lt
  have lb := b.toNat_lt
  have l1 := Hyp.glog_lt a ha
  have l2 := Hyp.glog_lt b hb
  have hm := Lib.hid (Hyp.mul_tab a b ha hb)
  go_enter Try.func123, Try.ntmps123
  go_wp2_with (go_at_call 119; refine (tables_any f _ hf).mono ?_; rintro e w1 ⟨rfl, hT⟩)
  have HT := Lib.hid hT
  have hx := made_log hT.2 a ha
  have hy := made_log hT.2 b hb
  have hz := made_exp hT.2 (Hyp.glog a + Hyp.glog b) (by omega)
  clear hT
  go_quiet (fail)
  go_wp2
  go_ret
  refine ⟨?_, (HT.out.1).drewN _, HT.out.2.fld.drewN _⟩
  rw [hm.out]
  rfl

theorem mul_any (f : Nat) (a b : UInt8) (w : World) (hf : Fld w f) :
    Calls Try.prog 123 #[.pointer (some ⟨f, 0, none⟩), .int .u8 (a.toNat : Int), .int .u8 (b.toNat : Int)] w (MulPost f w (.int .u8 ((Hyp.mul a b).toNat : Int))) := by
  by_cases ha : a = 0
  · subst ha
    refine (mul_zero_l f b w).mono ?_
    rintro e w' ⟨rfl, rfl⟩
    exact ⟨by rw [Hyp.zero_mul]; rfl, Kf.refl _ _, hf⟩
  by_cases hb : b = 0
  · subst hb
    refine (mul_zero_r f a (u8_ne a ha) w).mono ?_
    rintro e w' ⟨rfl, rfl⟩
    exact ⟨by rw [Hyp.mul_zero]; rfl, Kf.refl _ _, hf⟩
  exact mul_tab f a b ha hb w hf

set_option maxRecDepth 100000 in
set_option maxHeartbeats 1000000 in
theorem inv_tab (f : Nat) (a : UInt8) (ha : a ≠ 0) (w : World) (hf : Fld w f) :
    Calls Try.prog 78 #[.pointer (some ⟨f, 0, none⟩), .int .u8 (a.toNat : Int)] w fun e w' => MulPost f w (.tuple #[.int .u8 ((Hyp.inv a).toNat : Int), .bool true]) e w' ∧ FMade w' f := by
  have ea := u8_ne a ha
  have la := a.toNat_lt
  have l1 := Hyp.glog_lt a ha
  have hm := Lib.hid (show Hyp.inv a = Hyp.gexp (255 - Hyp.glog a) by unfold Hyp.inv; rw [if_neg ha])
  go_enter Try.func78, Try.ntmps78
  go_wp2_with (go_at_call 119; refine (tables_any f _ hf).mono ?_; rintro e w1 ⟨rfl, hT⟩)
  have HT := Lib.hid hT
  have hx := made_log hT.2 a ha
  have hz := made_exp hT.2 (255 - Hyp.glog a) (by omega)
  have hw : IntKind.i64.wrap (255 - (Hyp.glog a : Int)) = ((255 - Hyp.glog a : Nat) : Int) := by rw [IntWalk.i64_in _ ⟨by omega, by omega⟩]; omega
  clear hT
  go_quiet (fail)
  go_wp2
  go_ret2
  refine ⟨⟨?_, (HT.out.1).drewN _, HT.out.2.fld.drewN _⟩, HT.out.2⟩
  rw [hm.out]
  rfl

set_option maxHeartbeats 400000 in
theorem inv_zero (f : Nat) (w : World) :
    Calls Try.prog 78 #[.pointer (some ⟨f, 0, none⟩), .int .u8 0] w fun e w' => e = .returned (.tuple #[.int .u8 0, .bool false]) ∧ w = w' := by
  go_enter Try.func78, Try.ntmps78
  go_wp2
  go_ret2
  exact ⟨rfl, rfl⟩

theorem inv_any (f : Nat) (a : UInt8) (w : World) (hf : Fld w f) :
    Calls Try.prog 78 #[.pointer (some ⟨f, 0, none⟩), .int .u8 (a.toNat : Int)] w fun e w' => MulPost f w (.tuple #[.int .u8 ((Hyp.inv a).toNat : Int), .bool (decide (a ≠ 0))]) e w' := by
  by_cases ha : a = 0
  · subst ha
    refine (inv_zero f w).mono ?_
    rintro e w' ⟨rfl, rfl⟩
    exact ⟨rfl, Kf.refl _ _, hf⟩
  · refine (inv_tab f a ha w hf).mono ?_
    rintro e w' ⟨h, _⟩
    have : decide (a ≠ 0) = true := decide_eq_true ha
    rw [this]
    exact h

def zcell (i : Nat) : Value := if i = 0 then .int .u32 0 else if i = 1 then .int .i32 0 else if i = 2 then .int .u32 0 else if i = 3 then .int .i64 0 else if i < 514 then .int .u8 0 else .int .i64 0
theorem fcell_none (i : Nat) : fcell 0 0 0 0 0 i = zcell i := by
  unfold fcell zcell
  simp
theorem zcells_none : Try.zeroCells152 = Array.ofFn (n := 770) (fun i : Fin 770 => zcell i.val) := by kernel_rfl
theorem fcells_none : Try.zeroCells152 = fcells 0 0 0 0 0 := by
  rw [zcells_none]
  unfold fcells
  congr 1
  funext i
  exact (fcell_none i.val).symm
set_option maxRecDepth 100000 in
theorem gfNew_any (w : World) :
    Calls Try.prog 23 #[] w fun e w' => e = .returned (.pointer (some ⟨w.heap.size, 0, none⟩)) ∧ w.alloc (.cells (fcells 0 0 0 0 0) 152) = w' := by
  go_enter Try.func23, Try.ntmps23
  go_wp2
  go_ret
  exact ⟨rfl, by rw [fcells_none]⟩
end Go.Proofs.Ytnfodhagfcjfpaa

/- slices.Clone, Grow and Concat at bytes. -/
namespace Go.Proofs.Ytnfodhagfcjfpaa
open Go.RowKit Go.Proofs.YtnfodhagfcjfpaaW.PrintWords Go.Proofs.YtnfodhagfcjfpaaW.PrintLast Go.Proofs.YtnfodhagfcjfpaaW.PrintMore
set_option linter.unusedVariables false
set_option linter.unusedSimpArgs false

abbrev BK : Kd Int := Kd.int .u8
abbrev LK : Kd (List Int) := Kd.slice 5 BK
theorem infoB : (Try.prog.info? 5).map (fun i => (i.zero, i.size, i.bytes)) = some (some (.int .u8 0), 1, 1) := by kernel_rfl
theorem infoBs : (Try.prog.info? 22).map (fun i => (i.zero, i.size, i.bytes)) = some (some (.slice none 0 0), 1, 24) := by kernel_rfl

/-- the room that is asked of what is made -/
def big : Nat := 1099511627776

theorem nil_of_C {w : World} {n : Nat} {l : List Int} (h : BK.C w none n l) : l = [] ∧ n = 0 := by
  obtain ⟨h1, _, h2⟩ := h
  have : n = 0 := by
    apply Classical.byContradiction
    intro hn
    obtain ⟨ad, h, _⟩ := h2 (by omega)
    cases h
  subst this
  exact ⟨List.eq_nil_of_length_eq_zero h1, rfl⟩

theorem BK_at {w : World} {A : Option Addr} {n : Nat} {l : List Int} (h : BK.C w A n l) (k : Nat) (hk : k < n) :
    ∃ ad, A = some ad ∧ w.cell? (ad.add k) = some (.int .u8 (l.getD k 0)) := by
  obtain ⟨ad, c, e, _, hK, hc⟩ := Kd.C_get h 0 (k : Int) (by omega) (by omega)
  have hK' : c = [.int .u8 (l.getD k 0)] := hK
  subst hK'
  have := hc 0 _ rfl
  simp only [Int.toNat_natCast] at this
  exact ⟨ad, e, by rw [show k * BK.sz + 0 = k from by show k * 1 + 0 = k; omega] at this; exact this⟩
theorem LK_at {w : World} {A : Option Addr} {n : Nat} {ll : List (List Int)} (h : LK.C w A n ll) (k : Nat) (hk : k < n) :
    ∃ ad A0 c0, A = some ad ∧ w.cell? (ad.add k) = some (.slice A0 (ll.getD k []).length c0) ∧ (ll.getD k []).length ≤ c0 ∧ BK.C w A0 (ll.getD k []).length (ll.getD k []) := by
  obtain ⟨ad, c, e, _, hK, hc⟩ := Kd.C_get h [] (k : Int) (by omega) (by omega)
  obtain ⟨A0, c0, rfl, l0, g0⟩ := hK
  have := hc 0 _ rfl
  simp only [Int.toNat_natCast] at this l0 g0
  exact ⟨ad, A0, c0, e, by rw [show k * LK.sz + 0 = k from by show k * 1 + 0 = k; omega] at this; exact this, l0, g0⟩
theorem getD_lt {α : Type} (l : List α) (k : Nat) (d : α) (h : k < l.length) : l.getD k d = l[k] := by simp [List.getD_eq_getElem?_getD, h]
theorem take_flat {α : Type} (ll : List (List α)) (k : Nat) (h : k < ll.length) : (ll.take (k + 1)).flatten = (ll.take k).flatten ++ ll.getD k [] := by
  rw [List.take_succ_eq_append_getElem h, List.flatten_append, getD_lt _ _ _ h]
  simp

theorem nonnil_of_own {v : Value} {k : Nat} (h : v.ownBlock = some k) : ∃ g n c, v = .slice (some g) n c := by
  unfold Value.ownBlock at h
  split at h
  · exact ⟨_, _, _, rfl⟩
  · cases h

set_option maxRecDepth 100000 in
set_option maxHeartbeats 1000000 in
theorem cloneB_any (A : Option Addr) (c : Nat) (l : List Int) (w : World) (hr : BK.C w A l.length l) (hsz : l.length ≤ big) :
    Calls Try.prog 83 #[.slice A l.length c] w fun e w' => ∃ v, e = .returned v ∧ BK.R 5 w' w.heap.size (fun _ => True) v l ∧ Below w.heap.size w w' ∧ (A = none → v = .slice none 0 0) ∧ (A ≠ none → ∃ g n c, v = .slice (some g) n c) := by
  unfold big at hsz
  have hq := fun w => Lib.run_eql_slice_nil (P := Try.prog) w 22 5 A l.length c 0 0 Try.underlying22
  cases A with
  | none =>
    obtain ⟨rfl, _⟩ := nil_of_C hr
    simp only [List.length_nil] at hq ⊢
    go_enter Try.func83, Try.ntmps83
    go_wp2
    go_ret
    exact ⟨_, rfl, Kd.R_nil _ _ _ _ _, Below.refl _ _, fun _ => rfl, fun h => absurd rfl h⟩
  | some ad =>
    have HR := Lib.hid hr
    clear hr
    go_enter Try.func83, Try.ntmps83
    have hown : BK.R 5 (w.alloc (.cells #[] 5)) w.heap.size (fun _ => True) (.slice (some ⟨w.heap.size, 0, none⟩) 0 0) [] := Kd.R_of_own (own_lit w w.heap.size 5 .u8 [] (Nat.le_refl _) (by simp)) (fun _ _ => trivial)
    have HOWN := Lib.hid hown
    clear hown
    go_wp2_with (first | ((with_reducible refine gate_builtin (b := .append) (xs := #[.tmp 5, .tmp 6]) rfl ?_); at_builtin; refine Kd.R_append_row (Value.int .u8) 0 (w0 := w) w.heap.size rfl (.tmp 5) (.tmp 6) 22 5 (.int .u8 0) 1 rfl Try.underlying22 infoB rfl (by omega) (.slice (some ⟨w.heap.size, 0, none⟩) 0 0) [] l (some ad) l.length c (fun _ => True) rfl rfl (fun _ _ => trivial) HOWN.out (Kd.C_below HR.out (below_alloc (Below.refl _ _) _)) (below_alloc (Below.refl _ _) _) ?c4 ?c5 ?_))
    case c4 => simp
    case c5 => simp; omega
    intro v1 w1 hown1 hb1 hg1 hat1
    go_wp2
    go_ret
    refine ⟨_, rfl, hown1, hb1, fun h => (by cases h), fun _ => ?_⟩
    have hk : ∃ k, v1.ownBlock = some k := by
      rcases hat1 with h | ⟨b, h, _⟩
      · exact ⟨_, h⟩
      · exact ⟨_, h⟩
    obtain ⟨k, hk⟩ := hk
    exact nonnil_of_own hk

set_option maxRecDepth 100000 in
set_option maxHeartbeats 1000000 in
/-- slices.Grow of a nil slice: no element yet. -/
theorem growB_nil (n : Nat) (w : World) (hn : n ≤ big) :
    Calls Try.prog 149 #[.slice none 0 0, .int .i64 (n : Int)] w fun e w' => ∃ v, e = .returned v ∧ BK.R 5 w' w.heap.size (fun _ => True) v [] ∧ Below w.heap.size w w' := by
  unfold big at hn
  by_cases h0 : n = 0
  · subst h0
    go_enter Try.func149, Try.ntmps149
    go_wp2
    go_ret
    exact ⟨_, rfl, Kd.R_nil _ _ _ _ _, Below.refl _ _⟩
  · have hpos : (0 : Int) < n := by omega
    have hpb : decide ((0 : Int) < n) = true := decide_eq_true hpos
    go_enter Try.func149, Try.ntmps149
    go_wp2_with (first | ((with_reducible refine gate_builtin (b := .append) (xs := #[.tmp 20, .tmp 21]) rfl ?_); at_builtin; refine Kd.R_append_zeros BK (w0 := w) w.heap.size rfl (.tmp 20) (.tmp 21) 22 3 5 (.int .u8 0) 1 rfl Try.underlying22 Try.underlying3 infoB rfl (by decide) (by omega) (.slice none 0 0) [] 0 (n : Int) (fun _ => True) rfl rfl ?c1 (fun _ _ => trivial) (Kd.R_nil _ _ _ _ _) (by omega) (Below.refl _ _) (Nat.le_refl _) ?c5 ?_))
    case c1 => exact (by first | rfl | exact ⟨rfl, rfl⟩)
    case c5 => simp; omega
    intro v1 w1 hown1 hb1 hg1 hat1
    obtain ⟨A1, c1, rfl, hlc, hrd⟩ := Kd.R_reads hown1
    have HOWN := Lib.hid hown1
    clear hown1 hg1 hat1 hrd
    go_wp2
    go_ret
    exact ⟨_, rfl, Kd.R_take (m := 0) HOWN.out (Nat.zero_le _), hb1⟩

set_option maxRecDepth 100000 in
set_option maxHeartbeats 1000000 in
/-- slices.Concat at bytes. -/
theorem concatB_any (A : Option Addr) (c : Nat) (ll : List (List Int)) (w : World) (hr : LK.C w A ll.length ll) (hsz : ll.flatten.length ≤ big) :
    Calls Try.prog 97 #[.slice A ll.length c] w fun e w' => ∃ v, e = .returned v ∧ BK.R 5 w' w.heap.size (fun _ => True) v ll.flatten ∧ Below w.heap.size w w' := by
  have HR := Lib.hid hr
  have HSZ := Lib.hid hsz
  have hlen := hr.2.1
  have hg0 : ∀ k, (ll.take k).flatten.length ≤ ll.flatten.length := fun k => by
    have := congrArg List.length (congrArg List.flatten (List.take_append_drop k ll))
    rw [List.flatten_append, List.length_append] at this
    omega
  have HG0 := Lib.hid hg0
  clear hr hsz hg0
  go_enter Try.func97, Try.ntmps97
  go_wp2
  go_loop [3, 5, 11] (fun s _ i => ∃ k m : Nat, k ≤ ll.length ∧ i = .int .i64 k ∧ s = .int .i64 (m : Int) ∧ Hid (m = (ll.take k).flatten.length)) (fun _ _ i => ll.length - (intOf i).toNat)
  case atStart => exact ⟨0, 0, Nat.zero_le _, rfl, rfl, Lib.hid rfl⟩
  case round =>
    obtain ⟨k, m, hk, rfl, rfl, HM⟩ := hrel
    by_cases hlt : k < ll.length
    · obtain ⟨ad, A0, c0, rfl, hc1, hlc, _⟩ := LK_at HR.out k hlt
      obtain ⟨x, hx⟩ : ∃ x, x = ll.getD k [] := ⟨_, rfl⟩
      have hs2 := HG0.out (k + 1)
      have hsz := HSZ.out
      unfold big at hsz
      rw [take_flat ll k hlt, List.length_append, ← HM.out, ← hx] at hs2
      have hm2 : m + x.length ≤ 1099511627776 := by omega
      rw [← hx] at hc1 hlc
      have HX := Lib.hid hx
      clear hx hs2 hsz
      go_wp2
      go_round
      case rel => exact ⟨k + 1, m + x.length, by omega, by go_num, by go_num, Lib.hid (by rw [take_flat ll k hlt, List.length_append, ← HM.out, ← HX.out])⟩
      case measure => simp [intOf]; omega
    · obtain rfl : k = ll.length := by omega
      have hm : m = ll.flatten.length := by rw [HM.out, List.take_length]
      have hsz := HSZ.out
      rw [← hm] at hsz
      have HM2 := Lib.hid hm
      clear hm HM
      go_wp2_with (go_at_call 149; refine (growB_nil m _ hsz).mono ?_; rintro e w1 ⟨v0, rfl, hown0, hb0⟩)
      unfold big at hsz
      have HO := Lib.hid hown0
      have HB := Lib.hid hb0
      clear hown0 hb0
      go_loopw [6, 8, 27] (fun v _ i wr => ∃ k : Nat, k ≤ ll.length ∧ i = .int .i64 k ∧ Hid (BK.R 5 wr w.heap.size (fun _ => True) v (ll.take k).flatten) ∧ Hid (Below w.heap.size w wr)) (fun _ _ i _ => ll.length - (intOf i).toNat)
      case atStart => exact ⟨0, Nat.zero_le _, rfl, HO, HB⟩
      case round =>
        obtain ⟨k, hk, rfl, HO1, HB1⟩ := hrel
        by_cases hlt2 : k < ll.length
        · obtain ⟨ad, A0, c0, rfl, hc1, hlc, hrd⟩ := LK_at HR.out k hlt2
          obtain ⟨x, hx⟩ : ∃ x, x = ll.getD k [] := ⟨_, rfl⟩
          have hs2 := HG0.out (k + 1)
          rw [take_flat ll k hlt2, List.length_append, ← HM2.out, ← hx] at hs2
          rw [← hx] at hc1 hlc hrd
          replace hc1 := (HB1.out.cell (World.block_lt_of_cell? w _ hc1)).trans hc1
          have HRD := Lib.hid hrd
          have HX := Lib.hid hx
          have HS2 := Lib.hid hs2
          clear hx hrd hs2
          go_wp2_with (first | ((with_reducible refine gate_builtin (b := .append) (xs := #[.tmp 31, .tmp 32]) rfl ?_); at_builtin; refine Kd.R_append_row (Value.int .u8) 0 (w0 := w) w.heap.size rfl (.tmp 31) (.tmp 32) 22 5 (.int .u8 0) 1 rfl Try.underlying22 infoB rfl (by omega) u6 (ll.take k).flatten x A0 x.length c0 (fun _ => True) rfl rfl (fun _ _ => trivial) HO1.out (Kd.C_below HRD.out HB1.out) HB1.out HB1.out.size ?c5 ?_))
          case c5 =>
            have := HS2.out
            rw [Nat.mul_one]
            omega
          intro v1 w1 hown1 hb1 hg1 _
          have HO2 := Lib.hid hown1
          have HB2 := Lib.hid hb1
          clear hown1 hb1 hg1
          go_wp2
          go_roundw
          case rel => exact ⟨k + 1, by omega, by go_num, Lib.hid (by rw [take_flat ll k hlt2, ← HX.out]; exact HO2.out), HB2⟩
          case measure => simp [intOf]; omega
        · obtain rfl : k = ll.length := by omega
          go_wp2
          go_ret
          refine ⟨_, rfl, ?_, HB1.out⟩
          have := HO1.out
          rw [List.take_length] at this
          exact this
end Go.Proofs.Ytnfodhagfcjfpaa

/- slices.ContainsFunc at rows of bytes, asked for a length; slices.Compact at bytes that are sorted. -/
namespace Go.Proofs.Ytnfodhagfcjfpaa
open Go.RowKit Go.Proofs.YtnfodhagfcjfpaaW.PrintWords Go.Proofs.YtnfodhagfcjfpaaW.PrintLast Go.Proofs.YtnfodhagfcjfpaaW.PrintMore
set_option linter.unusedVariables false
set_option linter.unusedSimpArgs false

/-- A closure that asks whether a row has another length than the number in its captured cell. -/
structure AsksLen (K : FuncId) : Prop where
  enters : ∀ (args : Array Value) (w : World), (callFunc K args).run Try.prog w = .ok (.enter K args) w
  asks : ∀ (w1 : World) (pl : Addr) (n : Nat) (A0 : Option Addr) (n0 c0 : Nat), w1.cell? pl = some (.int .i64 (n : Int)) →
    Calls Try.prog K #[.slice A0 n0 c0, .pointer (some pl)] w1 fun e w' => e = .returned (.bool ((n0 : Int) != (n : Int))) ∧ w1 = w'

theorem asksBool (n0 n : Nat) : ((n0 : Int) != (n : Int)) = decide (n0 ≠ n) := by
  by_cases h : n0 = n
  · subst h; simp
  · rw [decide_eq_true h, bne_iff_ne]; omega

theorem asks_Encode1 : AsksLen 86 := by
  refine ⟨fun args w => by go_simp, ?_⟩
  intro w1 pl n A0 n0 c0 hc
  go_enter Try.func86, Try.ntmps86
  go_wp2
  go_ret
  exact ⟨rfl, rfl⟩
theorem asks_stripe1 : AsksLen 122 := by
  refine ⟨fun args w => by go_simp, ?_⟩
  intro w1 pl n A0 n0 c0 hc
  go_enter Try.func122, Try.ntmps122
  go_wp2
  go_ret
  exact ⟨rfl, rfl⟩
theorem asks_Peel1 : AsksLen 82 := by
  refine ⟨fun args w => by go_simp, ?_⟩
  intro w1 pl n A0 n0 c0 hc
  go_enter Try.func82, Try.ntmps82
  go_wp2
  go_ret
  exact ⟨rfl, rfl⟩

def IndexPost (ll : List (List Int)) (n : Nat) (w : World) (e : Ending) (w' : World) : Prop :=
  ∃ r : Int, e = .returned (.int .i64 r) ∧ w = w' ∧ decide (0 ≤ r) = ll.any fun l => decide (l.length ≠ n)

set_option maxRecDepth 100000 in
set_option maxHeartbeats 1000000 in
theorem indexBB_any (K : FuncId) (hK : AsksLen K) (pl : Addr) (n : Nat) (A : Option Addr) (c : Nat) (ll : List (List Int)) (w : World) (hr : LK.C w A ll.length ll) (hc : w.cell? pl = some (.int .i64 (n : Int))) :
    Calls Try.prog 121 #[.slice A ll.length c, .func (.func K) #[] #[.pointer (some pl)]] w (IndexPost ll n w) := by
  have HR := Lib.hid hr
  have HC := Lib.hid hc
  have HK := Lib.hid hK
  have hlen := hr.2.1
  have hen := hK.enters
  clear hr hc hK
  go_enter Try.func121, Try.ntmps121
  go_wp2
  go_loop [5, 8] (fun _ i => ∃ k : Nat, k ≤ ll.length ∧ i = .int .i64 k ∧ Hid (∀ j, j < k → (ll.getD j []).length = n)) (fun _ i => ll.length - (intOf i).toNat)
  case atStart => exact ⟨0, Nat.zero_le _, rfl, Lib.hid (fun j hj => by omega)⟩
  case round =>
    obtain ⟨k, hk, rfl, HB⟩ := hrel
    by_cases hlt : k < ll.length
    · obtain ⟨ad, A0, c0, rfl, hc1, hlc, _⟩ := LK_at HR.out k hlt
      obtain ⟨m, hm⟩ : ∃ m, m = (ll.getD k []).length := ⟨_, rfl⟩
      rw [← hm] at hc1 hlc
      have HM := Lib.hid hm
      clear hm
      by_cases he : m = n
      · have heb : ((m : Int) != (n : Int)) = false := by rw [asksBool]; simp [he]
        have HEB := Lib.hid heb
        have HE := Lib.hid he
        clear heb he
        go_wp2_with fail
        refine (HK.out.asks _ pl n A0 m c0 HC.out).mono ?_
        rintro e w' ⟨rfl, rfl⟩
        rw [HEB.out]
        go_wp2
        go_round
        case rel =>
          refine ⟨k + 1, by omega, by go_num, Lib.hid ?_⟩
          intro j hj
          by_cases h : j < k
          · exact HB.out j h
          · obtain rfl : j = k := by omega
            rw [← HM.out, HE.out]
        case measure => simp [intOf]; omega
      · have heb : ((m : Int) != (n : Int)) = true := by rw [asksBool]; simp [he]
        have HEB := Lib.hid heb
        have HE := Lib.hid he
        clear heb he
        go_wp2_with fail
        refine (HK.out.asks _ pl n A0 m c0 HC.out).mono ?_
        rintro e w' ⟨rfl, rfl⟩
        rw [HEB.out]
        go_wp2
        go_ret
        refine ⟨_, rfl, rfl, ?_⟩
        rw [decide_eq_true (by omega), eq_comm, List.any_eq_true]
        refine ⟨ll[k], List.getElem_mem _, ?_⟩
        rw [← getD_lt ll k [] hlt, ← HM.out, ← asksBool]
        exact HEB.out
    · obtain rfl : k = ll.length := by omega
      go_wp2
      go_ret
      refine ⟨_, rfl, rfl, ?_⟩
      rw [decide_eq_false (by omega), eq_comm, List.any_eq_false]
      intro x hx
      obtain ⟨j, hj, rfl⟩ := List.mem_iff_getElem.1 hx
      have := HB.out j hj
      rw [getD_lt _ _ _ hj] at this
      simp [this]

def AnyPost (ll : List (List Int)) (n : Nat) (w : World) (e : Ending) (w' : World) : Prop :=
  e = .returned (.bool (ll.any fun l => decide (l.length ≠ n))) ∧ w = w'

theorem containsBB_any (K : FuncId) (hK : AsksLen K) (pl : Addr) (n : Nat) (A : Option Addr) (c : Nat) (ll : List (List Int)) (w : World) (hr : LK.C w A ll.length ll) (hc : w.cell? pl = some (.int .i64 (n : Int))) :
    Calls Try.prog 81 #[.slice A ll.length c, .func (.func K) #[] #[.pointer (some pl)]] w (AnyPost ll n w) := by
  have HC := Lib.hid hc
  have HK := Lib.hid hK
  have HR := Lib.hid hr
  clear hr hc hK
  go_enter Try.func81, Try.ntmps81
  go_wp2_with (go_at_call 121; refine (indexBB_any K HK.out pl n A c ll _ HR.out HC.out).mono ?_; rintro e w' ⟨r, rfl, rfl, hrr⟩)
  go_ret
  exact ⟨by simp, rfl⟩
end Go.Proofs.Ytnfodhagfcjfpaa

/- slices.Compact at bytes: its length. -/
namespace Go.Proofs.Ytnfodhagfcjfpaa
open Go.RowKit Go.Proofs.YtnfodhagfcjfpaaW.PrintWords Go.Proofs.YtnfodhagfcjfpaaW.PrintLast Go.Proofs.YtnfodhagfcjfpaaW.PrintMore
set_option linter.unusedVariables false
set_option linter.unusedSimpArgs false

/-- block g holds n bytes f from its head on, none of them frozen -/
structure Row8 (w : World) (g n : Nat) (f : Nat → Int) : Prop where
  cell : ∀ j, j < n → w.cell? ⟨g, j, none⟩ = some (.int .u8 (f j))
  free : ∀ j, w.frozen? ⟨g, j, none⟩ = false

theorem Row8.set {w : World} {g n : Nat} {f : Nat → Int} (h : Row8 w g n f) (i : Nat) (x : Int) (hi : i < n) :
    Row8 (w.setCell ⟨g, i, none⟩ (.int .u8 x)) g n (fun j => if j = i then x else f j) := by
  refine ⟨fun j hj => ?_, fun j => ?_⟩
  · by_cases he : j = i
    · subst he
      rw [if_pos rfl]
      exact World.cell?_setCell_same _ _ _ (h.cell j hj)
    · rw [if_neg he]
      exact (World.cell?_setCell_other _ _ _ _ (fun e => he (by injection e with _ e; exact e.symm))).trans (h.cell j hj)
  · rw [World.frozen?_setCell]
    exact h.free j
theorem Row8.drewN {w : World} {g n : Nat} {f : Nat → Int} (h : Row8 w g n f) (m : Nat) : Row8 (w.drewN m) g n f := ⟨fun j hj => by rw [World.cell?_drewN]; exact h.cell j hj, fun j => by rw [World.frozen?_drewN]; exact h.free j⟩

def Neigh (f : Nat → Int) (n : Nat) : Prop := ∀ j, j + 1 < n → f j ≠ f (j + 1)

def CompactPost (f : Nat → Int) (g n : Nat) (w : World) (e : Ending) (w' : World) : Prop :=
  ∃ A' n' c', e = .returned (.slice A' n' c') ∧ w.grownBy w' (some g) ∧ (n' = n ↔ Neigh f n)

theorem gb_refl (w : World) (r : Option Nat) : w.grownBy w r := ⟨rfl, rfl, rfl, Nat.le_refl _, fun _ _ _ => rfl⟩
theorem gb_drewN {w w1 : World} {r : Option Nat} (h : w.grownBy w1 r) (m : Nat) : w.grownBy (w1.drewN m) r := ⟨h.os, h.tape, h.output, h.size, h.block⟩

theorem zero8 (w : World) : (zeroValue 5).run Try.prog w = .ok (.int .u8 0) w := by kernel_rfl

set_option maxRecDepth 100000 in
set_option maxHeartbeats 2000000 in
theorem compactB_any (g n c : Nat) (f : Nat → Int) (w : World) (hrow : Row8 w g n f) (hn : n ≤ big) (hnc : n ≤ c) (hcb : c ≤ 9223372036854775807) :
    Calls Try.prog 99 #[.slice (some ⟨g, 0, none⟩) n c] w (CompactPost f g n w) := by
  have HROW := Lib.hid hrow
  unfold big at hn
  clear hrow
  by_cases h2 : n < 2
  · have hb : decide ((n : Int) < 2) = true := decide_eq_true (by omega)
    go_enter Try.func99, Try.ntmps99
    go_wp2
    go_ret
    exact ⟨_, _, _, rfl, gb_refl _ _, ⟨fun _ j hj => by omega, fun _ => rfl⟩⟩
  · have hb : decide ((n : Int) < 2) = false := decide_eq_false (by omega)
    go_enter Try.func99, Try.ntmps99
    go_wp2
    go_loopw [3] (fun i wr => ∃ k m : Nat, 1 ≤ k ∧ k ≤ n ∧ i = .int .i64 k ∧ Hid (wr = w.drewN m) ∧ Hid (∀ j, j + 1 < k → f j ≠ f (j + 1))) (fun i _ => n - (intOf i).toNat)
    case atStart => exact ⟨1, 0, by omega, by omega, rfl, Lib.hid rfl, Lib.hid (fun j hj => by omega)⟩
    case round =>
      obtain ⟨k, m, hk1, hk, rfl, HW, HN⟩ := hrel
      by_cases hlt : k < n
      · have hr1 : Row8 wr g n f := by rw [HW.out]; exact HROW.out.drewN m
        have c1 := hr1.cell k hlt
        have c2 := hr1.cell (k - 1) (by omega)
        obtain ⟨x, hx⟩ : ∃ x, x = f k := ⟨_, rfl⟩
        obtain ⟨y, hy⟩ : ∃ y, y = f (k - 1) := ⟨_, rfl⟩
        rw [← hx] at c1
        rw [← hy] at c2
        have HX := Lib.hid hx
        have HY := Lib.hid hy
        have HR1 := Lib.hid hr1
        clear hx hy hr1
        by_cases hxy : x = y
        · have hxb : (x == y) = true := by simp [hxy]
          have HXY := Lib.hid hxy
          clear hxy
          go_wp2
          go_quiet (fail)
          go_wp2
          have HN0 := Lib.hid (show ¬ Neigh f n from fun hN => hN (k - 1) (by omega) (by rw [show k - 1 + 1 = k by omega, ← HX.out, ← HY.out, HXY.out]))
          clear HX HY hxb c1 c2 HN
          go_loopw [3, 5] (fun i i2 wq => ∃ (kk k2 : Nat) (f' : Nat → Int), 1 ≤ k2 ∧ k2 ≤ n - k ∧ kk + 1 ≤ k + k2 ∧ 1 ≤ kk ∧ i = .int .i64 kk ∧ i2 = .int .i64 k2 ∧ Hid (Row8 wq g n f') ∧ Hid (w.grownBy wq (some g))) (fun _ i2 _ => n - k - (intOf i2).toNat)
          case atStart => exact ⟨k, 1, f, by omega, by omega, by omega, by omega, rfl, rfl, Lib.hid (HR1.out.drewN _), Lib.hid (by rw [HW.out]; exact gb_drewN (gb_drewN (gb_refl _ _) _) _)⟩
          case round =>
            obtain ⟨kk, k2, f', h21, h22, hkk, hkk1, rfl, rfl, HQ, HG⟩ := hrel
            by_cases hl2 : k2 < n - k
            · have c1 := HQ.out.cell (k + k2) (by omega)
              have c2 := HQ.out.cell (k + (k2 - 1)) (by omega)
              have c3 := HQ.out.cell kk (by omega)
              have z3 := HQ.out.free kk
              obtain ⟨x', hx⟩ : ∃ x', x' = f' (k + k2) := ⟨_, rfl⟩
              obtain ⟨y', hy⟩ : ∃ y', y' = f' (k + (k2 - 1)) := ⟨_, rfl⟩
              rw [← hx] at c1
              rw [← hy] at c2
              clear hx hy
              go_wp2
              go_quiet (fail)
              go_wp2
              all_goals go_roundw
              case rel => exact ⟨kk + 1, k2 + 1, _, by omega, by omega, by omega, by omega, by go_num, by go_num, Lib.hid ((HQ.out.set kk x' (by omega)).drewN nq), Lib.hid ⟨HG.out.os, HG.out.tape, HG.out.output, by simpa [World.setCell] using HG.out.size, fun i hi hne => (Below.heap_setCell _ _ _ i (fun e => hne (by rw [e]))).trans (HG.out.block i hi hne)⟩⟩
              case measure => simp [intOf]; omega
              case rel => exact ⟨kk, k2 + 1, f', by omega, by omega, by omega, by omega, rfl, by go_num, Lib.hid (HQ.out.drewN nq), Lib.hid (gb_drewN HG.out nq)⟩
              case measure => simp [intOf]; omega
            · obtain rfl : k2 = n - k := by omega
              have hclr := Lib.run_clear_slice (P := Try.prog) wr 22 5 0 (.int .u8 0) Try.underlying22 zero8 rfl rfl g kk (n - kk) (c - kk) (by omega) (fun j hj => by rw [HQ.out.cell (kk + j) (by omega)]; rfl) (fun j _ => HQ.out.free _)
              go_wp2
              go_ret
              refine ⟨_, _, _, rfl, ?_, ⟨fun h => absurd h (by omega), fun h => absurd h HN0.out⟩⟩
              obtain ⟨s1, s2, s3, s4⟩ := setCells_same g (List.replicate (n - kk) (Value.int .u8 0)) kk wr
              exact ⟨s1.trans HG.out.os, s2.trans HG.out.tape, s3.trans HG.out.output, by rw [s4]; exact HG.out.size, fun i hi hne => (setCells_far _ _ i (fun e => hne (by rw [e]))).trans (HG.out.block i hi hne)⟩
        · have hxb : (x == y) = false := by simp [hxy]
          have HXY := Lib.hid hxy
          clear hxy
          go_wp2
          go_quiet (fail)
          go_wp2
          go_roundw
          case rel =>
            refine ⟨k + 1, m + nq, by omega, by omega, by go_num, Lib.hid ?_, Lib.hid ?_⟩
            · rw [HW.out, World.drewN_drewN]
            · intro j hj
              by_cases hjk : j + 1 < k
              · exact HN.out j hjk
              · obtain rfl : j = k - 1 := by omega
                rw [show k - 1 + 1 = k by omega, ← HX.out, ← HY.out]
                exact fun e => HXY.out e.symm
          case measure => simp [intOf]; omega
      · obtain rfl : k = n := by omega
        go_wp2
        go_ret
        refine ⟨_, _, _, rfl, ?_, ⟨fun _ => HN.out, fun _ => rfl⟩⟩
        rw [HW.out]
        exact gb_drewN (gb_refl _ _) _
end Go.Proofs.Ytnfodhagfcjfpaa
