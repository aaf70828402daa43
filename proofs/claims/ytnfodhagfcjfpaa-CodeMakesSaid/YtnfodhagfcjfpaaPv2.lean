/- The reference's field and codes are the field and the codes (plain lists). -/
import Derived.Test.YtnfodhagfcjfpaaPv1
namespace Go.Proofs.Ytnfodhagfcjfpaa
open Go.RowKit Go.Proofs.YtnfodhagfcjfpaaW.PrintWords Go.Proofs.YtnfodhagfcjfpaaW.PrintLast Go.Proofs.YtnfodhagfcjfpaaW.PrintMore
set_option linter.unusedVariables false
set_option linter.unusedSimpArgs false

theorem i64_xor9 (a b : Nat) (ha : a < 512) (hb : b < 512) : Go.bits .xor .i64 (a : Int) (b : Int) = ((a ^^^ b : Nat) : Int) := by
  have hx : a ^^^ b < 2 ^ 9 := Nat.xor_lt_two_pow (by omega) (by omega)
  have h1 : (BitVec.ofInt 64 (a : Int)).toNat = a := by rw [BitVec.ofInt_natCast, BitVec.toNat_ofNat]; exact Nat.mod_eq_of_lt (by omega)
  have h2 : (BitVec.ofInt 64 (b : Int)).toNat = b := by rw [BitVec.ofInt_natCast, BitVec.toNat_ofNat]; exact Nat.mod_eq_of_lt (by omega)
  show IntKind.i64.wrap ((BitVec.ofInt 64 (a : Int) ^^^ BitVec.ofInt 64 (b : Int)).toNat : Int) = _
  rw [BitVec.toNat_xor, h1, h2, IntKind.wrap_i64]
  omega
theorem bit_u8 : ∀ n : Nat, n < 256 → ∀ i : Nat, i < 8 → (Go.bits .and .u8 (shr .u8 (n : Int) (i : Int)) 1 = 1 ↔ n.testBit i = true) := by decide +kernel

/-- the product, when i bits are in -/
def mulAcc (a b : UInt8) : Nat → UInt8
  | 0 => 0
  | i + 1 => mulAcc a b i ^^^ Hyp.sel b i a
theorem mulAcc_done (a b : UInt8) : mulAcc a b 8 = Hyp.mul a b := by
  have h : mulAcc a b 8 = (((((((0 ^^^ Hyp.sel b 0 a) ^^^ Hyp.sel b 1 a) ^^^ Hyp.sel b 2 a) ^^^ Hyp.sel b 3 a) ^^^ Hyp.sel b 4 a) ^^^ Hyp.sel b 5 a) ^^^ Hyp.sel b 6 a) ^^^ Hyp.sel b 7 a := rfl
  rw [h, UInt8.zero_xor, UInt8.xor_assoc, UInt8.xor_assoc, UInt8.xor_assoc, UInt8.xor_assoc, UInt8.xor_assoc, UInt8.xor_assoc]
  rfl
theorem iter_hi (i : Nat) (a : UInt8) (h : 256 ≤ (Hyp.iter i a).toNat * 2) : Go.bits .xor .i64 (((Hyp.iter i a).toNat : Int) * 2) 285 = ((Hyp.iter (i + 1) a).toNat : Int) := by
  have := stp_hi (Hyp.iter i a).toNat (Hyp.iter i a).toNat_lt h
  rw [UInt8.ofNat_toNat] at this
  exact this
theorem iter_lo (i : Nat) (a : UInt8) (h : (Hyp.iter i a).toNat * 2 < 256) : ((Hyp.iter i a).toNat : Int) * 2 = ((Hyp.iter (i + 1) a).toNat : Int) := by
  have := stp_lo (Hyp.iter i a).toNat (Hyp.iter i a).toNat_lt h
  rw [UInt8.ofNat_toNat] at this
  have e : (Hyp.iter (i + 1) a).toNat = (Hyp.stp (Hyp.iter i a)).toNat := rfl
  omega
theorem mul_l (a b : UInt8) : ∀ d k i, d = 8 - i → d < k → i ≤ 8 → Pr.hypocaustref1_Mul.l0 k (b.toNat : Int) ((mulAcc a b i).toNat : Int) ((Hyp.iter i a).toNat : Int) (i : Int) = some ((Hyp.mul a b).toNat : Int) := by
  intro d
  induction d with
  | zero =>
    intro k i hd hk hi
    obtain ⟨k, rfl⟩ : ∃ m, k = m + 1 := ⟨k - 1, by omega⟩
    obtain rfl : i = 8 := by omega
    simp only [Pr.hypocaustref1_Mul.l0]
    rw [if_neg (by decide), mulAcc_done]
    have := (Hyp.mul a b).toNat_lt
    congr 1
    omega
  | succ d ih =>
    intro k i hd hk hi
    obtain ⟨k, rfl⟩ : ∃ m, k = m + 1 := ⟨k - 1, by omega⟩
    have hx := (Hyp.iter i a).toNat_lt
    have hp := (mulAcc a b i).toNat_lt
    have h := ih k (i + 1) (by omega) (by omega) (by omega)
    have hbit := bit_u8 b.toNat b.toNat_lt i (by omega)
    simp only [Pr.hypocaustref1_Mul.l0]
    rw [if_pos (by omega), if_pos (by omega), w64 ((Hyp.iter i a).toNat * 2 : Int) (by omega) (by omega), w64 ((i : Int) + 1) (by omega) (by omega)]
    have ex : Go.bits .xor .i64 ((mulAcc a b i).toNat : Int) ((Hyp.iter i a).toNat : Int) = ((mulAcc a b i ^^^ Hyp.iter i a).toNat : Int) := by
      rw [i64_xor9 _ _ (by omega) (by omega), UInt8.toNat_xor]
    by_cases hb : b.toNat.testBit i = true
    · rw [if_pos (hbit.2 hb), ex]
      have e1 : mulAcc a b (i + 1) = mulAcc a b i ^^^ Hyp.iter i a := by
        show mulAcc a b i ^^^ Hyp.sel b i a = _
        unfold Hyp.sel
        rw [if_pos hb]
      rw [e1] at h
      by_cases hc : (Hyp.iter i a).toNat * 2 < 256
      · rw [if_neg (by omega), iter_lo i a hc]
        exact_mod_cast h
      · rw [if_pos (by omega), iter_hi i a (by omega)]
        exact_mod_cast h
    · rw [if_neg (fun hh => hb (hbit.1 hh))]
      have e1 : mulAcc a b (i + 1) = mulAcc a b i := by
        show mulAcc a b i ^^^ Hyp.sel b i a = _
        unfold Hyp.sel
        rw [if_neg hb, UInt8.xor_zero]
      rw [e1] at h
      by_cases hc : (Hyp.iter i a).toNat * 2 < 256
      · rw [if_neg (by omega), iter_lo i a hc]
        exact_mod_cast h
      · rw [if_pos (by omega), iter_hi i a (by omega)]
        exact_mod_cast h
theorem mul_f (k : Nat) (hk : 9 ≤ k) (a b : UInt8) : Pr.hypocaustref1_Mul.f k (a.toNat : Int) (b.toNat : Int) = some ((Hyp.mul a b).toNat : Int) := by
  unfold Pr.hypocaustref1_Mul.f
  have := a.toNat_lt
  rw [w64 _ (by omega) (by omega)]
  have h := mul_l a b 8 k 0 (by omega) (by omega) (by omega)
  simpa [mulAcc, Hyp.iter] using h

/-- a to the 254th, as the reference takes it -/
def pow254 (a : UInt8) : UInt8 :=
  let a1 := Hyp.mul a a
  let a2 := Hyp.mul a1 a1
  let a3 := Hyp.mul a2 a2
  let a4 := Hyp.mul a3 a3
  let a5 := Hyp.mul a4 a4
  let a6 := Hyp.mul a5 a5
  let a7 := Hyp.mul a6 a6
  Hyp.mul (Hyp.mul (Hyp.mul (Hyp.mul (Hyp.mul (Hyp.mul (Hyp.mul 1 a1) a2) a3) a4) a5) a6) a7
theorem pow254_inv (a : UInt8) : pow254 a = Hyp.inv a := by
  revert a
  refine Hyp.forall_u8 _ ?_
  decide +kernel
theorem inv_odd (k : Nat) (hk : 9 ≤ k) (x p : UInt8) (n m : Int) (h0 : n > 0) (h1 : Int.tmod n 2 = 1) (hm : wrap64 (Int.tdiv n 2) = m) :
    Pr.hypocaustref1_Inv.l0 (k + 1) (x.toNat : Int) (p.toNat : Int) n = Pr.hypocaustref1_Inv.l0 k ((Hyp.mul x x).toNat : Int) ((Hyp.mul p x).toNat : Int) m := by
  simp only [Pr.hypocaustref1_Inv.l0]
  rw [if_pos h0, if_pos h1, mul_f k hk, mul_f k hk, hm]
  rfl
theorem inv_even (k : Nat) (hk : 9 ≤ k) (x p : UInt8) (n m : Int) (h0 : n > 0) (h1 : Int.tmod n 2 ≠ 1) (hm : wrap64 (Int.tdiv n 2) = m) :
    Pr.hypocaustref1_Inv.l0 (k + 1) (x.toNat : Int) (p.toNat : Int) n = Pr.hypocaustref1_Inv.l0 k ((Hyp.mul x x).toNat : Int) (p.toNat : Int) m := by
  simp only [Pr.hypocaustref1_Inv.l0]
  rw [if_pos h0, if_neg h1, mul_f k hk, hm]
  rfl
theorem inv_f (k : Nat) (hk : 20 ≤ k) (a : UInt8) : Pr.hypocaustref1_Inv.f k (a.toNat : Int) = some ((Hyp.inv a).toNat : Int) := by
  obtain ⟨k, rfl⟩ : ∃ m, k = m + 10 := ⟨k - 10, by omega⟩
  unfold Pr.hypocaustref1_Inv.f
  rw [show (1 : Int) = ((1 : UInt8).toNat : Int) by decide]
  rw [inv_even (k + 9) (by omega) _ _ 254 127 (by decide) (by decide) (by decide +kernel), inv_odd (k + 8) (by omega) _ _ 127 63 (by decide) (by decide) (by decide +kernel), inv_odd (k + 7) (by omega) _ _ 63 31 (by decide) (by decide) (by decide +kernel),
    inv_odd (k + 6) (by omega) _ _ 31 15 (by decide) (by decide) (by decide +kernel), inv_odd (k + 5) (by omega) _ _ 15 7 (by decide) (by decide) (by decide +kernel), inv_odd (k + 4) (by omega) _ _ 7 3 (by decide) (by decide) (by decide +kernel),
    inv_odd (k + 3) (by omega) _ _ 3 1 (by decide) (by decide) (by decide +kernel), inv_odd (k + 2) (by omega) _ _ 1 0 (by decide) (by decide) (by decide +kernel)]
  rw [← pow254_inv]
  simp only [Pr.hypocaustref1_Inv.l0]
  rw [if_neg (by decide)]
  rfl

theorem rd_by8 (l : List UInt8) (i : Nat) : rd (by8 l) (i : Int) = ((l.getD i 0).toNat : Int) := by
  unfold rd
  rw [Int.toNat_natCast, by8_getD]
/-- how often a data shard is in a parity, for any numbers -/
def coefZ (xs ys : List UInt8) (j i : Int) : UInt8 := if 0 ≤ j ∧ j < ys.length ∧ 0 ≤ i ∧ i < xs.length then coef xs ys j.toNat i.toNat else 0
theorem coef_f (k : Nat) (hk : 20 ≤ k) (xs ys : List UInt8) (j i : Int) : Pr.hypocaustref1_Code_Coef.f k (by8 xs) (by8 ys) j i = some ((coefZ xs ys j i).toNat : Int) := by
  unfold Pr.hypocaustref1_Code_Coef.f coefZ
  rw [by8_length, by8_length]
  by_cases h1 : j < 0
  · rw [if_pos h1, if_neg (by omega)]; rfl
  by_cases h2 : j ≥ (ys.length : Int)
  · rw [if_neg h1, if_pos h2, if_neg (by omega)]; rfl
  by_cases h3 : i < 0
  · rw [if_neg h1, if_neg h2, if_pos h3, if_neg (by omega)]; rfl
  by_cases h4 : i ≥ (xs.length : Int)
  · rw [if_neg h1, if_neg h2, if_neg h3, if_pos h4, if_neg (by omega)]; rfl
  rw [if_neg h1, if_neg h2, if_neg h3, if_neg h4, if_pos (by omega), if_pos (by omega), if_pos (by omega), if_pos (by omega), if_pos (by omega)]
  obtain ⟨j, rfl⟩ := Int.eq_ofNat_of_zero_le (show 0 ≤ j by omega)
  obtain ⟨i, rfl⟩ := Int.eq_ofNat_of_zero_le (show 0 ≤ i by omega)
  rw [rd_by8, rd_by8, bxor, inv_f k hk]
  rfl
end Go.Proofs.Ytnfodhagfcjfpaa
