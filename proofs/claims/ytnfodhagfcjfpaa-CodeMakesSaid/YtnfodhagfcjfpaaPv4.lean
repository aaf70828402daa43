/- CodeMay, Data (plain lists). -/
import Derived.Test.YtnfodhagfcjfpaaPv3
import Derived.Test.YtnfodhagfcjfpaaPrD
namespace Go.Proofs.Ytnfodhagfcjfpaa
open Go.RowKit Go.Proofs.YtnfodhagfcjfpaaW.PrintWords Go.Proofs.YtnfodhagfcjfpaaW.PrintLast Go.Proofs.YtnfodhagfcjfpaaW.PrintMore
set_option linter.unusedVariables false
set_option linter.unusedSimpArgs false

theorem may_l1 (L : List Int) (hL : L.length ≤ 100) (i : Nat) (hi : i < L.length) : ∀ d k j, d = i - j → j ≤ i →
    ((∃ q, j ≤ q ∧ q < i ∧ L.getD q 0 = L.getD i 0) → Pr.hypocaustref1_CodeMay.l1 (k + d + 1) L (i : Int) (j : Int) = some false) ∧
    ((∀ q, j ≤ q → q < i → L.getD q 0 ≠ L.getD i 0) → Pr.hypocaustref1_CodeMay.l1 (k + d + 1) L (i : Int) (j : Int) = Pr.hypocaustref1_CodeMay.l0 k L ((i + 1 : Nat) : Int)) := by
  intro d
  induction d with
  | zero =>
    intro k j hd hj
    obtain rfl : j = i := by omega
    refine ⟨fun ⟨q, h1, h2, _⟩ => by omega, fun _ => ?_⟩
    simp only [Nat.add_zero, Pr.hypocaustref1_CodeMay.l1]
    rw [if_neg (by omega), w64 _ (by omega) (by omega)]
    rfl
  | succ d ih =>
    intro k j hd hj
    have hji : j < i := by omega
    obtain ⟨ha, hb⟩ := ih k (j + 1) (by omega) (by omega)
    rw [show k + (d + 1) + 1 = (k + d + 1) + 1 by omega]
    generalize k + d + 1 = m at ha hb ⊢
    simp only [Pr.hypocaustref1_CodeMay.l1]
    rw [if_pos (by omega), if_pos (by omega), if_pos (by omega), if_pos (by omega), if_pos (by omega), w64 _ (by omega) (by omega)]
    have er : ∀ t : Nat, rd L (t : Int) = L.getD t 0 := fun t => by unfold rd; rw [Int.toNat_natCast]
    rw [er, er]
    by_cases he : L.getD i 0 = L.getD j 0
    · rw [if_pos he]
      exact ⟨fun _ => rfl, fun h => absurd he.symm (h j (Nat.le_refl _) hji)⟩
    · rw [if_neg he]
      refine ⟨fun ⟨q, h1, h2, h3⟩ => ?_, fun h => ?_⟩
      · have hq : j ≠ q := fun e => he (by rw [e]; exact h3.symm)
        exact_mod_cast ha ⟨q, by omega, h2, h3⟩
      · exact_mod_cast hb (fun q h1 h2 => h q (by omega) h2)
theorem may_l0 (L : List Int) (hL : L.length ≤ 100) : ∀ d k i, d = L.length - i → i ≤ L.length → d * (L.length + 2) < k →
    ∃ r, Pr.hypocaustref1_CodeMay.l0 k L (i : Int) = some r ∧ (r = true ↔ ∀ t, i ≤ t → t < L.length → ∀ q, q < t → L.getD q 0 ≠ L.getD t 0) := by
  intro d
  induction d with
  | zero =>
    intro k i hd hi hk
    obtain ⟨k, rfl⟩ : ∃ m, k = m + 1 := ⟨k - 1, by omega⟩
    obtain rfl : i = L.length := by omega
    simp only [Pr.hypocaustref1_CodeMay.l0]
    rw [if_neg (by omega)]
    exact ⟨true, rfl, by simp; intro t h1 h2; omega⟩
  | succ d ih =>
    intro k i hd hi hk
    have hil : i < L.length := by omega
    rw [Nat.add_mul, Nat.one_mul] at hk
    obtain ⟨k1, rfl⟩ : ∃ m, k = (m + i + 1) + 1 := ⟨k - i - 2, by omega⟩
    obtain ⟨ha, hb⟩ := may_l1 L hL i hil i k1 0 (by omega) (by omega)
    simp only [Pr.hypocaustref1_CodeMay.l0]
    rw [if_pos (by omega)]
    by_cases hp : ∀ q, 0 ≤ q → q < i → L.getD q 0 ≠ L.getD i 0
    · obtain ⟨r, hr, hr2⟩ := ih k1 (i + 1) (by omega) (by omega) (by omega)
      have hb2 := hb hp
      refine ⟨r, by rw [← hr, ← hb2]; rfl, hr2.trans ⟨fun h t h1 h2 => ?_, fun h t h1 h2 => h t (by omega) h2⟩⟩
      by_cases e : t = i
      · subst e
        exact fun q hq => hp q (Nat.zero_le _) hq
      · exact h t (by omega) h2
    · have hex : ∃ q, 0 ≤ q ∧ q < i ∧ L.getD q 0 = L.getD i 0 := by
        apply Classical.byContradiction
        intro hh
        exact hp (fun q h1 h2 h3 => hh ⟨q, h1, h2, h3⟩)
      refine ⟨false, ha hex, ?_⟩
      obtain ⟨q, _, h2, h3⟩ := hex
      simp only [Bool.false_eq_true, false_iff]
      exact fun h => h i (Nat.le_refl _) hil q h2 h3
theorem nodup_getD (L : List Int) : L.Nodup ↔ ∀ t, t < L.length → ∀ q, q < t → L.getD q 0 ≠ L.getD t 0 := by
  unfold List.Nodup
  rw [List.pairwise_iff_getElem]
  constructor
  · intro h t ht q hq
    rw [getD_lt _ _ _ ht, getD_lt _ _ _ (show q < L.length by omega)]
    exact h q t (by omega) ht hq
  · intro h q t hq ht hqt
    have := h t ht q hqt
    rwa [getD_lt _ _ _ ht, getD_lt _ _ _ hq] at this
/-- which codes may be -/
def mayB (xs ys : List UInt8) : Bool := decide (1 ≤ xs.length) && decide (xs.length ≤ 14) && decide (1 ≤ ys.length) && decide (ys.length ≤ 4) && decide ((by8 xs ++ by8 ys).Nodup)
theorem may_f (xs ys : List UInt8) : Pr.hypocaustref1_CodeMay.f 500 (by8 xs) (by8 ys) = some (mayB xs ys) := by
  have hj : ∀ b, b = true → Pr.hypocaustref1_CodeMay.j0 500 (by8 xs) (by8 ys) b = some false := by
    intro b hb
    show Pr.hypocaustref1_CodeMay.j0 (499 + 1) (by8 xs) (by8 ys) b = some false
    simp only [Pr.hypocaustref1_CodeMay.j0]
    rw [if_pos hb]
  unfold Pr.hypocaustref1_CodeMay.f mayB
  rw [by8_length, by8_length]
  by_cases h1 : xs.length < 1
  · rw [if_pos (by omega), hj _ rfl, decide_eq_false (show ¬ 1 ≤ xs.length by omega)]; rfl
  by_cases h2 : xs.length > 14
  · rw [if_neg (by omega), if_pos (by omega), hj _ rfl, decide_eq_false (show ¬ xs.length ≤ 14 by omega)]; simp
  by_cases h3 : ys.length < 1
  · rw [if_neg (by omega), if_neg (by omega), if_pos (by omega), hj _ rfl, decide_eq_false (show ¬ 1 ≤ ys.length by omega)]; simp
  by_cases h4 : ys.length > 4
  · rw [if_neg (by omega), if_neg (by omega), if_neg (by omega), hj _ (decide_eq_true (by omega)), decide_eq_false (show ¬ ys.length ≤ 4 by omega)]; simp
  rw [if_neg (by omega), if_neg (by omega), if_neg (by omega), decide_eq_false (show ¬ (ys.length : Int) > 4 by omega), decide_eq_true (show 1 ≤ xs.length by omega), decide_eq_true (show xs.length ≤ 14 by omega), decide_eq_true (show 1 ≤ ys.length by omega), decide_eq_true (show ys.length ≤ 4 by omega)]
  have hlen : (by8 xs ++ by8 ys).length = xs.length + ys.length := by rw [List.length_append, by8_length, by8_length]
  have hd : ((by8 xs ++ by8 ys).length) * ((by8 xs ++ by8 ys).length + 2) ≤ 18 * 20 := Nat.mul_le_mul (by rw [hlen]; omega) (by rw [hlen]; omega)
  obtain ⟨r, hr, hr2⟩ := may_l0 (by8 xs ++ by8 ys) (by rw [hlen]; omega) _ 499 0 rfl (Nat.zero_le _) (by rw [Nat.sub_zero]; omega)
  show Pr.hypocaustref1_CodeMay.j0 (499 + 1) (by8 xs) (by8 ys) false = _
  simp only [Pr.hypocaustref1_CodeMay.j0]
  rw [if_neg (by decide)]
  simp only [Option.bind_some, List.nil_append, List.length_nil]
  rw [if_pos (by rw [by8_length]; omega), if_pos (by rw [by8_length, by8_length]; omega)]
  refine hr.trans ?_
  congr 1
  have e : r = decide ((by8 xs ++ by8 ys).Nodup) := by
    rw [Bool.eq_iff_iff, hr2, decide_eq_true_iff, nodup_getD]
    exact ⟨fun h t ht => h t (Nat.zero_le _) ht, fun h t _ ht => h t ht⟩
  rw [e]
  simp

/-- Data's byte -/
def datB (b : List UInt8) (long i j : Nat) : UInt8 := if i * long + j < b.length then b.getD (i * long + j) 0 else UInt8.ofNat ((31 * i + 17 * j) % 256)
def dRowUp (b : List UInt8) (long i q : Nat) : List UInt8 := (List.range long).map fun j => if j < q then datB b long i j else 0
def dRow (b : List UInt8) (long i : Nat) : List UInt8 := (List.range long).map (datB b long i)
def dRows (b : List UInt8) (long n : Nat) : Shs := (List.range n).map (dRow b long)
theorem dRow_length (b : List UInt8) (long i : Nat) : (dRow b long i).length = long := by simp [dRow]
theorem dRows_length (b : List UInt8) (long n : Nat) : (dRows b long n).length = n := by simp [dRows]
theorem dRows_len (b : List UInt8) (long n : Nat) : ∀ i, i < (dRows b long n).length → ((dRows b long n).getD i []).length = long := by
  intro i hi
  rw [dRows_length] at hi
  simp [dRows, List.getD_eq_getElem?_getD, hi, dRow]
theorem dRowUp_done (b : List UInt8) (long i : Nat) : dRowUp b long i long = dRow b long i := by
  unfold dRowUp dRow
  exact List.map_congr_left fun j hj => by rw [if_pos (List.mem_range.1 hj)]
theorem dRowUp_start (b : List UInt8) (long i : Nat) : by8 (dRowUp b long i 0) = List.replicate long 0 := by
  apply List.ext_getElem
  · simp [by8_length, dRowUp]
  · intro t h1 h2
    simp [by8, dRowUp]
theorem dRowUp_length (b : List UInt8) (long i q : Nat) : (dRowUp b long i q).length = long := by simp [dRowUp]
theorem dRowUp_put (b : List UInt8) (long i q : Nat) (hq : q < long) : (by8 (dRowUp b long i q)).set q ((datB b long i q).toNat : Int) = by8 (dRowUp b long i (q + 1)) := by
  apply List.ext_getElem
  · simp [by8_length, dRowUp_length]
  · intro k h1 h2
    have hk : k < long := by simpa [by8_length, dRowUp_length] using h1
    rw [List.getElem_set]
    by_cases h : q = k
    · subst h
      simp [by8, dRowUp]
    · rw [if_neg h]
      have e : (k < q + 1) ↔ (k < q) := by omega
      simp [by8, dRowUp, e]
section
variable (b : List UInt8) (long n : Nat) (hl : long ≤ 100) (hn : n ≤ 100)
include hl hn
theorem data_l1 (i : Nat) (hi : i < n) (k : Nat) : ∀ d q, d = long - q → q ≤ long →
    Pr.hypocaustlaw4_Data.l1 (k + d + 1) (n : Int) (long : Int) (by8 b) (ll8 (dRows b long i)) (i : Int) (by8 (dRowUp b long i q)) (q : Int) = Pr.hypocaustlaw4_Data.l0 k (n : Int) (long : Int) (by8 b) (ll8 (dRows b long (i + 1))) ((i + 1 : Nat) : Int) := by
  intro d
  induction d with
  | zero =>
    intro q hd hq
    obtain rfl : q = long := by omega
    simp only [Nat.add_zero, Pr.hypocaustlaw4_Data.l1]
    rw [if_neg (by omega), if_pos (by rw [ll8_length, dRows_length]; omega), w64 _ (by omega) (by omega), dRowUp_done]
    have e : ll8 (dRows b q i) ++ [by8 (dRow b q i)] = ll8 (dRows b q (i + 1)) := by simp [ll8, dRows, List.range_succ]
    rw [e]
    rfl
  | succ d ih =>
    intro q hd hq
    have hql : q < long := by omega
    have h := ih (q + 1) (by omega) (by omega)
    rw [show k + (d + 1) + 1 = (k + d + 1) + 1 by omega]
    generalize k + d + 1 = m at h ⊢
    simp only [Pr.hypocaustlaw4_Data.l1]
    have hil : i * long ≤ 100 * 100 := Nat.mul_le_mul (by omega) hl
    have e1 : wrap64 ((i : Int) * (long : Int)) = ((i * long : Nat) : Int) := by rw [← Int.natCast_mul, w64 _ (by omega) (by omega)]
    have e2 : wrap64 (((i * long : Nat) : Int) + (q : Int)) = ((i * long + q : Nat) : Int) := by rw [w64 _ (by omega) (by omega)]; omega
    have e3 : wrap64 (wrap64 (31 * (i : Int)) + wrap64 (17 * (q : Int))) % 256 = (((31 * i + 17 * q) % 256 : Nat) : Int) := by
      rw [w64 (31 * (i : Int)) (by omega) (by omega), w64 (17 * (q : Int)) (by omega) (by omega), w64 (31 * (i : Int) + 17 * (q : Int)) (by omega) (by omega)]
      omega
    rw [if_pos (by omega), if_pos (by omega), if_pos (by rw [by8_length, dRowUp_length]; omega), e1, e2, e3]
    simp only [Option.bind_some, Int.toNat_natCast]
    rw [w64 ((q : Int) + 1) (by omega) (by omega), by8_length]
    have hput := dRowUp_put b long i q hql
    by_cases hc : i * long + q < b.length
    · rw [if_pos (by omega), if_pos (by omega), rd_by8, List.set_set]
      have e : datB b long i q = b.getD (i * long + q) 0 := by unfold datB; rw [if_pos hc]
      rw [← e, hput]
      exact h
    · rw [if_neg (by omega)]
      have e : (((31 * i + 17 * q) % 256 : Nat) : Int) = ((datB b long i q).toNat : Int) := by
        unfold datB
        rw [if_neg hc]
        exact congrArg Nat.cast (toNat_ofNat (Nat.mod_lt _ (by decide))).symm
      rw [e, hput]
      exact h
theorem data_l0 (k : Nat) : ∀ d i, d = n - i → i ≤ n →
    Pr.hypocaustlaw4_Data.l0 (k + d * (long + 2) + 1) (n : Int) (long : Int) (by8 b) (ll8 (dRows b long i)) (i : Int) = some (ll8 (dRows b long n)) := by
  intro d
  induction d with
  | zero =>
    intro i hd hi
    obtain rfl : i = n := by omega
    rw [Nat.zero_mul]
    simp only [Nat.add_zero, Pr.hypocaustlaw4_Data.l0]
    rw [if_neg (by omega)]
  | succ d ih =>
    intro i hd hi
    have hin : i < n := by omega
    have h := ih (i + 1) (by omega) (by omega)
    have h1 := data_l1 b long n hl hn i hin (k + d * (long + 2) + 1) long 0 (by omega) (by omega)
    rw [show k + (d + 1) * (long + 2) + 1 = (k + d * (long + 2) + 1 + long + 1) + 1 by rw [Nat.add_mul, Nat.one_mul]; omega]
    simp only [Pr.hypocaustlaw4_Data.l0]
    rw [if_pos (by omega), if_pos (by omega), if_pos (by rw [Int.toNat_natCast]; omega), Int.toNat_natCast, ← dRowUp_start b long i]
    exact (by exact_mod_cast h1.trans (by exact_mod_cast h))
theorem data_f : ∃ k, Pr.hypocaustlaw4_Data.f k (n : Int) (long : Int) (by8 b) = some (ll8 (dRows b long n)) := by
  refine ⟨0 + n * (long + 2) + 1, ?_⟩
  have h := data_l0 b long n hl hn 0 n 0 (by omega) (by omega)
  unfold Pr.hypocaustlaw4_Data.f
  simpa [ll8, dRows] using h
end
end Go.Proofs.Ytnfodhagfcjfpaa
