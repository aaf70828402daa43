/- What the statements' helpers come to, in plain lists: Strings, Same, Made, Data. -/
import Derived.Test.YtnfodhagfcjfpaaPrB
import Derived.Test.YtnfodhagfcjfpaaJ5
namespace Go.Proofs.Ytnfodhagfcjfpaa
open Go.RowKit Go.Proofs.YtnfodhagfcjfpaaW.PrintWords Go.Proofs.YtnfodhagfcjfpaaW.PrintLast Go.Proofs.YtnfodhagfcjfpaaW.PrintMore
set_option linter.unusedVariables false
set_option linter.unusedSimpArgs false

theorem w64 (x : Int) (h0 : -9223372036854775808 ≤ x) (h1 : x ≤ 9223372036854775807) : wrap64 x = x := by unfold wrap64; omega

/-- texts of rows -/
def strs (ll : List (List Int)) : List ByteArray := ll.map strOfNums
theorem strings_l (ll : List (List Int)) (hb : ll.length ≤ 100) : ∀ d k i, d = ll.length - i → d < k → i ≤ ll.length → Pr.hypocaustref1_Strings.l0 k ll (strs (ll.take i)) (i : Int) = some (strs ll) := by
  intro d
  induction d with
  | zero =>
    intro k i hd hk hi
    obtain ⟨k, rfl⟩ : ∃ m, k = m + 1 := ⟨k - 1, by omega⟩
    obtain rfl : i = ll.length := by omega
    simp only [Pr.hypocaustref1_Strings.l0]
    rw [if_neg (by omega), List.take_length]
  | succ d ih =>
    intro k i hd hk hi
    obtain ⟨k, rfl⟩ : ∃ m, k = m + 1 := ⟨k - 1, by omega⟩
    have hlt : i < ll.length := by omega
    simp only [Pr.hypocaustref1_Strings.l0]
    rw [if_pos (by omega), if_pos (by omega), if_pos (by simp [strs]; omega), w64 _ (by omega) (by omega)]
    have h := ih k (i + 1) (by omega) (by omega) (by omega)
    have e : strs (ll.take i) ++ [strOfNums (Pr.rd_LL ll (i : Int))] = strs (ll.take (i + 1)) := by
      unfold strs
      rw [List.take_succ_eq_append_getElem hlt, List.map_append]
      congr 1
      simp [Pr.rd_LL, List.getD_eq_getElem?_getD, hlt]
    rw [e]
    exact_mod_cast h
theorem strings_f (ll : List (List Int)) (hb : ll.length ≤ 100) : Pr.hypocaustref1_Strings.f 101 ll = some (strs ll) := by
  have h := strings_l ll hb ll.length 101 0 (by omega) (by omega) (by omega)
  simpa [Pr.hypocaustref1_Strings.f, strs] using h

/-- two rows of texts are alike -/
theorem same_l (a b : List ByteArray) (hl : a.length = b.length) (hb : a.length ≤ 100) : ∀ d k i, d = a.length - i → d < k → i ≤ a.length → ∃ r, Pr.hypocaustref1_Same.l0 k a b (i : Int) = some r ∧ (r = true ↔ a.drop i = b.drop i) := by
  intro d
  induction d with
  | zero =>
    intro k i hd hk hi
    obtain ⟨k, rfl⟩ : ∃ m, k = m + 1 := ⟨k - 1, by omega⟩
    obtain rfl : i = a.length := by omega
    simp only [Pr.hypocaustref1_Same.l0]
    rw [if_neg (by omega)]
    refine ⟨true, rfl, ?_⟩
    rw [List.drop_length, hl, List.drop_length]
    simp
  | succ d ih =>
    intro k i hd hk hi
    obtain ⟨k, rfl⟩ : ∃ m, k = m + 1 := ⟨k - 1, by omega⟩
    have hlt : i < a.length := by omega
    have hlt2 : i < b.length := by omega
    simp only [Pr.hypocaustref1_Same.l0]
    rw [if_pos (by omega), if_pos (by omega), if_pos (by omega), w64 _ (by omega) (by omega)]
    obtain ⟨r, hr, hi2⟩ := ih k (i + 1) (by omega) (by omega) (by omega)
    have ea : rdOf ByteArray.empty a (i : Int) = a[i] := by simp [rdOf, List.getD_eq_getElem?_getD, hlt]
    have eb : rdOf ByteArray.empty b (i : Int) = b[i] := by simp [rdOf, List.getD_eq_getElem?_getD, hlt2]
    rw [ea, eb, List.drop_eq_getElem_cons hlt, List.drop_eq_getElem_cons hlt2]
    by_cases h : a[i].toList = b[i].toList
    · rw [if_pos h]
      have hab : a[i] = b[i] := by
        have h2 : a[i].data = b[i].data := by
          apply Array.toList_inj.1
          simpa [ByteArray.toList_eq] using h
        exact ByteArray.ext h2
      refine ⟨r, by exact_mod_cast hr, ?_⟩
      rw [hi2, hab]
      exact ⟨fun h => by rw [h], fun h => (List.cons.inj h).2⟩
    · rw [if_neg h]
      refine ⟨false, rfl, ?_⟩
      simp only [Bool.false_eq_true, List.cons.injEq, false_iff, not_and]
      intro hab
      exact absurd (by rw [hab]) h
theorem same_f (a b : List ByteArray) (hb : a.length ≤ 100) : ∃ r, Pr.hypocaustref1_Same.f 101 a b = some r ∧ (r = true ↔ a = b) := by
  unfold Pr.hypocaustref1_Same.f
  by_cases hl : a.length = b.length
  · rw [if_pos (by omega)]
    obtain ⟨r, hr, hi⟩ := same_l a b hl hb a.length 101 0 (by omega) (by omega) (by omega)
    exact ⟨r, hr, by simpa using hi⟩
  · rw [if_neg (by omega)]
    refine ⟨false, rfl, ?_⟩
    simp only [Bool.false_eq_true, false_iff]
    intro h
    exact hl (by rw [h])

/-- byte i of a code made of numbers -/
def mb (at_ : Int) (i : Nat) : UInt8 := UInt8.ofNat ((at_ + 7 * (i : Int)) % 256).toNat
theorem mb_nat (at_ : Int) (i : Nat) : ((mb at_ i).toNat : Int) = (at_ + 7 * (i : Int)) % 256 := by
  unfold mb
  rw [UInt8.toNat_ofNat']
  have h := Int.emod_nonneg (at_ + 7 * (i : Int)) (show (256 : Int) ≠ 0 by decide)
  have h2 := Int.emod_lt_of_pos (at_ + 7 * (i : Int)) (show (0 : Int) < 256 by decide)
  omega
theorem mb_inj (at_ : Int) (i j : Nat) (hi : i < 18) (hj : j < 18) (h : mb at_ i = mb at_ j) : i = j := by
  have h1 := mb_nat at_ i
  have h2 := mb_nat at_ j
  rw [h] at h1
  omega
def mbs (at_ : Int) (a n : Nat) : List UInt8 := (List.range n).map fun i => mb at_ (a + i)
theorem mbs_length (at_ : Int) (a n : Nat) : (mbs at_ a n).length = n := by simp [mbs]
theorem mbs_succ (at_ : Int) (a n : Nat) : by8 (mbs at_ a (n + 1)) = by8 (mbs at_ a n) ++ [(at_ + 7 * ((a + n : Nat) : Int)) % 256] := by
  simp [mbs, by8, List.range_succ, mb_nat]
theorem mbs_join (at_ : Int) (k r : Nat) : mbs at_ 0 k ++ mbs at_ k r = mbs at_ 0 (k + r) := by
  simp [mbs, List.range_add]
theorem mbs_unlike (at_ : Int) (k r : Nat) (h : k + r ≤ 18) : Unlike (mbs at_ 0 k) (mbs at_ k r) := by
  unfold Unlike
  rw [mbs_join]
  unfold mbs
  unfold List.Nodup
  rw [List.pairwise_map]
  refine List.Pairwise.imp_of_mem (fun {a b} ha hb hab => ?_) (List.pairwise_lt_range (n := k + r))
  intro he
  have ha2 := List.mem_range.1 ha
  have hb2 := List.mem_range.1 hb
  have := mb_inj at_ (0 + a) (0 + b) (by omega) (by omega) he
  omega
theorem made_l (at_ : Int) (h0 : -9223372036854775808 ≤ at_) (h1 : at_ ≤ 9223372036854775807) (K R : Nat) (hK : K ≤ 14) (hR : R ≤ 4) : ∀ d k i, d = K + R - i → d < k → i ≤ K + R →
    Pr.hypocaustlaw4_Made.l0 k (K : Int) (R : Int) at_ (i : Int) (by8 (mbs at_ 0 (min i K))) (by8 (mbs at_ K (i - K))) = some (by8 (mbs at_ 0 K), by8 (mbs at_ K R)) := by
  intro d
  induction d with
  | zero =>
    intro k i hd hk hi
    obtain ⟨k, rfl⟩ : ∃ m, k = m + 1 := ⟨k - 1, by omega⟩
    obtain rfl : i = K + R := by omega
    simp only [Pr.hypocaustlaw4_Made.l0]
    rw [w64 _ (by omega) (by omega), if_neg (by omega), show min (K + R) K = K by omega, show K + R - K = R by omega]
  | succ d ih =>
    intro k i hd hk hi
    obtain ⟨k, rfl⟩ : ∃ m, k = m + 1 := ⟨k - 1, by omega⟩
    simp only [Pr.hypocaustlaw4_Made.l0]
    have e7 : wrap64 (at_ + wrap64 (7 * (i : Int))) % 256 = (at_ + 7 * (i : Int)) % 256 := by unfold wrap64; omega
    rw [w64 ((K : Int) + R) (by omega) (by omega), if_pos (by omega), w64 ((i : Int) + 1) (by omega) (by omega), e7]
    have h := ih k (i + 1) (by omega) (by omega) (by omega)
    by_cases hiK : i < K
    · rw [if_pos (by omega), if_pos (by rw [by8_length, mbs_length]; omega)]
      have e := mbs_succ at_ 0 i
      rw [Nat.zero_add] at e
      rw [show min i K = i by omega, ← e]
      rw [show min (i + 1) K = i + 1 by omega, show i + 1 - K = 0 by omega] at h
      rw [show i - K = 0 by omega]
      exact_mod_cast h
    · rw [if_neg (by omega), if_pos (by rw [by8_length, mbs_length]; omega)]
      have e := mbs_succ at_ K (i - K)
      rw [show K + (i - K) = i by omega] at e
      rw [← e, show i - K + 1 = i + 1 - K by omega, show min i K = min (i + 1) K by omega]
      exact_mod_cast h
/-- the code that is made: K data, R parities -/
theorem made_f (a0 a1 at_ : Int) (h0 : -9223372036854775808 ≤ at_) (h1 : at_ ≤ 9223372036854775807) : ∃ K R : Nat, 1 ≤ K ∧ K ≤ 14 ∧ 1 ≤ R ∧ R ≤ 4 ∧ Pr.hypocaustlaw4_Made.f 40 a0 a1 at_ = some (by8 (mbs at_ 0 K), by8 (mbs at_ K R)) := by
  have e0 : Go.bits .and .i64 a0 255 = a0 % 256 := mask255 a0
  have e1 : Go.bits .and .i64 a1 3 = a1 % 4 := mask3 a1
  obtain ⟨K, hK⟩ : ∃ K : Nat, (a0 % 256).tmod 14 + 1 = (K : Int) := ⟨((a0 % 256).tmod 14 + 1).toNat, by rw [Int.tmod_eq_emod_of_nonneg (by omega)]; omega⟩
  obtain ⟨R, hR⟩ : ∃ R : Nat, a1 % 4 + 1 = (R : Int) := ⟨(a1 % 4 + 1).toNat, by omega⟩
  have hK2 : 1 ≤ K ∧ K ≤ 14 := by rw [Int.tmod_eq_emod_of_nonneg (by omega)] at hK; omega
  have hR2 : 1 ≤ R ∧ R ≤ 4 := by omega
  refine ⟨K, R, hK2.1, hK2.2, hR2.1, hR2.2, ?_⟩
  unfold Pr.hypocaustlaw4_Made.f
  rw [e0, e1, hK, hR, w64 (K : Int) (by omega) (by omega), w64 (R : Int) (by omega) (by omega)]
  have h := made_l at_ h0 h1 K R hK2.2 hR2.2 (K + R) 40 0 (by omega) (by omega) (by omega)
  simpa [mbs, by8] using h
end Go.Proofs.Ytnfodhagfcjfpaa
