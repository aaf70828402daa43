/- The reference's parities are the parities; its codes; Data (plain lists). -/
import Derived.Test.YtnfodhagfcjfpaaPv2
namespace Go.Proofs.Ytnfodhagfcjfpaa
open Go.RowKit Go.Proofs.YtnfodhagfcjfpaaW.PrintWords Go.Proofs.YtnfodhagfcjfpaaW.PrintLast Go.Proofs.YtnfodhagfcjfpaaW.PrintMore
set_option linter.unusedVariables false
set_option linter.unusedSimpArgs false

theorem str_by8 (d : List UInt8) : strOfNums (by8 d) = ⟨d.toArray⟩ := by
  unfold strOfNums by8
  rw [List.map_map]
  congr 2
  rw [List.map_congr_left (g := id) (fun b _ => by simp)]
  simp
theorem str_size (d : List UInt8) : (strOfNums (by8 d)).size = d.length := by
  rw [str_by8]
  simp [ByteArray.size]
theorem bt_str (d : List UInt8) (q : Nat) (hq : q < d.length) : bt (strOfNums (by8 d)) (q : Int) = ((d.getD q 0).toNat : Int) := by
  have hs := str_size d
  unfold bt
  rw [dif_pos (by rw [hs]; simpa using hq), getD_lt _ _ _ hq]
  congr 2
  simp only [Int.toNat_natCast]
  have e : ∀ (s : ByteArray) (h : q < s.size), s = ⟨d.toArray⟩ → s[q]'h = d[q] := by
    intro s h hh
    subst hh
    rfl
  exact e _ _ (str_by8 d)
/-- texts of shards -/
abbrev txt (D : Shs) : List ByteArray := strs (ll8 D)
theorem txt_length (D : Shs) : (txt D).length = D.length := by simp [strs, ll8]
theorem txt_at (D : Shs) (i : Nat) (hi : i < D.length) : rdOf ByteArray.empty (txt D) (i : Int) = strOfNums (by8 (D.getD i [])) := by
  unfold rdOf
  rw [Int.toNat_natCast, getD_lt _ _ _ (by rw [txt_length]; exact hi), getD_lt _ _ _ hi]
  simp [txt, strs, ll8]
theorem txt_append (D : Shs) (l : List UInt8) : txt (D ++ [l]) = txt D ++ [strOfNums (by8 l)] := by simp [txt, strs, ll8]

section
variable (xs ys : List UInt8) (n : Nat) (D : Shs) (hD : D.length = xs.length) (hlen : ∀ i, i < D.length → (D.getD i []).length = n) (hn : n ≤ 100) (hx : xs.length ≤ 14) (hy : ys.length ≤ 4)
include hD hlen hn hx hy
theorem enc_l2 (out : List ByteArray) (j i : Nat) (hj : j < ys.length) (hi : i < xs.length) (k : Nat) (hk : 20 ≤ k) : ∀ d q, d = n - q → q ≤ n →
    Pr.hypocaustref1_Code_Encode.l2 (k + d + 1) (txt D) out (j : Int) (by8 (parAt xs ys j D i q n)) (i : Int) ((coef xs ys j i).toNat : Int) (q : Int) (by8 xs) (by8 ys) = Pr.hypocaustref1_Code_Encode.l1 k (txt D) out (j : Int) (by8 (parAt xs ys j D (i + 1) 0 n)) ((i + 1 : Nat) : Int) (by8 xs) (by8 ys) := by
  have hy4 := hy
  intro d
  induction d with
  | zero =>
    intro q hd hq
    obtain rfl : q = n := by omega
    simp only [Pr.hypocaustref1_Code_Encode.l2]
    rw [if_neg (by rw [by8_length, parAt_length]; omega), w64 _ (by omega) (by omega), parAt_next]
    rfl
  | succ d ih =>
    intro q hd hq
    have hqn : q < n := by omega
    have hdl := hlen i (by omega)
    have h := ih (q + 1) (by omega) (by omega)
    rw [show k + (d + 1) + 1 = (k + d + 1) + 1 by omega]
    have hm9 : 9 ≤ k + d + 1 := by omega
    generalize k + d + 1 = m at h hm9 ⊢
    simp only [Pr.hypocaustref1_Code_Encode.l2]
    rw [if_pos (by rw [by8_length, parAt_length]; omega), if_pos (by omega), if_pos (by omega), if_pos (by rw [txt_length]; omega), txt_at D i (by omega), if_pos (by rw [str_size, hdl]; omega), bt_str _ _ (by rw [hdl]; exact hqn), mul_f _ (by omega), w64 _ (by omega) (by omega)]
    simp only [Option.bind_some]
    rw [rd_by8, bxor, Int.toNat_natCast, parAt_put xs ys j D i q n hqn]
    exact_mod_cast h
theorem enc_l1 (out : List ByteArray) (j : Nat) (hj : j < ys.length) (hout : out.length ≤ 100) (k : Nat) (hk : 20 ≤ k) : ∀ d i, d = xs.length - i → i ≤ xs.length →
    Pr.hypocaustref1_Code_Encode.l1 (k + d * (n + 2) + 1) (txt D) out (j : Int) (by8 (parAt xs ys j D i 0 n)) (i : Int) (by8 xs) (by8 ys) = Pr.hypocaustref1_Code_Encode.l0 k (txt D) (out ++ [strOfNums (by8 (par xs ys j n D))]) ((j + 1 : Nat) : Int) (by8 xs) (by8 ys) := by
  intro d
  induction d with
  | zero =>
    intro i hd hi
    obtain rfl : i = xs.length := by omega
    rw [Nat.zero_mul]
    simp only [Pr.hypocaustref1_Code_Encode.l1]
    rw [if_neg (by rw [by8_length]; omega), if_pos (by omega), w64 _ (by omega) (by omega), ← hD, parAt_done]
    rfl
  | succ d ih =>
    intro i hd hi
    have hil : i < xs.length := by omega
    have h := ih (i + 1) (by omega) (by omega)
    have h2 := enc_l2 xs ys n D hD hlen hn hx hy out j i hj hil (k + d * (n + 2) + 1) (by omega) n 0 (by omega) (by omega)
    rw [show k + (d + 1) * (n + 2) + 1 = (k + d * (n + 2) + 1 + n + 1) + 1 by rw [Nat.add_mul, Nat.one_mul]; omega]
    simp only [Pr.hypocaustref1_Code_Encode.l1]
    rw [if_pos (by rw [by8_length]; omega), coef_f _ (by omega)]
    simp only [Option.bind_some]
    have ec : coefZ xs ys (j : Int) (i : Int) = coef xs ys j i := by
      unfold coefZ
      rw [if_pos ⟨by omega, by omega, by omega, by omega⟩]
      rfl
    rw [ec]
    exact_mod_cast h2.trans (by exact_mod_cast h)
theorem enc_l0 (hx1 : 1 ≤ xs.length) (k : Nat) (hk : 20 ≤ k) : ∀ d j, d = ys.length - j → j ≤ ys.length →
    Pr.hypocaustref1_Code_Encode.l0 (k + d * (xs.length * (n + 2) + 2)) (txt D) (txt (enc xs ys n D j)) (j : Int) (by8 xs) (by8 ys) = some (txt (enc xs ys n D ys.length)) := by
  intro d
  induction d with
  | zero =>
    intro j hd hj
    obtain rfl : j = ys.length := by omega
    rw [Nat.zero_mul]
    obtain ⟨k, rfl⟩ : ∃ m, k = m + 1 := ⟨k - 1, by omega⟩
    simp only [Nat.add_zero, Pr.hypocaustref1_Code_Encode.l0]
    rw [if_neg (by rw [by8_length]; omega)]
  | succ d ih =>
    intro j hd hj
    have hjl : j < ys.length := by omega
    have h := ih (j + 1) (by omega) (by omega)
    have h1 := enc_l1 xs ys n D hD hlen hn hx hy (txt (enc xs ys n D j)) j hjl (by rw [txt_length, enc_length]; omega) (k + d * (xs.length * (n + 2) + 2)) (by omega) xs.length 0 (by omega) (by omega)
    rw [show k + (d + 1) * (xs.length * (n + 2) + 2) = (k + d * (xs.length * (n + 2) + 2) + xs.length * (n + 2) + 1) + 1 by rw [Nat.add_mul, Nat.one_mul]; omega]
    simp only [Pr.hypocaustref1_Code_Encode.l0]
    have e0 : rdOf ByteArray.empty (txt D) 0 = strOfNums (by8 (D.getD 0 [])) := txt_at D 0 (by omega)
    have hs0 := hlen 0 (by omega)
    rw [if_pos (by rw [by8_length]; omega), if_pos (by rw [txt_length]; omega), e0, str_size, hs0, if_pos (by omega), Int.toNat_natCast, if_pos (by omega)]
    rw [← parAt_start xs ys j D n]
    have hsucc : txt (enc xs ys n D j) ++ [strOfNums (by8 (par xs ys j n D))] = txt (enc xs ys n D (j + 1)) := by
      simp [txt, strs, ll8, enc, List.range_succ]
    rw [hsucc] at h1
    exact (by exact_mod_cast h1.trans (by exact_mod_cast h))
theorem encode_f (hx1 : 1 ≤ xs.length) : ∃ k, ∀ m, k ≤ m → Pr.hypocaustref1_Code_Encode.f m (by8 xs) (by8 ys) (txt D) = some (txt (enc xs ys n D ys.length)) := by
  refine ⟨20 + ys.length * (xs.length * (n + 2) + 2), fun m hm => ?_⟩
  obtain ⟨k, rfl⟩ : ∃ k, m = k + ys.length * (xs.length * (n + 2) + 2) := ⟨m - ys.length * (xs.length * (n + 2) + 2), by omega⟩
  have h := enc_l0 xs ys n D hD hlen hn hx hy hx1 k (by omega) ys.length 0 (by omega) (by omega)
  unfold Pr.hypocaustref1_Code_Encode.f
  simpa [txt, strs, ll8, enc] using h
end
end Go.Proofs.Ytnfodhagfcjfpaa
