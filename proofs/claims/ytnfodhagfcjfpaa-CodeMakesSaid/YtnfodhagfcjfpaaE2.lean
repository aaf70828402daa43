/- What the statements of layer 4 share: bytes that came in, Data, Strings, Coef, New. -/
import Derived.Test.YtnfodhagfcjfpaaE1
import Derived.Test.YtnfodhagfcjfpaaPv4
namespace Go.Proofs.Ytnfodhagfcjfpaa
open Go.RowKit Go.Proofs.YtnfodhagfcjfpaaW.PrintWords Go.Proofs.YtnfodhagfcjfpaaW.PrintLast Go.Proofs.YtnfodhagfcjfpaaW.PrintMore
set_option linter.unusedVariables false
set_option linter.unusedSimpArgs false

/-- bytes that came in -/
theorem row8 {w : World} {a : Option Addr} {len cap : Nat} {zs : List Int} (h : (a = none ∧ len = 0 ∧ cap = 0 ∧ zs = []) ∨ ∃ x, a = some x ∧ len ≤ cap ∧ cap ≤ maxLen ∧ zs.length = cap ∧ (∀ i, i < zs.length → w.cell? (x.add i) = some (.int .u8 (zs.getD i 0))) ∧ ∀ n ∈ zs, (Lit.int .u8 n).wf = true) :
    ∃ l : List UInt8, l.length = len ∧ BK.C w a len (by8 l) ∧ len ≤ cap := by
  obtain ⟨l, hl, hr, _, hw, hc⟩ := ReadsInt.ofRowC h
  have e : by8 (l.map fun n => UInt8.ofNat n.toNat) = l := by
    unfold by8
    rw [List.map_map]
    conv => rhs; rw [← List.map_id l]
    refine List.map_congr_left fun n hn => ?_
    have := hw n hn
    simp [Lit.wf, show IntKind.u8.min = 0 from rfl, show IntKind.u8.max = 255 from rfl] at this
    simp only [Function.comp, id]
    rw [UInt8.toNat_ofNat']
    omega
  refine ⟨l.map fun n => UInt8.ofNat n.toNat, by rw [List.length_map, hl], ?_, by omega⟩
  rw [e, hl]
  exact Kd.C_of_reads (enc := Value.int .u8) (d := 0) (h1 := fun _ => rfl) hr

theorem data_call (n long len c : Nat) (A : Option Addr) (b : List UInt8) (w : World) (hb : b.length = len) (hR : BK.C w A len (by8 b)) (hc : len ≤ c) (hl : long ≤ 100) (hn : n ≤ 100) :
    Calls Try.prog 54 #[.int .i64 (n : Int), .int .i64 (long : Int), .slice A len c] w fun e w' => ∃ v, e = .returned v ∧ LK.R 22 w' w.heap.size (fun _ => True) v (ll8 (dRows b long n)) ∧ Below w.heap.size w w' := by
  obtain ⟨k, hk⟩ := data_f b long n hl hn
  have h := Pr.hypocaustlaw4_Data.calls k (n : Int) (long : Int) A c (by8 b) _ w (by rw [by8_length, hb]; exact hR) (by rw [by8_length, hb]; exact hc) hk
  rw [by8_length, hb] at h
  refine h.mono ?_
  rintro e w' ⟨v, rfl, hv, hbl⟩
  exact ⟨v, rfl, Kd.S_R hv, hbl⟩
theorem strings_call (D : Shs) (n c : Nat) (A : Option Addr) (w : World) (hn : D.length = n) (hD : n ≤ 100) (hR : LK.C w A n (ll8 D)) (hc : n ≤ c) :
    Calls Try.prog 35 #[.slice A n c] w fun e w' => ∃ A1 c1, e = .returned (.slice A1 n c1) ∧ Kd.R Kd.string 9 w' w.heap.size (fun _ => True) (.slice A1 n c1) (txt D) ∧ n ≤ c1 ∧ Below w.heap.size w w' := by
  have hl : (ll8 D).length = n := by rw [ll8_length, hn]
  have h := Pr.hypocaustref1_Strings.calls 101 A c (ll8 D) _ w (by rw [hl]; exact hR) (by rw [hl]; exact hc) (strings_f (ll8 D) (by rw [hl]; exact hD))
  rw [hl] at h
  refine h.mono ?_
  rintro e w' ⟨v, rfl, hv, hbl⟩
  obtain ⟨A1, c1, rfl, hc1, _⟩ := Kd.R_reads hv
  have e : (strs (ll8 D)).length = n := by rw [txt_length, hn]
  rw [e] at hv hc1 ⊢
  exact ⟨A1, c1, rfl, hv, hc1, hbl⟩
theorem same_call (a b : List ByteArray) (n m c d : Nat) (A B : Option Addr) (w : World) (ha : a.length = n) (hb : b.length = m) (hn : n ≤ 100) (hA : Kd.C Kd.string w A n a) (hB : Kd.C Kd.string w B m b) (hc : n ≤ c) (hd : m ≤ d) :
    Calls Try.prog 34 #[.slice A n c, .slice B m d] w fun e w' => ∃ r, e = .returned (.bool r) ∧ (r = true ↔ a = b) ∧ Below w.heap.size w w' := by
  subst ha
  subst hb
  obtain ⟨r, hr, hi⟩ := same_f a b hn
  refine (Pr.hypocaustref1_Same.calls 101 A c a B d b r w hA hc hB hd hr).mono ?_
  rintro e w' ⟨rfl, hdr⟩
  obtain ⟨k, rfl⟩ := hdr.out
  exact ⟨r, rfl, hi, pw_below_drewN (Below.refl _ _) k⟩
theorem coef_call (f cp : Nat) (xs ys : List UInt8) (j i : Int) (w : World) (hl : ys.length ≤ 255 ∧ xs.length ≤ 255) (h : CodeU w f cp xs ys) (hf : Fld w f) :
    Calls Try.prog 26 #[.pointer (some ⟨cp, 0, none⟩), .int .i64 j, .int .i64 i] w fun e w' => e = .returned (.int .u8 ((coefZ xs ys j i).toNat : Int)) ∧ Kf f w w' ∧ Fld w' f := by
  unfold coefZ
  by_cases hb : 0 ≤ j ∧ j < ys.length ∧ 0 ≤ i ∧ i < xs.length
  · rw [if_pos hb]
    exact coef_num f cp xs ys j.toNat i.toNat j i (by omega) (by omega) (by omega) (by omega) w hl h hf
  · rw [if_neg hb]
    refine (coef_no f cp xs ys j i (by omega) w h).mono ?_
    rintro e w' ⟨rfl, rfl⟩
    exact ⟨rfl, Kf.refl _ _, hf⟩
theorem refCoef_call (AX AY : Option Addr) (n m cX cY : Nat) (xs ys : List UInt8) (j i : Int) (w : World) (hn : xs.length = n) (hm : ys.length = m) (hX : BK.C w AX n (by8 xs)) (hY : BK.C w AY m (by8 ys)) (hcX : n ≤ cX) (hcY : m ≤ cY) :
    Calls Try.prog 55 #[.agg #[.slice AX n cX, .slice AY m cY], .int .i64 j, .int .i64 i] w fun e w' => e = .returned (.int .u8 ((coefZ xs ys j i).toNat : Int)) ∧ Below w.heap.size w w' := by
  have h := Pr.hypocaustref1_Code_Coef.calls 20 AX cX (by8 xs) AY cY (by8 ys) j i _ w (by rw [by8_length, hn]; exact hX) (by rw [by8_length, hn]; exact hcX) (by rw [by8_length, hm]; exact hY) (by rw [by8_length, hm]; exact hcY) (coef_f 20 (Nat.le_refl _) xs ys j i)
  rw [by8_length, by8_length, hn, hm] at h
  exact h
theorem refEncode_call (AX AY A : Option Addr) (n m l cX cY c long : Nat) (xs ys : List UInt8) (D : Shs) (w : World) (hn : xs.length = n) (hm : ys.length = m) (hl : D.length = l) (hX : BK.C w AX n (by8 xs)) (hY : BK.C w AY m (by8 ys)) (hA : Kd.C Kd.string w A l (txt D))
    (hcX : n ≤ cX) (hcY : m ≤ cY) (hc : l ≤ c) (hD : l = n) (hx : 1 ≤ n ∧ n ≤ 14) (hy : m ≤ 4) (hlen : ∀ i, i < D.length → (D.getD i []).length = long) (hlong : long ≤ 100) :
    Calls Try.prog 56 #[.agg #[.slice AX n cX, .slice AY m cY], .slice A l c] w fun e w' => ∃ A1 c1, e = .returned (.slice A1 m c1) ∧ Kd.R Kd.string 9 w' w.heap.size (fun _ => True) (.slice A1 m c1) (txt (enc xs ys long D m)) ∧ m ≤ c1 ∧ Below w.heap.size w w' := by
  obtain ⟨k, hk⟩ := encode_f xs ys long D (by omega) hlen hlong (by omega) (by omega) (by omega)
  have htl : (txt D).length = l := by rw [txt_length, hl]
  have h := Pr.hypocaustref1_Code_Encode.calls k AX cX (by8 xs) AY cY (by8 ys) A c (txt D) _ w (by rw [by8_length, hn]; exact hX) (by rw [by8_length, hn]; exact hcX) (by rw [by8_length, hm]; exact hY) (by rw [by8_length, hm]; exact hcY) (by rw [htl]; exact hA) (by rw [htl]; exact hc) (hk k (Nat.le_refl _))
  rw [by8_length, by8_length, hn, hm, htl] at h
  refine h.mono ?_
  rintro e w' ⟨v, rfl, hv, hbl⟩
  obtain ⟨A1, c1, rfl, hc1, _⟩ := Kd.R_reads hv
  have e : (txt (enc xs ys long D m)).length = m := by rw [txt_length, enc_length]
  rw [e] at hv hc1 ⊢
  exact ⟨A1, c1, rfl, hv, hc1, hbl⟩

/-- code.New of any rows -/
def NewMay (xs ys : List UInt8) (w : World) (e : Ending) (w' : World) : Prop :=
  ∃ p c, e = .returned (.tuple #[.pointer p, .int .i64 c]) ∧ Below w.heap.size w w' ∧ ((mayB xs ys = true ∧ (∃ cp, p = some ⟨cp, 0, none⟩) ∧ c = 0) ∨ (mayB xs ys = false ∧ p = none ∧ c = 1))
theorem codeNew_may (f n m cX cY : Nat) (AX AY : Option Addr) (xs ys : List UInt8) (w : World) (hfl : f < w.heap.size) (hn : xs.length = n) (hm : ys.length = m) (hX : BK.C w AX n (by8 xs)) (hY : BK.C w AY m (by8 ys)) (hcX : n ≤ cX) (hcY : m ≤ cY) :
    Calls Try.prog 49 #[.pointer (some ⟨f, 0, none⟩), .slice AX n cX, .slice AY m cY] w (NewMay xs ys w) := by
  by_cases hb : n < 1 ∨ 14 < n ∨ m < 1 ∨ 4 < m
  · refine (codeNew_size f AX AY n m cX cY w hb).mono ?_
    rintro e w' ⟨rfl, rfl⟩
    refine ⟨_, _, rfl, Below.refl _ _, .inr ⟨?_, rfl, rfl⟩⟩
    have : ¬ (1 ≤ xs.length ∧ xs.length ≤ 14 ∧ 1 ≤ ys.length ∧ ys.length ≤ 4) := by omega
    unfold mayB
    rw [Bool.eq_false_iff]
    intro h
    simp only [Bool.and_eq_true, decide_eq_true_eq] at h
    exact this ⟨h.1.1.1.1, h.1.1.1.2, h.1.1.2, h.1.2⟩
  · have HC := codeNew_any f AX AY cX cY (by8 xs) (by8 ys) w hfl (by rw [by8_length, hn]; exact hX) (by rw [by8_length, hm]; exact hY) (by rw [by8_length, hn]; exact hcX) (by rw [by8_length, hm]; exact hcY) (by rw [by8_length]; omega) (by rw [by8_length]; omega) (by rw [by8_length]; omega) (by rw [by8_length]; omega)
    rw [by8_length, by8_length, hn, hm] at HC
    refine HC.mono ?_
    intro e w' ⟨h1, h2⟩
    have hm4 : mayB xs ys = decide ((by8 xs ++ by8 ys).Nodup) := by
      unfold mayB
      rw [decide_eq_true (show 1 ≤ xs.length by omega), decide_eq_true (show xs.length ≤ 14 by omega), decide_eq_true (show 1 ≤ ys.length by omega), decide_eq_true (show ys.length ≤ 4 by omega)]
      simp
    by_cases hd : (by8 xs ++ by8 ys).Nodup
    · obtain ⟨cp, rfl, hbl, _⟩ := h1 hd
      exact ⟨_, _, rfl, hbl, .inl ⟨by rw [hm4]; exact decide_eq_true hd, ⟨cp, rfl⟩, rfl⟩⟩
    · obtain ⟨rfl, hbl⟩ := h2 hd
      exact ⟨_, _, rfl, hbl, .inr ⟨by rw [hm4]; exact decide_eq_false hd, rfl, rfl⟩⟩
theorem may_call (n m cX cY : Nat) (AX AY : Option Addr) (xs ys : List UInt8) (w : World) (hn : xs.length = n) (hm : ys.length = m) (hX : BK.C w AX n (by8 xs)) (hY : BK.C w AY m (by8 ys)) (hcX : n ≤ cX) (hcY : m ≤ cY) :
    Calls Try.prog 52 #[.slice AX n cX, .slice AY m cY] w fun e w' => e = .returned (.bool (mayB xs ys)) ∧ Below w.heap.size w w' := by
  have h := Pr.hypocaustref1_CodeMay.calls 500 AX cX (by8 xs) AY cY (by8 ys) _ w (by rw [by8_length, hn]; exact hX) (by rw [by8_length, hn]; exact hcX) (by rw [by8_length, hm]; exact hY) (by rw [by8_length, hm]; exact hcY) (may_f xs ys)
  rw [by8_length, by8_length, hn, hm] at h
  exact h
end Go.Proofs.Ytnfodhagfcjfpaa
