/- ConvParts, walked. -/
import Derived.Test.YtnfodhagfcjfpaaV2
import Derived.Below
import Derived.ChangeSame
import Derived.RowKit3
namespace Go.Proofs.Ytnfodhagfcjfpaa
open Go.RowKit Go.WideShapes Go.ChangeShapes Go.Proofs.YtnfodhagfcjfpaaW.PrintWords Go.Proofs.YtnfodhagfcjfpaaW.PrintLast Go.Proofs.YtnfodhagfcjfpaaW.PrintMore
set_option linter.unusedVariables false
set_option linter.unusedSimpArgs false

theorem i64_mask (k : Nat) (m : Int) (hk : k < 63) (hm : (BitVec.ofInt 64 m).toNat = 2 ^ k - 1) (n : Int) : Go.bits .and .i64 n m = n % ((2 ^ k : Nat) : Int) := by
  have h64 : (2 ^ k : Nat) ∣ 2 ^ 64 := Nat.pow_dvd_pow 2 (by omega)
  have h63 : (2 ^ k : Nat) < 2 ^ 63 := Nat.pow_lt_pow_right (by omega) (by omega)
  have key : (BitVec.ofInt 64 n &&& BitVec.ofInt 64 m).toNat = (n % ((2 ^ 64 : Nat) : Int)).toNat % 2 ^ k := by
    rw [BitVec.toNat_and, BitVec.toNat_ofInt, hm, Nat.and_two_pow_sub_one_eq_mod]
  show IntKind.i64.wrap ((BitVec.ofInt 64 n &&& BitVec.ofInt 64 m).toNat : Nat) = _
  rw [key]
  have hp : 0 < 2 ^ k := Nat.two_pow_pos k
  have hlt := Nat.mod_lt (n % ((2 ^ 64 : Nat) : Int)).toNat hp
  rw [IntWalk.i64_in _ ⟨by omega, by omega⟩]
  rw [Int.natCast_emod, Int.toNat_of_nonneg (Int.emod_nonneg _ (by omega))]
  exact Int.emod_emod_of_dvd n (Int.natCast_dvd_natCast.2 h64)
theorem mask255 (n : Int) : Go.bits .and .i64 n 255 = n % 256 := i64_mask 8 255 (by decide) (by decide) n
theorem mask3 (n : Int) : Go.bits .and .i64 n 3 = n % 4 := i64_mask 2 3 (by decide) (by decide) n
theorem mask1 (n : Int) : Go.bits .and .i64 n 1 = n % 2 := i64_mask 1 1 (by decide) (by decide) n
theorem mask63 (n : Int) : Go.bits .and .i64 n 63 = n % 64 := i64_mask 6 63 (by decide) (by decide) n

theorem inv_inj (a b : UInt8) (h : Hyp.inv a = Hyp.inv b) : a = b := by
  by_cases ha : a = 0
  · by_cases hb : b = 0
    · rw [ha, hb]
    · exact absurd (h.symm.trans (by rw [ha]; rfl)) (Hyp.inv_ne b hb)
  · by_cases hb : b = 0
    · exact absurd (h.trans (by rw [hb]; rfl)) (Hyp.inv_ne a ha)
    · have h1 := Hyp.mul_inv a ha
      have h2 := Hyp.mul_inv b hb
      have h3 : Hyp.mul a (Hyp.mul b (Hyp.inv b)) = a := by rw [h2]; exact Hyp.mul_one a
      rw [← h3, ← Hyp.mul_assoc, Hyp.mul_comm a b, Hyp.mul_assoc, ← h, h1]
      exact Hyp.mul_one b

theorem parts_coef (t i j a : Nat) (ht : t < 3) (hi : i < 4) (hj : j < 2) (ha : a < 14) : (coef wxs wys j a = coef (nxs t) nys j i) ↔ a = 4 * t + i := by
  have key : ∀ t, t < 3 → ∀ i, i < 4 → ∀ j, j < 2 → ∀ a, a < 14 → ((wys.getD j 0 ^^^ wxs.getD a 0 = nys.getD j 0 ^^^ (nxs t).getD i 0) ↔ a = 4 * t + i) := by decide
  exact ⟨fun h => (key t ht i hi j hj a ha).1 (inv_inj _ _ h), fun h => congrArg Hyp.inv ((key t ht i hi j hj a ha).2 h)⟩

theorem parts_ne : coef wxs wys 3 13 ≠ 0 := Hyp.inv_ne _ (by decide)

theorem coef_no (f cp : Nat) (xs ys : List UInt8) (J I : Int) (hb : J < 0 ∨ (ys.length : Int) ≤ J ∨ I < 0 ∨ (xs.length : Int) ≤ I) (w : World) (h : CodeU w f cp xs ys) :
    Calls Try.prog 26 #[.pointer (some ⟨cp, 0, none⟩), .int .i64 J, .int .i64 I] w fun e w' => e = .returned (.int .u8 0) ∧ w = w' := coef_out f cp xs ys J I hb w h

theorem u8_ne_zero (u : UInt8) (h : u ≠ 0) : ((u.toNat : Int) != 0) = true := by
  rw [bne_iff_ne]
  intro hc
  apply h
  apply UInt8.toNat_inj.1
  have : u.toNat = 0 := by omega
  rw [this]
  rfl

/-- A ne B, of Bools, where A's test is B's -/
theorem bool_same {x y : UInt8} {m n : Int} (h : x = y ↔ m = n) : (((x.toNat : Int) == (y.toNat : Int)) != (m == n)) = false := by
  by_cases hm : m = n
  · have := h.2 hm
    subst this
    subst hm
    simp
  · have hx : x ≠ y := fun e => hm (h.1 e)
    have hx2 : ((x.toNat : Int) == (y.toNat : Int)) = false := by
      rw [beq_eq_false_iff_ne]
      intro hc
      exact hx (UInt8.toNat_inj.1 (by omega))
    rw [hx2, beq_eq_false_iff_ne.2 hm]
    rfl

theorem gfNew_own (w : World) :
    Calls Try.prog 23 #[] w fun e w' => ∃ f, e = .returned (.pointer (some ⟨f, 0, none⟩)) ∧ Fld w' f ∧ w.heap.size ≤ f ∧ Below w.heap.size w w' := by
  refine (gfNew_any w).mono ?_
  rintro e w1 ⟨rfl, rfl⟩
  exact ⟨_, rfl, .inl (heap_alloc_new w _), Nat.le_refl _, (Below.refl _ _).alloc (Nat.le_refl _) _⟩

/-- what a statement's walk knows of the world: all that was there is there, the field f is one -/
structure Held (w0 w : World) (f : Nat) : Prop where
  below : Below w0.heap.size w0 w
  fld : Fld w f
  base : w0.heap.size ≤ f
theorem Held.step {w0 w w1 : World} {f : Nat} (h : Held w0 w f) (hb : Below w.heap.size w w1) : Held w0 w1 f := ⟨below_step h.below hb, h.fld.below hb, h.base⟩
theorem Held.kf {w0 w w1 : World} {f : Nat} (h : Held w0 w f) (hk : Kf f w w1) (hf : Fld w1 f) : Held w0 w1 f := ⟨below_kf h.below hk h.base h.below.size, hf, h.base⟩

set_option maxRecDepth 100000 in
set_option maxHeartbeats 4000000 in
theorem convParts_any (a0 a1 a2 : Int) (w : World) :
    Calls Try.prog 4 #[.int .i64 a0, .int .i64 a1, .int .i64 a2] w fun e w' => e = .returned (.bool true) ∧ Below w.heap.size w w' := by
  obtain ⟨t, ht⟩ : ∃ t : Nat, (a0 % 256) % 3 = (t : Int) := ⟨((a0 % 256) % 3).toNat, by omega⟩
  obtain ⟨i, hi⟩ : ∃ i : Nat, a1 % 4 = (i : Int) := ⟨(a1 % 4).toNat, by omega⟩
  obtain ⟨j, hj⟩ : ∃ j : Nat, a2 % 2 = (j : Int) := ⟨(a2 % 2).toNat, by omega⟩
  have ht3 : t < 3 := by omega
  have hi4 : i < 4 := by omega
  have hj2 : j < 2 := by omega
  have h0 : Go.bits .and .i64 a0 255 = a0 % 256 := mask255 a0
  have h1 : Go.bits .and .i64 a1 3 = (i : Int) := (mask3 a1).trans hi
  have h2 : Go.bits .and .i64 a2 1 = (j : Int) := (mask1 a2).trans hj
  have hT : (a0 % 256).tmod 3 = (t : Int) := by rw [Int.tmod_eq_emod_of_nonneg (by omega)]; exact ht
  clear ht hi hj
  obtain ⟨T, hTT⟩ : ∃ T : Int, T = (t : Int) := ⟨_, rfl⟩
  rw [← hTT] at hT
  have HT := Lib.hid hTT
  clear hTT
  go_enter Try.func4, Try.ntmps4
  go_wp2_with (first | (go_at_call 23; refine (gfNew_own _).mono ?_; rintro e w1 ⟨f, rfl, hf1, hb0, hb1⟩))
  have H1 := Lib.hid (show Held w w1 f from ⟨hb1, hf1, hb0⟩)
  clear hf1 hb0 hb1
  refine (narrow_num f t T HT.out ht3 w1 H1.out.fld.lt).mono ?_
  rintro e w2 ⟨n, rfl, hb2, hn, hcn⟩
  have H2 := Lib.hid (H1.out.step hb2)
  have HN2 := Lib.hid hcn
  clear hb2 hcn
  go_wp2_with (first | (go_at_call 25; refine (wide_any f _ H2.out.fld.lt).mono ?_; rintro e w3 ⟨c, rfl, hb3, hc, hcc⟩))
  have H3 := Lib.hid (H2.out.step hb3)
  have HN3 := Lib.hid (HN2.out.below hb3)
  have HC3 := Lib.hid hcc
  clear hb3 hcc
  have hT0 : 0 ≤ T := by have := HT.out; omega
  have hT2 : T ≤ 2 := by have := HT.out; omega
  have HK := Lib.hid h0
  clear h0 h1 h2 hT HK
  go_loopw [12] (fun a wr => ∃ k : Nat, k ≤ 14 ∧ a = .int .i64 k ∧ Hid (Held w wr f) ∧ Hid (Kf f w3 wr)) (fun a _ => 14 - (intOf a).toNat)
  case atStart => exact ⟨0, Nat.zero_le _, rfl, H3, Lib.hid (Kf.refl _ _)⟩
  case round =>
    obtain ⟨k, hk, rfl, HH, HK⟩ := hrel
    by_cases hlt : k < 14
    · have b1 : decide ((k : Int) < 14) = true := decide_eq_true (by omega)
      go_wp2_with (first | (go_at_call_of 26 (Value.pointer (some ⟨c, 0, none⟩)); refine (coef_num f c wxs wys j k _ _ rfl rfl (by have : wys.length = 4 := rfl; omega) (by have : wxs.length = 14 := rfl; omega) _ (by decide) (HC3.out.keep HK.out) HH.out.fld).mono ?_; rintro e w7 ⟨rfl, hk7, hf7⟩))
      have HH7 := Lib.hid (HH.out.kf hk7 hf7)
      have HK7 := Lib.hid (HK.out.trans hk7)
      clear hk7 hf7
      refine (coef_num f n (nxs t) nys j i _ _ rfl rfl (by have : nys.length = 2 := rfl; omega) (by have : (nxs t).length = 4 := rowU_length _ _; omega) _ (by rw [show (nxs t).length = 4 from rowU_length _ _]; decide) (HN3.out.keep HK7.out) HH7.out.fld).mono ?_
      rintro e w8 ⟨rfl, hk8, hf8⟩
      have HH8 := Lib.hid (HH7.out.kf hk8 hf8)
      have HK8 := Lib.hid (HK7.out.trans hk8)
      clear hk8 hf8
      have b2 : (!((((coef wxs wys j k).toNat : Int) == ((coef (nxs t) nys j i).toNat : Int)) == ((k : Int) == 4 * T + (i : Int)))) = false := bool_same ((parts_coef t i j k ht3 hi4 hj2 hlt).trans (by have := HT.out; omega))
      obtain ⟨u, hu⟩ : ∃ u, u = coef wxs wys j k := ⟨_, rfl⟩
      obtain ⟨v, hv⟩ : ∃ v, v = coef (nxs t) nys j i := ⟨_, rfl⟩
      rw [← hu, ← hv] at b2
      rw [← hu, ← hv]
      clear hu hv
      go_wp2
      go_roundw
      case rel => exact ⟨k + 1, by omega, by go_num, HH8, HK8⟩
      case measure => simp [intOf]; omega
    · obtain rfl : k = 14 := by omega
      have HNW := Lib.hid (HN3.out.keep HK.out)
      have HCW := Lib.hid (HC3.out.keep HK.out)
      go_wp2_with (first | (go_at_call_of 26 (Value.int .i64 2); refine (coef_no f n (nxs t) nys 2 0 (by right; left; decide) _ HNW.out).mono ?_; rintro e w7 ⟨rfl, rfl⟩))
      refine (coef_no f n (nxs t) nys 0 4 (by right; right; right; rw [show (nxs t).length = 4 from rowU_length _ _]; decide) _ HNW.out).mono ?_
      rintro e w8 ⟨rfl, rfl⟩
      have b3 := u8_ne_zero _ parts_ne
      obtain ⟨u, hu⟩ : ∃ u, u = coef wxs wys 3 13 := ⟨_, rfl⟩
      rw [← hu] at b3
      have HU := Lib.hid hu
      clear hu
      go_wp2_with (first | (go_at_call_of 26 (Value.int .i64 3); refine (coef_num f c wxs wys 3 13 3 13 rfl rfl (by decide) (by decide) _ (by decide) HCW.out HH.out.fld).mono ?_; rintro e w9 ⟨rfl, hk9, hf9⟩; rw [← HU.out]))
      have HH9 := Lib.hid (HH.out.kf hk9 hf9)
      clear hk9 hf9
      go_outline
      refine (awake5_any _).mono ?_
      rintro e w10 ⟨rfl, hb⟩
      have HH10 := Lib.hid (HH9.out.step hb)
      clear hb
      go_wp2
      go_ret
      exact ⟨by simp, HH10.out.below⟩
end Go.Proofs.Ytnfodhagfcjfpaa
