/- Narrow refused; the statements' 'awake' of layer 5; ConvParts. -/
import Derived.Test.YtnfodhagfcjfpaaV1
namespace Go.Proofs.Ytnfodhagfcjfpaa
open Go.RowKit Go.Proofs.YtnfodhagfcjfpaaW.PrintWords Go.Proofs.YtnfodhagfcjfpaaW.PrintLast Go.Proofs.YtnfodhagfcjfpaaW.PrintMore
set_option linter.unusedVariables false
set_option linter.unusedSimpArgs false

theorem narrow_no (fp : Value) (T : Int) (ht : T < 0 ∨ 3 ≤ T) (w : World) :
    Calls Try.prog 24 #[fp, .int .i64 T] w fun e w' => e = .returned (.tuple #[.pointer none, .int .i64 1]) ∧ w = w' := by
  by_cases h1 : T < 0
  · have b1 : decide (T < 0) = true := decide_eq_true h1
    clear ht
    go_enter Try.func24, Try.ntmps24
    go_wp2
    go_ret2
    exact ⟨rfl, rfl⟩
  have b1 : decide (T < 0) = false := decide_eq_false h1
  have b2 : decide (3 ≤ T) = true := decide_eq_true (by omega)
  clear ht
  go_enter Try.func24, Try.ntmps24
  go_wp2
  go_ret2
  exact ⟨rfl, rfl⟩

theorem below_kf {base f : Nat} {w w1 w2 : World} (h : Below base w w1) (k : Kf f w1 w2) (hf : base ≤ f) (hb : base ≤ w1.heap.size) : Below base w w2 :=
  h.grown k hb (fun j hj => by injection hj with hj; omega)

theorem CodeU.below {w w1 : World} {f cp : Nat} {xs ys : List UInt8} (h : CodeU w f cp xs ys) (hk : Below w.heap.size w w1) : CodeU w1 f cp xs ys :=
  h.keep ((Kf.refl f w).below hk)

/-- Coef where i and j are in, in the walk's words -/
def CoefIn (f : Nat) (u : UInt8) (w : World) (e : Ending) (w' : World) : Prop := e = .returned (.int .u8 (u.toNat : Int)) ∧ Kf f w w' ∧ Fld w' f
theorem coef_num (f cp : Nat) (xs ys : List UInt8) (j i : Nat) (J I : Int) (hJ : J = j) (hI : I = i) (hj : j < ys.length) (hi : i < xs.length) (w : World) (hl : ys.length ≤ 255 ∧ xs.length ≤ 255) (h : CodeU w f cp xs ys) (hf : Fld w f) :
    Calls Try.prog 26 #[.pointer (some ⟨cp, 0, none⟩), .int .i64 J, .int .i64 I] w (MulPost f w (.int .u8 ((coef xs ys j i).toNat : Int))) := by
  subst hJ
  subst hI
  exact coef_in f cp xs ys j i hj hi w hl h hf

theorem size_num (f cp : Nat) (xs ys : List UInt8) (w : World) (k r : Int) (hk : (xs.length : Int) = k) (hr : (ys.length : Int) = r) (h : CodeU w f cp xs ys) :
    Calls Try.prog 53 #[.pointer (some ⟨cp, 0, none⟩)] w fun e w' => e = .returned (.tuple #[.int .i64 k, .int .i64 r]) ∧ ∃ n, w.drewN n = w' := by
  subst hk
  subst hr
  exact size_any f cp xs ys w h

theorem awake_coef : coef (nxs 1) nys 0 0 = coef wxs wys 0 4 := congrArg Hyp.inv (by decide)

set_option maxRecDepth 100000 in
set_option maxHeartbeats 2000000 in
theorem awake5_any (w : World) :
    Calls Try.prog 27 #[] w fun e w' => e = .returned (.bool true) ∧ Below w.heap.size w w' := by
  have HCE := Lib.hid awake_coef
  go_enter Try.func27, Try.ntmps27
  go_wp2_with (first | (go_at_call 23; refine (gfNew_any _).mono ?_; rintro e w1 ⟨rfl, rfl⟩))
  obtain ⟨w1, hw1⟩ : ∃ w1, w1 = w.alloc (.cells (fcells 0 0 0 0 0) 152) := ⟨_, rfl⟩
  obtain ⟨f, hfe⟩ : ∃ f, f = w.heap.size := ⟨_, rfl⟩
  have hs1 : w.heap.size ≤ w1.heap.size := by rw [hw1]; exact ((Below.refl w.heap.size w).alloc (Nat.le_refl _) _).size
  have HB1 := Lib.hid (show Below w.heap.size w w1 by rw [hw1]; exact (Below.refl _ _).alloc (Nat.le_refl _) _)
  have HF1 := Lib.hid (show Fld w1 f by rw [hw1, hfe]; exact .inl (heap_alloc_new w _))
  rw [← hw1, ← hfe]
  have HFE := Lib.hid hfe
  have HS1 := Lib.hid hs1
  clear hw1 hfe hs1
  refine (narrow_num f 1 1 rfl (by decide) w1 HF1.out.lt).mono ?_
  rintro e w2 ⟨n, rfl, hb2, hn, hcn⟩
  have HF2 := Lib.hid (HF1.out.below hb2)
  have HB2 := Lib.hid (below_step HB1.out hb2)
  have HN := Lib.hid hcn
  clear hb2 hcn
  go_wp2_with (first | (go_at_call 25; refine (wide_any f _ HF2.out.lt).mono ?_; rintro e w3 ⟨c, rfl, hb3, hc, hcc⟩) | (go_at_call_of 24 (Value.int .i64 3); refine (narrow_no _ 3 (by omega) _).mono ?_; rintro e w4 ⟨rfl, rfl⟩))
  have HF3 := Lib.hid (HF2.out.below hb3)
  have HB3 := Lib.hid (below_step HB2.out hb3)
  have HN3 := Lib.hid (HN.out.below hb3)
  have HC := Lib.hid hcc
  clear hb3 hcc
  refine (size_num f n (nxs 1) nys _ 4 2 rfl rfl HN3.out).mono ?_
  rintro e w5 ⟨rfl, m5, rfl⟩
  go_wp2_with (first | (go_at_call_of 53 (Value.pointer (some ⟨c, 0, none⟩)); refine (size_num f c wxs wys _ 14 4 rfl rfl (HC.out.keep ((Kf.refl f w3).drewN m5))).mono ?_; rintro e w6 ⟨rfl, m6, rfl⟩))
  refine (coef_num f n (nxs 1) nys 0 0 0 0 rfl rfl (by decide) (by decide) _ (by decide) (HN3.out.keep ((Kf.refl f w3).drewN (m5 + m6))) (HF3.out.drewN (m5 + m6))).mono ?_
  rintro e w7 ⟨rfl, hk7, hf7⟩
  have HF7 := Lib.hid hf7
  have HK7 := Lib.hid (((Kf.refl f w3).drewN (m5 + m6)).trans hk7)
  clear hf7 hk7
  rw [HCE.out]
  obtain ⟨u, hu⟩ : ∃ u, u = coef wxs wys 0 4 := ⟨_, rfl⟩
  have HU := Lib.hid hu
  rw [← hu]
  clear hu
  go_wp2_with (first | (go_at_call_of 26 (Value.pointer (some ⟨c, 0, none⟩)); refine (coef_num f c wxs wys 0 4 0 4 rfl rfl (by decide) (by decide) _ (by decide) (HC.out.keep HK7.out) HF7.out).mono ?_; rintro e w8 ⟨rfl, hk8, hf8⟩; rw [← HU.out]))
  have HK8 := Lib.hid (HK7.out.trans hk8)
  clear hk8 hf8
  go_wp2
  go_ret
  exact ⟨by simp, below_kf HB3.out HK8.out (by rw [HFE.out]; exact Nat.le_refl _) HB3.out.size⟩
end Go.Proofs.Ytnfodhagfcjfpaa
