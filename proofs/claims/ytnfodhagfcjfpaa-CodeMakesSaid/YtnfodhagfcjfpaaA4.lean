/- hypocaustlaw4.awake. -/
import Derived.Test.YtnfodhagfcjfpaaPv1
namespace Go.Proofs.Ytnfodhagfcjfpaa
open Go.RowKit Go.Proofs.YtnfodhagfcjfpaaW.PrintWords Go.Proofs.YtnfodhagfcjfpaaW.PrintLast Go.Proofs.YtnfodhagfcjfpaaW.PrintMore
set_option linter.unusedVariables false
set_option linter.unusedSimpArgs false

theorem reps_each {α : Type} {R : α → List Value → Prop} {xs : List α} {vs : List Value} (hl : xs.length = vs.length) (h : ∀ (j : Nat) (x : α) (v : Value), xs[j]? = some x → vs[j]? = some v → R x [v]) : Reps R 1 xs vs := by
  refine ⟨by omega, fun j x hx => ?_⟩
  have hj : j < vs.length := by have := (List.getElem?_eq_some_iff.1 hx).1; omega
  have e : (vs.drop (j * 1)).take 1 = [vs[j]] := by
    rw [Nat.mul_one, List.drop_eq_getElem_cons hj]
    rfl
  rw [e]
  exact h j x _ hx (List.getElem?_eq_getElem hj)
theorem reps_two {α : Type} {R : α → List Value → Prop} {x y : α} {u v : Value} (h1 : R x [u]) (h2 : R y [v]) : Reps R 1 [x, y] [u, v] := by
  refine reps_each rfl (fun j a b ha hb => ?_)
  rcases j with _ | _ | j
  · simp at ha hb; subst ha; subst hb; exact h1
  · simp at ha hb; subst ha; subst hb; exact h2
  · simp at ha
theorem reps_three {α : Type} {R : α → List Value → Prop} {x y z : α} {u v t : Value} (h1 : R x [u]) (h2 : R y [v]) (h3 : R z [t]) : Reps R 1 [x, y, z] [u, v, t] := by
  refine reps_each rfl (fun j a b ha hb => ?_)
  rcases j with _ | _ | _ | j
  · simp at ha hb; subst ha; subst hb; exact h1
  · simp at ha hb; subst ha; subst hb; exact h2
  · simp at ha hb; subst ha; subst hb; exact h3
  · simp at ha

section
variable {P : Program} {ops : Array Oper} {rest : List Oper} {o : Oper} {a : Act} {Q : Exit → Act → World → Prop} {α : Type}
/-- []byte{..} -/
theorem lit8 {W : World} (hgd : o.guard = none) {N : Tmp} (hd : o.dst = some N) (l : List UInt8) (n : Nat) (hn : l.length = n) (hm : n ≤ 1000)
    (hrun : (execOp a.eval o).run P W = .ok (.value (.slice (some ⟨W.heap.size, 0, none⟩) n n)) (W.alloc (.cells (encs (Value.int .u8) (by8 l)).toArray 5)))
    (h : ∀ g c w1, BK.R 5 w1 W.heap.size (fun _ => True) (.slice (some ⟨g, 0, none⟩) n c) (by8 l) → Below W.heap.size W w1 → wpList P ops Q rest (a.put o.dst (.slice (some ⟨g, 0, none⟩) n c)) w1) : wpList P ops Q (o :: rest) a W := by
  have hl : (by8 l).length = n := by rw [by8_length, hn]
  refine Kd.R_lit BK (w0 := W) W.heap.size 5 hgd hd (xs := by8 l) (inner := encs (Value.int .u8) (by8 l)) (ok := fun _ => True) (okp := fun _ => False) (by rw [hl]; exact hrun) (Kd.reps_scalar _) (fun _ hk => hk.elim) trivial (Below.refl _ _) (Nat.le_refl _) (by rw [hl]; omega) ?_
  intro v1 w1 hv hb _ ho
  obtain ⟨g, c, rfl, _, _⟩ := R_own_form hv ho
  rw [hl] at hv ⊢
  exact h g c w1 hv hb
/-- [][]byte{..}, and its like -/
theorem litD (d : Kd α) {W w0 : World} (base e : Nat) (hgd : o.guard = none) {N : Tmp} (hd : o.dst = some N) (xs : List α) (vs : List Value) (n : Nat) (hn : xs.length = n) (hm : n ≤ 1000)
    (hrun : (execOp a.eval o).run P W = .ok (.value (.slice (some ⟨W.heap.size, 0, none⟩) n n)) (W.alloc (.cells vs.toArray e)))
    (hrep : Reps (d.M W base (fun _ => True)) d.sz xs vs) (HB : Below base w0 W) (hbase : base ≤ W.heap.size)
    (h : ∀ g c w1, d.R e w1 base (fun _ => True) (.slice (some ⟨g, 0, none⟩) n c) xs → Below base w0 w1 → Below W.heap.size W w1 → wpList P ops Q rest (a.put o.dst (.slice (some ⟨g, 0, none⟩) n c)) w1) : wpList P ops Q (o :: rest) a W := by
  refine Kd.R_lit d (w0 := w0) base e hgd hd (xs := xs) (inner := vs) (ok := fun _ => True) (okp := fun _ => True) (by rw [hn]; exact hrun) hrep (fun _ hk => hk) trivial HB hbase (by omega) ?_
  intro v1 w1 hv hb hg ⟨b, hb1, hb2⟩
  obtain ⟨ad, m, c, rfl⟩ := nonnil_of_own hb1
  obtain ⟨g, rfl⟩ := Kd.R_head hv
  have hm1 := (Kd.R_reads' hv).1
  subst hm1
  rw [hn] at hv ⊢
  exact h g c w1 hv hb ((Below.refl _ _).grown hg (Nat.le_refl _) (fun k hk => by cases hk))
end

theorem enc4 : enc [0, 1] [2] 1 [[1], [0]] 1 = [[142]] := by decide +kernel
theorem all4 : allRows [0, 1] [2] 1 [[1], [0]] = [[1], [0], [142]] := by decide +kernel
abbrev L4 : Osh := [none, some [0], some [142]]
theorem dec4 (R : Hyp.Mat) (h : Turns [0, 1] [2] ((thereFrom 0 L4).take 2) R) : dec [0, 1] [2] L4 ((thereFrom 0 L4).take 2) R 1 = [[1], [0], [142]] := by
  rw [dec_all [0, 1] [2] L4 ((thereFrom 0 L4).take 2) R 1 [[1], [0]] rfl (by decide) ?_ (by decide) h, all4]
  rw [all4]
  exact ⟨rfl, by decide⟩
theorem oneLen (L : Osh) (n : Nat) (h : L.all (fun x => match x with | some l => l.length == n | none => true) = true) : ∀ l, some l ∈ L → l.length = n := by
  intro l hl
  have := List.all_eq_true.1 h _ hl
  simpa using this

set_option maxRecDepth 100000 in
set_option maxHeartbeats 4000000 in
theorem awake4_any (w : World) : Calls Try.prog 51 #[] w fun e w' => e = .returned (.bool true) ∧ Below w.heap.size w w' := by
  go_enter Try.func51, Try.ntmps51
  go_upto_region 4 with (first | (go_at_call 23; go_loud (refine (gfNew_own _).mono ?_; rintro e w1 ⟨f, rfl, hf1, hb0, hb1⟩; have H1 := Lib.hid (show Held w w1 f from ⟨hb1, hf1, hb0⟩); have hfl := hf1.lt; clear hf1 hb0 hb1)) | ((with_reducible refine gate_dst (N := 11) rfl ?_); go_loud (refine lit8 rfl (N := 11) rfl [0, 1] 2 rfl (by decide) (by first | (go_simp; done) | (go_simp; rfl)) ?_; intro g2 c2 w2 hvt hbt; have HVw2 := Lib.hid hvt; have HBw2 := Lib.hid hbt; clear hvt hbt)) | ((with_reducible refine gate_dst (N := 12) rfl ?_); go_loud (refine lit8 rfl (N := 12) rfl [2] 1 rfl (by decide) (by first | (go_simp; done) | (go_simp; rfl)) ?_; intro g3 c3 w3 hvt hbt; have HVw3 := Lib.hid hvt; have HBw3 := Lib.hid hbt; clear hvt hbt)) | (go_at_call 49; go_loud (refine (newU_of hfl (xs := [0, 1]) (ys := [2]) HVw2.out HBw2.out HVw3.out HBw3.out (by decide) (by decide) (by decide)).mono ?_; rintro e w4 ⟨cp, rfl, hb4, hcp, hc4⟩; have H4 := Lib.hid (H1.out.step hb4); have HC4 := Lib.hid hc4; clear hb4 hc4)))
  go_upto_region 5 with (first | ((with_reducible refine gate_dst (N := 24) rfl ?_); go_loud (refine lit8 rfl (N := 24) rfl [1] 1 rfl (by decide) (by first | (go_simp; done) | (go_simp; rfl)) ?_; intro g5 c5 w5 hvt hbt; have HVw5 := Lib.hid hvt; have HBw5 := Lib.hid hbt; clear hvt hbt)) | ((with_reducible refine gate_dst (N := 25) rfl ?_); go_loud (refine lit8 rfl (N := 25) rfl [0] 1 rfl (by decide) (by first | (go_simp; done) | (go_simp; rfl)) ?_; intro g6 c6 w6 hvt hbt; have HVw6 := Lib.hid hvt; have HBw6 := Lib.hid hbt; clear hvt hbt)) | ((with_reducible refine gate_dst (N := 26) rfl ?_); go_loud (refine litD LK (w0 := w4) w4.heap.size 22 rfl (N := 26) rfl (ll8 [[1], [0]]) [.slice (some ⟨g5, 0, none⟩) 1 c5, .slice (some ⟨g6, 0, none⟩) 1 c6] 2 rfl (by decide) (by first | (go_simp; done) | (go_simp; rfl)) (reps_two (Kd.M_row (Kd.R_below HVw5.out HBw6.out)) (Kd.M_row (Kd.R_lower HVw6.out HBw5.out.size))) (below_step HBw5.out HBw6.out) (below_step HBw5.out HBw6.out).size ?_; intro g7 c7 w7 hv7 hb7 _; have HV7 := Lib.hid hv7; have HB7 := Lib.hid hb7; clear hv7 hb7)) | (go_at_call 33; go_loud (refine (encode_any f cp [0, 1] [2] 1 [[1], [0]] (some ⟨g7, 0, none⟩) c7 _ (HC4.out.below HB7.out) (H4.out.fld.below HB7.out) (by decide) rfl (by decide) (by decide) (by decide) (Kd.F_mono (R_F HV7.out) (fun b hb => by have := hb.2; have := H4.out.fld.lt; omega))).mono ?_; rintro e w8 ⟨v8, rfl, hv8, hk8, hf8⟩; have HV8 := Lib.hid hv8; have HK8 := Lib.hid (((Kf.refl f w4).below HB7.out).trans hk8); have HF8 := Lib.hid hf8; clear hv8 hk8 hf8)))
  replace HV8 := Lib.hid (show LK.R 22 w8 w7.heap.size (fun _ => True) v8 (ll8 [[142]]) by
    have h := HV8.out
    rwa [show enc [0, 1] [2] 1 [[1], [0]] ([2] : List UInt8).length = [[142]] from enc4] at h)
  obtain ⟨A8, c8, rfl, _, _⟩ := Kd.R_reads HV8.out
  rw [show (ll8 [[142]]).length = 1 from rfl] at HV8 ⊢
  go_upto_region 6 with (first | ((with_reducible refine gate_dst (N := 32) rfl ?_); go_loud (refine lit8 rfl (N := 32) rfl [0] 1 rfl (by decide) (by first | (go_simp; done) | (go_simp; rfl)) ?_; intro g9 c9 w9 hvt hbt; have HVw9 := Lib.hid hvt; have HBw9 := Lib.hid hbt; clear hvt hbt)) | ((with_reducible refine gate_dst (N := 33) rfl ?_); go_loud (refine lit8 rfl (N := 33) rfl [142] 1 rfl (by decide) (by first | (go_simp; done) | (go_simp; rfl)) ?_; intro g10 c10 w10 hvt hbt; have HVw10 := Lib.hid hvt; have HBw10 := Lib.hid hbt; clear hvt hbt)) | ((with_reducible refine gate_dst (N := 34) rfl ?_); go_loud (refine litD ZK (w0 := w8) w8.heap.size 22 rfl (N := 34) rfl L4 [.slice none 0 0, .slice (some ⟨g9, 0, none⟩) 1 c9, .slice (some ⟨g10, 0, none⟩) 1 c10] 3 rfl (by decide) (by first | (go_simp; done) | (go_simp; rfl)) (reps_three (ZK_none _ _ _) (ZK_some (Kd.R_below HVw9.out HBw10.out)) (ZK_some (Kd.R_lower HVw10.out HBw9.out.size))) (below_step HBw9.out HBw10.out) (below_step HBw9.out HBw10.out).size ?_; intro g11 c11 w11 hv11 hb11 _; have HV11 := Lib.hid hv11; have HB11 := Lib.hid hb11; clear hv11 hb11)) | (go_at_call 50; go_loud (have HK11 := Lib.hid (HK8.out.below HB11.out); have HF11 := Lib.hid (HF8.out.below HB11.out); refine (decode_any f cp [0, 1] [2] 1 L4 (some ⟨g11, 0, none⟩) c11 _ (HC4.out.keep HK11.out) HF11.out (by decide) (by decide) (by unfold Unlike; decide) (ZK_Shd (Kd.F_mono (R_F HV11.out) (fun b hb => by have := hb.2; have := HF8.out.lt; omega)) rfl) rfl (oneLen _ _ (by decide)) (by decide) (by rfl) (by decide)).mono ?_; rintro e w12 ⟨v12, R, rfl, ht12, hv12, hk12, hf12⟩; have HV12 := Lib.hid hv12; have HK12 := Lib.hid hk12; have HF12 := Lib.hid hf12; have HT12 := Lib.hid ht12; clear hv12 hk12 hf12 ht12)))
  have HW12 := Lib.hid (show LK.R 22 w12 w11.heap.size (fun _ => True) v12 (ll8 [[1], [0], [142]]) by have h := HV12.out; rwa [show dec [0, 1] [2] L4 ((thereFrom 0 L4).take ([0, 1] : List UInt8).length) R 1 = [[1], [0], [142]] from dec4 R HT12.out] at h)
  obtain ⟨A12, c12, rfl, _, _⟩ := Kd.R_reads HW12.out
  rw [show (ll8 [[1], [0], [142]]).length = 3 from rfl] at HW12 ⊢
  go_upto_region 7 with (first | ((with_reducible refine gate_dst (N := 40) rfl ?_); go_loud (refine lit8 rfl (N := 40) rfl [142] 1 rfl (by decide) (by first | (go_simp; done) | (go_simp; rfl)) ?_; intro g13 c13 w13 hvt hbt; have HVw13 := Lib.hid hvt; have HBw13 := Lib.hid hbt; clear hvt hbt)) | ((with_reducible refine gate_dst (N := 41) rfl ?_); go_loud (refine litD ZK (w0 := w12) w12.heap.size 22 rfl (N := 41) rfl [none, none, some [142]] [.slice none 0 0, .slice none 0 0, .slice (some ⟨g13, 0, none⟩) 1 c13] 3 rfl (by decide) (by first | (go_simp; done) | (go_simp; rfl)) (reps_three (ZK_none _ _ _) (ZK_none _ _ _) (ZK_some HVw13.out)) HBw13.out HBw13.out.size ?_; intro g14 c14 w14 hv14 hb14 _; have HV14 := Lib.hid hv14; have HB14 := Lib.hid hb14; clear hv14 hb14)) | (go_at_call 50; go_loud (have HK14 := Lib.hid ((HK11.out.trans HK12.out).below HB14.out); have HF14 := Lib.hid (HF12.out.below HB14.out); refine (decode_lost f cp [0, 1] [2] [none, none, some [142]] (some ⟨g14, 0, none⟩) c14 _ (HC4.out.keep HK14.out) HF14.out (by decide) (ZK_Shd (Kd.F_mono (R_F HV14.out) (fun b hb => by have := hb.2; have := HF12.out.lt; omega)) rfl) rfl (fun l hl => by rw [oneLen _ 1 (by decide) l hl]; decide) 1 (by rfl) (by decide)).mono ?_; rintro e w15 ⟨rfl, hk15, hf15⟩; have HK15 := Lib.hid hk15; have HF15 := Lib.hid hf15; clear hk15 hf15)))
  have hK8 := ((((Kf.refl f w8).below HB11.out).trans HK12.out).below HB14.out).trans HK15.out
  have hK12 := ((Kf.refl f w12).below HB14.out).trans HK15.out
  have hfl7 : f < w7.heap.size := by have := H4.out.fld.lt; have := HB7.out.size; omega
  have hfl11 : f < w11.heap.size := by have := HB11.out.size; have := HF8.out.lt; omega
  have HE := Lib.hid (H4.out.kf ((((HK8.out.below HB11.out).trans HK12.out).below HB14.out).trans HK15.out) HF15.out)
  obtain ⟨a8, A80, c80, rfl, hx8, _, hz8⟩ := LK_at (Kd.R_reads' (R_kf HV8.out hK8 hfl7)).2.2 0 (by decide)
  obtain ⟨a12, A120, c120, rfl, hx12, _, hz12⟩ := LK_at (Kd.R_reads' (R_kf HW12.out hK12 hfl11)).2.2 0 (by decide)
  replace hx8 : w15.cell? a8 = some (.slice A80 1 c80) := hx8
  replace hx12 : w15.cell? a12 = some (.slice A120 1 c120) := hx12
  have hcv8 : (convert 22 9 (.slice A80 1 c80)).run Try.prog w15 = .ok (.string ⟨#[142]⟩) w15 := Kd.C_string Try.underlying22 Try.underlying5 Try.underlying9 hz8
  have hcv12 : (convert 22 9 (.slice A120 1 c120)).run Try.prog w15 = .ok (.string ⟨#[1]⟩) w15 := Kd.C_string Try.underlying22 Try.underlying5 Try.underlying9 hz12
  clear hK8 hK12 hz8 hz12
  go_wp2
  go_ret
  exact ⟨rfl, HE.out.below⟩
end Go.Proofs.Ytnfodhagfcjfpaa
