/- The statement CodeEmpty: its walk. -/
import Derived.Test.YtnfodhagfcjfpaaA4
import Derived.Test.YtnfodhagfcjfpaaJ3
namespace Go.Proofs.Ytnfodhagfcjfpaa
open Go.RowKit Go.Proofs.YtnfodhagfcjfpaaW.PrintWords Go.Proofs.YtnfodhagfcjfpaaW.PrintLast Go.Proofs.YtnfodhagfcjfpaaW.PrintMore
set_option linter.unusedVariables false
set_option linter.unusedSimpArgs false

theorem by8_nodup {l : List UInt8} (h : l.Nodup) : (by8 l).Nodup := by
  unfold by8 List.Nodup
  rw [List.pairwise_map]
  exact List.Pairwise.imp (fun {a b} hab he => hab (UInt8.toNat_inj.1 (by omega))) h
theorem newU_c {f cX cY n m : Nat} {AX AY : Option Addr} {xs ys : List UInt8} {w : World} (hfl : f < w.heap.size) (hn : xs.length = n) (hm : ys.length = m) (hX : BK.C w AX n (by8 xs)) (hcX : n ≤ cX) (hY : BK.C w AY m (by8 ys)) (hcY : m ≤ cY)
    (hu : Unlike xs ys) (hx : 1 ≤ n ∧ n ≤ 14) (hy : 1 ≤ m ∧ m ≤ 4) :
    Calls Try.prog 49 #[.pointer (some ⟨f, 0, none⟩), .slice AX n cX, .slice AY m cY] w (NewU f xs ys w) := by
  subst hn
  subst hm
  have HC := codeNew_any f AX AY cX cY (by8 xs) (by8 ys) w hfl (by rw [by8_length]; exact hX) (by rw [by8_length]; exact hY) (by rw [by8_length]; exact hcX) (by rw [by8_length]; exact hcY) (by rw [by8_length]; omega) (by rw [by8_length]; omega) (by rw [by8_length]; omega) (by rw [by8_length]; omega)
  rw [by8_length, by8_length] at HC
  refine HC.mono ?_
  intro e w3 ⟨hp, _⟩
  have hn : (by8 xs ++ by8 ys).Nodup := by
    rw [← by8_append]
    exact by8_nodup hu
  exact hp hn
theorem wf64 {a : Int} (h : (Lit.int .i64 a).wf = true) : -9223372036854775808 ≤ a ∧ a ≤ 9223372036854775807 := by
  simp [Lit.wf, show IntKind.i64.min = -9223372036854775808 from rfl, show IntKind.i64.max = 9223372036854775807 from rfl] at h
  omega

/-- Decode of shards without bytes -/
def EmptyPost (f n k t : Nat) (w : World) (e : Ending) (w' : World) : Prop :=
  ∃ v c, e = .returned (.tuple #[v, .int .i64 c]) ∧ Kf f w w' ∧ Fld w' f ∧ ((t < k ∧ c = 3) ∨ (k ≤ t ∧ c = 0 ∧ ∃ ad Ag cg c0, v = .slice (some ad) n cg ∧ ad.block ≠ f ∧ w'.cell? ad = some (.slice Ag 0 c0)))
theorem longRes_empty (L : Osh) (h : ∀ l, some l ∈ L → l = []) : longRes (lenStep none L) = .tuple #[.int .i64 ((0 : Nat) : Int), .bool true] := by
  rcases lenStep_all 0 L (fun l hl => by rw [h l hl]; rfl) with ⟨h1, _⟩ | h1
  · rw [h1]; rfl
  · rw [h1]; rfl
theorem decode_empty (f cp n k : Nat) (xs ys : List UInt8) (L : Osh) (A : Option Addr) (c : Nat) (w : World) (hc : CodeU w f cp xs ys) (hf : Fld w f) (hy : ys.length ≤ 4) (hk : xs.length = k) (hx : 1 ≤ k ∧ k ≤ 14) (hu : Unlike xs ys)
    (hR : Kd.F ZK w (· ≠ f) A n L) (hn : n = xs.length + ys.length) (he : ∀ l, some l ∈ L → l = []) :
    Calls Try.prog 50 #[.pointer (some ⟨cp, 0, none⟩), .slice A n c] w (EmptyPost f n k (thereFrom 0 L).length w) := by
  have hLn : n = L.length := (Kd.F_len hR).symm
  have hlong := longRes_empty L he
  by_cases ht : (thereFrom 0 L).length < k
  · have h := decode_lost f cp xs ys L A c w hc hf (by omega) (ZK_Shd hR hLn) (by omega) (fun l hl => by rw [he l hl]; decide) _ hlong (by omega)
    rw [← hLn] at h
    refine h.mono ?_
    rintro e w' ⟨rfl, hk, hf'⟩
    exact ⟨_, _, rfl, hk, hf', .inl ⟨ht, rfl⟩⟩
  · have h := decode_any f cp xs ys 0 L A c w hc hf (by omega) (by omega) hu (ZK_Shd hR hLn) (by omega) (fun l hl => by rw [he l hl]; rfl) (by decide) hlong (by omega)
    rw [← hLn] at h
    refine h.mono ?_
    rintro e w' ⟨v, R, rfl, _, hv, hk', hf'⟩
    obtain ⟨g, c', rfl, hbg, _⟩ := Kd.R_form hv (by rw [ll8_length, dec_length]; omega)
    have hr := (Kd.R_reads' hv).2.2
    rw [ll8_length, dec_length, ← hn] at hr
    obtain ⟨ad, Ag, cg, he2, h0, _⟩ := LK_at hr 0 (by omega)
    cases he2
    refine ⟨_, _, rfl, hk', hf', .inr ⟨by omega, rfl, ⟨g, 0, none⟩, Ag, c', cg, by rw [ll8_length, dec_length, ← hn], (by have := hf.lt; show g ≠ f; omega), ?_⟩⟩
    have hlen : ((ll8 (dec xs ys L ((thereFrom 0 L).take xs.length) R 0)).getD 0 []).length = 0 := by
      rw [ll8_getD _ _ (by rw [dec_length]; omega), by8_length]
      unfold dec
      rw [List.getD_eq_getElem?_getD, List.getElem?_append_left (by rw [dat_length]; omega), ← List.getD_eq_getElem?_getD, dat_getD _ _ _ _ _ _ (by omega)]
      unfold datRow
      cases hl : L.getD 0 none with
      | none => simp
      | some l =>
        have : l = [] := he l (by rw [← hl, getD_lt _ _ _ (show 0 < L.length by omega)]; exact List.getElem_mem _)
        simp [this]
    rw [hlen] at h0
    exact h0

theorem thereFrom_none (n : Nat) : (thereFrom 0 (List.replicate n none)).length = 0 := by
  rw [thereFrom_length]
  simp
theorem decode_nil (f cp : Nat) (xs ys : List UInt8) (w : World) (hc : CodeU w f cp xs ys) (hf : Fld w f) (hl : ys.length ≤ 14 ∧ xs.length ≤ 14) (hx : 1 ≤ xs.length) :
    Calls Try.prog 50 #[.pointer (some ⟨cp, 0, none⟩), .slice none 0 0] w (DecNo f 1 w) :=
  decode_arg f cp xs ys [] none 0 w hc hf hl ⟨fun i hi => absurd hi (Nat.not_lt_zero _)⟩ (by decide) (fun l hl => by cases hl) (.inl (by simp; omega))

set_option maxRecDepth 100000 in
set_option maxHeartbeats 4000000 in
theorem codeEmpty_any (a0 a1 a2 a3 : Int) (w0 : (Lit.int .i64 a0).wf = true) (w1 : (Lit.int .i64 a1).wf = true) (w2 : (Lit.int .i64 a2).wf = true) (w3 : (Lit.int .u64 a3).wf = true) (w : World) :
    Calls Try.prog 9 #[.int .i64 a0, .int .i64 a1, .int .i64 a2, .int .u64 a3] w fun e w' => e = .returned (.bool true) ∧ Below w.heap.size w w' := by
  obtain ⟨h20, h21⟩ := wf64 w2
  obtain ⟨kd, rp, hK1, hK2, hR1, hR2, hmade⟩ := made_f a0 a1 a2 h20 h21
  have HMADE := Lib.hid hmade
  obtain ⟨X, hX⟩ : ∃ X, X = mbs a2 0 kd := ⟨_, rfl⟩
  obtain ⟨Y, hY⟩ : ∃ Y, Y = mbs a2 kd rp := ⟨_, rfl⟩
  have HU := Lib.hid (show Unlike X Y by rw [hX, hY]; exact mbs_unlike a2 kd rp (by omega))
  have HXL := Lib.hid (show X.length = kd by rw [hX, mbs_length])
  have HYL := Lib.hid (show Y.length = rp by rw [hY, mbs_length])
  have HM := Lib.hid (show Pr.hypocaustlaw4_Made.f 40 a0 a1 a2 = some (by8 X, by8 Y) by rw [hX, hY]; exact hmade)
  clear hmade HMADE hX hY w0 w1 w2 w3 h20 h21
  go_enter Try.func9, Try.ntmps9
  go_upto_region 2 with (first | (go_at_call 48; go_loud (refine (Pr.hypocaustlaw4_Made.calls 40 a0 a1 a2 _ _ _ HM.out).mono ?_; rintro e w1 ⟨v0, v1, rfl, hv0, hv1, hb1⟩; obtain ⟨AX, cX, rfl, hcX, _⟩ := Kd.R_reads hv0; obtain ⟨AY, cY, rfl, hcY, _⟩ := Kd.R_reads hv1; have hlX := (show (by8 X).length = kd from (by rw [by8_length, HXL.out])); have hlY := (show (by8 Y).length = rp from (by rw [by8_length, HYL.out])); rw [hlX] at hv0 hcX ⊢; rw [hlY] at hv1 hcY ⊢; have HV0 := Lib.hid hv0; have HV1 := Lib.hid hv1; have HB1 := Lib.hid hb1; clear hv0 hv1 hb1 hlX hlY)))
  obtain ⟨wb, hwb⟩ : ∃ wb, wb = w1.alloc (.cells #[.slice AX kd cX, .slice AY rp cY] 94) := ⟨_, rfl⟩
  have hbb : Below w1.heap.size w1 wb := by rw [hwb]; exact below_alloc (Below.refl _ _) _
  have hbk : wb.heap[w1.heap.size]? = some (.cells #[.slice AX kd cX, .slice AY rp cY] 94 (0, 0)) := by rw [hwb]; exact heap_alloc_new w1 _
  have hc0 : wb.cell? ⟨w1.heap.size, 0, none⟩ = some (.slice AX kd cX) := (blk_at hbk 0).trans rfl
  have hc1 : wb.cell? ⟨w1.heap.size, 1, none⟩ = some (.slice AY rp cY) := (blk_at hbk 1).trans rfl
  have HWB := Lib.hid hbb
  have HR0 := Lib.hid (Kd.R_below HV0.out hbb)
  have HR1 := Lib.hid (Kd.R_below HV1.out hbb)
  have hbl : w1.heap.size < wb.heap.size := by rw [hwb]; simp
  have hw1 := HB1.out.size
  rw [← hwb]
  obtain ⟨b, hb⟩ : ∃ b, b = w1.heap.size := ⟨_, rfl⟩
  rw [← hb] at hc0 hc1 hbl ⊢
  have hwle : w.heap.size ≤ b := by omega
  have HBE := Lib.hid hb
  clear hwb hbb hbk hb
  refine start_ (n := 11) (S := fun w' => w'.cell? ⟨b, 0, none⟩ = some (.slice AX kd cX) ∧ w'.cell? ⟨b, 1, none⟩ = some (.slice AY rp cY)) (ds := []) #[false, false, false, false, false, false, false, false, false, false, false] (by kernel_rfl) rfl rfl ?hS (fun hHeld => ?_)
  case hS => exact ⟨hc0, hc1⟩
  refine pure_ (i := 1) (N := some 29) (v := ?_) (a' := ?_) #[false, true, false, false, false, false, false, false, false, false, false] rfl rfl (by kernel_rfl) (fun _ _ _ h => h) (Or.inl ⟨by rfl, ?_⟩) ?_ ?_
  rotate_left
  · intro w'
    go_simp
    with_reducible rfl
  rotate_left
  · simp only [Act.put, List.setIfInBounds_toArray, List.set_cons_zero, List.set_cons_succ, i64_w, i32_w]
    rfl
  refine pure_ (i := 3) (N := some 31) (v := ?_) (a' := ?_) #[false, true, false, true, false, false, false, false, false, false, false] rfl rfl (by kernel_rfl) (fun _ _ _ h => h) (Or.inl ⟨by rfl, ?_⟩) ?_ ?_
  rotate_left
  · intro w'
    go_simp
    with_reducible rfl
  rotate_left
  · simp only [Act.put, List.setIfInBounds_toArray, List.set_cons_zero, List.set_cons_succ, i64_w, i32_w]
    rfl
  refine take_ (i := 2) (N := some 30) (v := ?_) (a' := ?_) #[false, true, true, true, false, false, false, false, false, false, false] rfl rfl (by kernel_rfl) (fun _ _ _ h => h) (Or.inl ⟨by rfl, ?_⟩) hHeld ?_ ?_
  rotate_left
  · rintro w' ⟨s0, s1⟩
    go_simp
    with_reducible rfl
  rotate_left
  · simp only [Act.put, List.setIfInBounds_toArray, List.set_cons_zero, List.set_cons_succ, i64_w, i32_w]
    rfl
  refine take_ (i := 4) (N := some 32) (v := ?_) (a' := ?_) #[false, true, true, true, true, false, false, false, false, false, false] rfl rfl (by kernel_rfl) (fun _ _ _ h => h) (Or.inl ⟨by rfl, ?_⟩) hHeld ?_ ?_
  rotate_left
  · rintro w' ⟨s0, s1⟩
    go_simp
    with_reducible rfl
  rotate_left
  · simp only [Act.put, List.setIfInBounds_toArray, List.set_cons_zero, List.set_cons_succ, i64_w, i32_w]
    rfl
  refine one_ (i := 0) (N := some 28) #[true, true, true, true, true, false, false, false, false, false, false] rfl rfl (by kernel_rfl) (by decide) (fun K hK => ?_)
  refine goes_ Try.func23 (by kernel_rfl) rfl #[] (by rfl) rfl rfl (by (try simp only [List.map_toArray, List.map_cons, List.map_nil]); first | done | rfl) ?_
  refine (gfNew_own _).mono ?_
  rintro e w2 ⟨f, rfl, hf2, hb0, hb2⟩
  have hx0 := (hb2.cell (p := ⟨b, 0, none⟩) hbl).trans hc0
  have hx1 := (hb2.cell (p := ⟨b, 1, none⟩) hbl).trans hc1
  have HF2 := Lib.hid hf2
  have HB2 := Lib.hid (below_step (below_drew1 (Below.refl wb.heap.size wb)) hb2)
  have hfb : b < f := Nat.lt_of_lt_of_le hbl hb0
  have hb2l : b < w2.heap.size := Nat.lt_trans hfb HF2.out.lt
  clear hf2 hb2 hb0
  refine ⟨_, rfl, ?_⟩
  refine hK.out _ _ (⟨hx0, hx1⟩) (fun hHeld => ?_)
  clear hK K
  refine norm_ (a' := ?_) ?_ ?_
  rotate_left
  · show Act.put _ (some 28) _ = _
    simp only [Act.put, List.setIfInBounds_toArray, List.set_cons_zero, List.set_cons_succ, i64_w, i32_w]
    rfl
  refine one_ (i := 5) (N := some 33) #[true, true, true, true, true, true, false, false, false, false, false] rfl rfl (by kernel_rfl) (by decide) (fun K hK => ?_)
  refine goes_ Try.func49 (by kernel_rfl) rfl #[.pointer (some ⟨f, 0, none⟩), .slice AX kd cX, .slice AY rp cY] (by rfl) rfl rfl (by (try simp only [List.map_toArray, List.map_cons, List.map_nil]); first | done | rfl) ?_
  refine (newU_c HF2.out.lt HXL.out HYL.out (by have h := (Kd.R_reads' (Kd.R_below HR0.out HB2.out)).2.2; rwa [by8_length, HXL.out] at h) hcX (by have h := (Kd.R_reads' (Kd.R_below HR1.out HB2.out)).2.2; rwa [by8_length, HYL.out] at h) hcY HU.out ⟨hK1, hK2⟩ ⟨hR1, hR2⟩).mono ?_
  rintro e w3 ⟨cp, rfl, hb3, hcp, hc3⟩
  have HB3 := Lib.hid hb3
  have HC3 := Lib.hid hc3
  have hy0 := (hb3.cell (p := ⟨b, 0, none⟩) hb2l).trans hx0
  have hy1 := (hb3.cell (p := ⟨b, 1, none⟩) hb2l).trans hx1
  clear hb3 hc3
  refine ⟨_, rfl, ?_⟩
  refine hK.out _ _ (⟨hy0, hy1⟩) (fun hHeld => ?_)
  clear hK K
  refine norm_ (a' := ?_) ?_ ?_
  rotate_left
  · show Act.put _ (some 33) _ = _
    simp only [Act.put, List.setIfInBounds_toArray, List.set_cons_zero, List.set_cons_succ, i64_w, i32_w]
    rfl
  refine pure_ (i := 6) (N := some 27) (v := ?_) (a' := ?_) #[true, true, true, true, true, true, true, false, false, false, false] rfl rfl (by kernel_rfl) (fun _ _ _ h => h) (Or.inl ⟨by rfl, ?_⟩) ?_ ?_
  rotate_left
  · intro w'
    go_simp
    with_reducible rfl
  rotate_left
  · simp only [Act.put, List.setIfInBounds_toArray, List.set_cons_zero, List.set_cons_succ, i64_w, i32_w]
    rfl
  refine pure_ (i := 7) (N := some 34) (v := ?_) (a' := ?_) #[true, true, true, true, true, true, true, true, false, false, false] rfl rfl (by kernel_rfl) (fun _ _ _ h => h) (Or.inl ⟨by rfl, ?_⟩) ?_ ?_
  rotate_left
  · intro w'
    go_simp
    with_reducible rfl
  rotate_left
  · simp only [Act.put, List.setIfInBounds_toArray, List.set_cons_zero, List.set_cons_succ, i64_w, i32_w]
    rfl
  refine pure_ (i := 8) (N := some 35) (v := ?_) (a' := ?_) #[true, true, true, true, true, true, true, true, true, false, false] rfl rfl (by kernel_rfl) (fun _ _ _ h => h) (Or.inl ⟨by rfl, ?_⟩) ?_ ?_
  rotate_left
  · intro w'
    go_simp
    with_reducible rfl
  rotate_left
  · simp only [Act.put, List.setIfInBounds_toArray, List.set_cons_zero, List.set_cons_succ, i64_w, i32_w]
    rfl
  refine pure_ (i := 9) (N := some 10) (v := ?_) (a' := ?_) #[true, true, true, true, true, true, true, true, true, true, false] rfl rfl (by kernel_rfl) (fun _ _ _ h => h) (Or.inl ⟨by rfl, ?_⟩) ?_ ?_
  rotate_left
  · intro w'
    go_simp
    with_reducible rfl
  rotate_left
  · simp only [Act.put, List.setIfInBounds_toArray, List.set_cons_zero, List.set_cons_succ, i64_w, i32_w]
    rfl
  refine pure_ (i := 10) (N := some 11) (v := ?_) (a' := ?_) #[true, true, true, true, true, true, true, true, true, true, true] rfl rfl (by kernel_rfl) (fun _ _ _ h => h) (Or.inl ⟨by rfl, ?_⟩) ?_ ?_
  rotate_left
  · intro w'
    go_simp
    with_reducible rfl
  rotate_left
  · simp only [Act.put, List.setIfInBounds_toArray, List.set_cons_zero, List.set_cons_succ, i64_w, i32_w]
    rfl
  refine done_ (by kernel_rfl) ?_
  have H3 := Lib.hid (show Held w w3 f from ⟨below_step (below_step (below_step HB1.out HWB.out) HB2.out) HB3.out, HF2.out.below HB3.out, by omega⟩)
  have hwb3 : b < w3.heap.size := by have := H3.out.fld.lt; omega
  clear hc0 hc1 hx0 hx1
  go_wp2
  go_loopw [13, 14, 15] (fun v13 v14 v15 wr => ∃ (i m : Nat) (L : Osh), i ≤ kd + rp ∧ m ≤ i ∧ v15 = .int .i64 i ∧ v14 = .int .i64 m ∧ Hid (L.length = i) ∧ Hid (∀ l, some l ∈ L → l = []) ∧ Hid (m + L.countP (fun x => x.isSome) = i) ∧ Hid (ZK.R 22 wr w3.heap.size (fun _ => True) v13 L) ∧ Hid (Below w3.heap.size w3 wr)) (fun _ _ v15 _ => kd + rp - (intOf v15).toNat)
  case atStart => exact ⟨0, 0, [], Nat.zero_le _, Nat.le_refl _, rfl, rfl, Lib.hid rfl, Lib.hid (fun l hl => by cases hl), Lib.hid rfl, Lib.hid (Kd.R_nil _ _ _ _ _), Lib.hid (Below.refl _ _)⟩
  case round =>
    obtain ⟨i, m, L, hi, hmi, rfl, rfl, HLL, HLE, HLM, HO, HB⟩ := hrel
    obtain ⟨wa, hwa⟩ : ∃ wa, wa = wr := ⟨_, rfl⟩
    subst hwa
    have hwsz := HB.out.size
    by_cases hlt : i < kd + rp
    · have b1 : decide ((i : Int) < (kd : Int) + (rp : Int)) = true := decide_eq_true (by omega)
      go_wp2_with (first | ((with_reducible refine gate_dst (N := 65) rfl ?_); go_loud (refine lit8 rfl (N := 65) rfl [] 0 rfl (by decide) (by first | (go_simp; done) | (go_simp; rfl)) ?_; intro g4 c4 w4 hvt hbt; have HV4 := Lib.hid hvt; have HB4 := Lib.hid hbt; clear hvt hbt)) | ((with_reducible refine gate_builtin (b := .append) (xs := #[.tmp 59, .tmp 60]) rfl ?_); at_builtin; go_loud (refine Kd.R_append ZK (w0 := wa) w3.heap.size rfl (.tmp 59) (.tmp 60) 56 22 (.slice none 0 0) 24 rfl Try.underlying56 infoBs rfl (by decide) (by omega) u13 L none [.slice none 0 0] (fun _ => True) (fun _ => False) rfl rfl (ZK_none _ _ _) (fun _ hk => hk.elim) (fun _ _ => trivial) HO.out (Below.refl _ _) hwsz (by have := HLL.out; omega) ?_; intro v5 w5 hv5 hb5 _ _; have HV5 := Lib.hid hv5; have HB5 := Lib.hid hb5; clear hv5 hb5)) | ((with_reducible refine gate_builtin (b := .append) (xs := #[.tmp 64, .tmp 66]) rfl ?_); at_builtin; go_loud (refine Kd.R_append ZK (w0 := w4) w3.heap.size rfl (.tmp 64) (.tmp 66) 56 22 (.slice none 0 0) 24 rfl Try.underlying56 infoBs rfl (by decide) (by omega) u13 L (some []) [.slice (some ⟨g4, 0, none⟩) 0 c4] (fun _ => True) (fun q => wa.heap.size ≤ q) rfl rfl (ZK_some (Kd.R_mono (Kd.R_lower (Kd.R_bound HV4.out) hwsz) (fun q hq => hq.2.1))) (fun q hq => ⟨trivial, fun e => (by have := Kd.R_lt HO.out q e.symm; omega)⟩) (fun _ _ => trivial) (Kd.R_below HO.out HB4.out) (Below.refl _ _) (Nat.le_trans hwsz HB4.out.size) (by have := HLL.out; omega) ?_; intro v6 w6 hv6 hb6 _ _; have HV6 := Lib.hid hv6; have HB6 := Lib.hid hb6; clear hv6 hb6)))
      · go_roundw
        case rel => exact ⟨i + 1, m + 1, L ++ [none], by omega, by omega, by go_num, by go_num, Lib.hid (by rw [List.length_append, HLL.out]; rfl), Lib.hid (fun l hl => HLE.out l (by simpa using hl)), Lib.hid (by have := HLM.out; rw [List.countP_append]; simp; omega), HV5, Lib.hid (HB.out.trans HB5.out)⟩
        case measure => simp [intOf]; omega
      · go_roundw
        case rel => exact ⟨i + 1, m, L ++ [some []], by omega, by omega, by go_num, rfl, Lib.hid (by rw [List.length_append, HLL.out]; rfl), Lib.hid (fun l hl => by rcases List.mem_append.1 hl with h | h; exact HLE.out l h; simpa using h), Lib.hid (by have := HLM.out; rw [List.countP_append]; simp; omega), HV6, Lib.hid ((HB.out.trans (HB4.out.mono hwsz)).trans HB6.out)⟩
        case measure => simp [intOf]; omega
    · obtain rfl : i = kd + rp := by omega
      obtain ⟨AL, cL, rfl, hcL, _⟩ := Kd.R_reads HO.out
      rw [HLL.out] at HO hcL ⊢
      have HKA := Lib.hid ((Kf.refl f w3).below HB.out)
      have HFA := Lib.hid (H3.out.fld.below HB.out)
      have hbf : b ≠ f := by omega
      have hct := thereFrom_length L 0
      obtain ⟨t, ht⟩ : ∃ t, t = (thereFrom 0 L).length := ⟨_, rfl⟩
      have hmt : m + t = kd + rp := by have := HLM.out; omega
      rw [← ht] at hct
      have HT := Lib.hid ht
      have b2 : decide ((((kd + rp : Nat) : Int)) < (kd : Int) + (rp : Int)) = false := decide_eq_false (by omega)
      clear hct ht
      have hly : Y.length ≤ 4 := by rw [HYL.out]; omega
      have hfw3 := H3.out.fld.lt
      go_upto_region 16 with (first | (go_at_call 50; go_loud (refine (decode_empty f cp (kd + rp) kd X Y L AL cL _ (HC3.out.keep HKA.out) HFA.out hly HXL.out ⟨hK1, hK2⟩ HU.out (Kd.F_mono (R_F HO.out) (fun q hq => by have := hq.2; omega)) (by rw [HXL.out, HYL.out]) HLE.out).mono ?_; rintro e w4 ⟨v4, c4, rfl, hk4, hf4, hcase⟩; rw [← HT.out] at hcase; have HK4 := Lib.hid (HKA.out.trans hk4); have HF4 := Lib.hid hf4; have HCASE := Lib.hid hcase; clear hk4 hf4 hcase)))
      obtain ⟨n, hn⟩ : ∃ n, n = kd + rp := ⟨_, rfl⟩
      have hnn : (kd : Int) + (rp : Int) = (n : Int) := by omega
      have HN := Lib.hid hn
      have HMT := Lib.hid hmt
      rw [hnn]
      have hn18 : n ≤ 18 := by omega
      have hnp : 0 < n := by omega
      clear hnn hmt b2 hn
      go_upto_region 17 with (first | ((with_reducible refine gate_dst (N := 77) rfl ?_); go_loud (refine Kd.R_make ZK (w0 := w4) w4.heap.size 22 rfl (N := 77) rfl 56 _ _ rfl (n : Int) rfl rfl Try.underlying56 (.slice none 0 0) 24 infoBs rfl (by decide) (by omega) none (ok := fun _ => True) (okp := fun _ => True) (ZK_none _ _ _) (fun _ hk => hk) trivial (by omega) (by omega) (Below.refl _ _) (Nat.le_refl _) ?_; intro v5 w5 hv5 hb5 _ _; obtain ⟨A5, c5, rfl, _, _⟩ := Kd.R_reads hv5; have hl5 : (List.replicate ((n : Nat) : Int).toNat (none : Option (List UInt8))).length = n := (by simp); rw [hl5] at hv5 ⊢; have HV5 := Lib.hid hv5; have HB5 := Lib.hid hb5; clear hv5 hb5 hl5)) | (go_at_call 50; go_loud (have HK5 := Lib.hid (HK4.out.below HB5.out); have HF5 := Lib.hid (HF4.out.below HB5.out); refine (decode_empty f cp n kd X Y (List.replicate n none) A5 c5 _ (HC3.out.keep HK5.out) HF5.out hly HXL.out ⟨hK1, hK2⟩ HU.out (Kd.F_mono (R_F HV5.out) (fun q hq => by have := hq.2; have := HF4.out.lt; omega)) (by rw [HXL.out, HYL.out, HN.out]) (fun l hl => by simp at hl)).mono ?_; rintro e w6 ⟨v6, c6, rfl, hk6, hf6, hc6⟩; have hc6' : c6 = 3 := (by rcases hc6 with ⟨_, h⟩ | ⟨h, _⟩; exact h; rw [thereFrom_none] at h; omega); subst hc6'; have HK6 := Lib.hid (HK5.out.trans hk6); have HK46 := Lib.hid (((Kf.refl f w4).below HB5.out).trans hk6); have HF6 := Lib.hid hf6; clear hk6 hf6 hc6)))
      go_upto_region 19 with (first | (go_at_call 50; go_loud (refine (decode_nil f cp X Y _ (HC3.out.keep HK6.out) HF6.out ⟨by omega, by rw [HXL.out]; exact hK2⟩ (by rw [HXL.out]; exact hK1)).mono ?_; rintro e w7 ⟨rfl, hk7, hf7⟩; have HK7 := Lib.hid (HK6.out.trans hk7); have HK47 := Lib.hid (HK46.out.trans hk7); have HF7 := Lib.hid hf7; clear hk7 hf7)))
      have hz1 := HK7.out.cell hy1 hbf
      have HE := Lib.hid (H3.out.kf HK7.out HF7.out)
      rcases HCASE.out with ⟨hlt', hc⟩ | ⟨hge, hc, ad, Ag, cg, c0, rfl, hadf, hcell⟩
      · subst hc
        have b3 : decide (rp < m) = true := decide_eq_true (by have := HMT.out; omega)
        go_wp2_with (first | (go_at_call 51; go_loud (refine (awake4_any _).mono ?_; rintro e w8 ⟨rfl, hb8⟩; have HE8 := Lib.hid (HE.out.step hb8); clear hb8)))
        go_ret
        exact ⟨rfl, HE8.out.below⟩
      · subst hc
        have b3 : decide (rp < m) = false := decide_eq_false (by have := HMT.out; omega)
        have hcell7 := HK47.out.cell hcell hadf
        rw [← HN.out]
        go_wp2_with (first | (go_at_call 51; go_loud (refine (awake4_any _).mono ?_; rintro e w8 ⟨rfl, hb8⟩; have HE8 := Lib.hid (HE.out.step hb8); clear hb8)))
        go_ret
        exact ⟨rfl, HE8.out.below⟩
end Go.Proofs.Ytnfodhagfcjfpaa
