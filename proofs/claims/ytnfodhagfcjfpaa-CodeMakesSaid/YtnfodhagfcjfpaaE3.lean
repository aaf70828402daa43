/- The statement CodeMakes: its walk. -/
import Derived.Test.YtnfodhagfcjfpaaE2
namespace Go.Proofs.Ytnfodhagfcjfpaa
open Go.RowKit Go.Proofs.YtnfodhagfcjfpaaW.PrintWords Go.Proofs.YtnfodhagfcjfpaaW.PrintLast Go.Proofs.YtnfodhagfcjfpaaW.PrintMore
set_option linter.unusedVariables false
set_option linter.unusedSimpArgs false

theorem encode_len (f cp m : Nat) (xs ys : List UInt8) (n : Nat) (L : Shs) (A : Option Addr) (c : Nat) (w : World) (hm : L.length = m) (hc : CodeU w f cp xs ys) (hf : Fld w f) (hl : ys.length ≤ 14 ∧ xs.length ≤ 14)
    (hL : m = xs.length) (hx : 1 ≤ m) (hlen : ∀ i, i < L.length → (L.getD i []).length = n) (hn : n ≤ 64) (hR : Kd.F LK w (· ≠ f) A m (ll8 L)) :
    Calls Try.prog 33 #[.pointer (some ⟨cp, 0, none⟩), .slice A m c] w (EncPost f (enc xs ys n L ys.length) w) := by
  subst hm
  exact encode_any f cp xs ys n L A c w hc hf (by omega) hL (by omega) hlen hn hR
theorem encode_long_len (f cp m : Nat) (xs ys : List UInt8) (L : Shs) (A : Option Addr) (c : Nat) (w : World) (hm : L.length = m) (hc : CodeU w f cp xs ys) (hf : Fld w f)
    (hL : m = xs.length) (hx : 1 ≤ m) (hn : 64 < (L.getD 0 []).length) (hR : LK.C w A m (ll8 L)) :
    Calls Try.prog 33 #[.pointer (some ⟨cp, 0, none⟩), .slice A m c] w (EncNone f w) := by
  subst hm
  exact encode_long f cp xs ys L A c w hc hf hL (by omega) hn hR

set_option maxRecDepth 100000 in
set_option maxHeartbeats 8000000 in
theorem codeMakes_any (a0 : Option Addr) (len0 cap0 : Nat) (z0 : List Int) (a1 : Option Addr) (len1 cap1 : Nat) (z1 : List Int) (a2 : Int) (a3 : Int) (a4 : Int) (a5 : Int) (a6 : Int) (a7 : Option Addr) (len7 cap7 : Nat) (z7 : List Int) (a8 : Int) (w : World)
    (w0 : ((a0 = none ∧ len0 = 0 ∧ cap0 = 0 ∧ z0 = []) ∨ ∃ x, a0 = some x ∧ len0 ≤ cap0 ∧ cap0 ≤ maxLen ∧ z0.length = cap0 ∧ (∀ i, i < z0.length → w.cell? (x.add i) = some (.int .u8 (z0.getD i 0))) ∧ ∀ n ∈ z0, (Lit.int .u8 n).wf = true)) (w1 : ((a1 = none ∧ len1 = 0 ∧ cap1 = 0 ∧ z1 = []) ∨ ∃ x, a1 = some x ∧ len1 ≤ cap1 ∧ cap1 ≤ maxLen ∧ z1.length = cap1 ∧ (∀ i, i < z1.length → w.cell? (x.add i) = some (.int .u8 (z1.getD i 0))) ∧ ∀ n ∈ z1, (Lit.int .u8 n).wf = true))
    (w2 : (Lit.int .i64 a2).wf = true) (w3 : (Lit.int .i64 a3).wf = true) (w4 : (Lit.int .i64 a4).wf = true) (w5 : (Lit.int .i64 a5).wf = true) (w6 : (Lit.int .i64 a6).wf = true) (w7 : ((a7 = none ∧ len7 = 0 ∧ cap7 = 0 ∧ z7 = []) ∨ ∃ x, a7 = some x ∧ len7 ≤ cap7 ∧ cap7 ≤ maxLen ∧ z7.length = cap7 ∧ (∀ i, i < z7.length → w.cell? (x.add i) = some (.int .u8 (z7.getD i 0))) ∧ ∀ n ∈ z7, (Lit.int .u8 n).wf = true)) (w8 : (Lit.int .i64 a8).wf = true) :
    Calls Try.prog 10 #[.slice a0 len0 cap0, .slice a1 len1 cap1, .int .i64 a2, .int .i64 a3, .int .i64 a4, .int .i64 a5, .int .i64 a6, .slice a7 len7 cap7, .int .i64 a8] w fun e w' => e = .returned (.bool true) ∧ Below w.heap.size w w' := by
  obtain ⟨xs, hxl, hxr, hxc⟩ := row8 w0
  obtain ⟨ys, hyl, hyr, hyc⟩ := row8 w1
  obtain ⟨bb, hbl, hbr, hbc⟩ := row8 w7
  obtain ⟨h40, h41⟩ := wf64 w4
  obtain ⟨kd, rp, hK1, hK2, hR1, hR2, hmade⟩ := made_f a2 a3 a4 h40 h41
  have HXS := Lib.hid hxl
  have HYS := Lib.hid hyl
  have HBS := Lib.hid hbl
  have HXR := Lib.hid hxr
  have HYR := Lib.hid hyr
  have HBR := Lib.hid hbr
  have HMADE := Lib.hid hmade
  clear w0 w1 w2 w3 w4 w5 w6 w7 w8 hxl hyl hbl hxr hyr hbr hmade
  by_cases h0 : 30 < len0
  · have b0 : decide ((30 : Int) < (len0 : Int)) = true := decide_eq_true (by omega)
    go_enter Try.func10, Try.ntmps10
    go_wp2_with (first | (go_at_call 51; go_loud (refine (awake4_any _).mono ?_; rintro e w1 ⟨rfl, hb1⟩)))
    go_ret
    exact ⟨rfl, hb1⟩
  have b0 : decide ((30 : Int) < (len0 : Int)) = false := decide_eq_false (by omega)
  by_cases h1 : 30 < len1
  · have b1 : decide ((30 : Int) < (len1 : Int)) = true := decide_eq_true (by omega)
    go_enter Try.func10, Try.ntmps10
    go_wp2_with (first | (go_at_call 51; go_loud (refine (awake4_any _).mono ?_; rintro e w1 ⟨rfl, hb1⟩)))
    go_ret
    exact ⟨rfl, hb1⟩
  have b1 : decide ((30 : Int) < (len1 : Int)) = false := decide_eq_false (by omega)
  by_cases h7 : 1000 < len7
  · have b7 : decide ((1000 : Int) < (len7 : Int)) = true := decide_eq_true (by omega)
    go_enter Try.func10, Try.ntmps10
    go_wp2_with (first | (go_at_call 51; go_loud (refine (awake4_any _).mono ?_; rintro e w1 ⟨rfl, hb1⟩)))
    go_ret
    exact ⟨rfl, hb1⟩
  have b7 : decide ((1000 : Int) < (len7 : Int)) = false := decide_eq_false (by omega)
  obtain ⟨X, hX⟩ : ∃ X, X = mbs a4 0 kd := ⟨_, rfl⟩
  obtain ⟨Y, hY⟩ : ∃ Y, Y = mbs a4 kd rp := ⟨_, rfl⟩
  have HU := Lib.hid (show Unlike X Y by rw [hX, hY]; exact mbs_unlike a4 kd rp (by omega))
  have HXL := Lib.hid (show X.length = kd by rw [hX, mbs_length])
  have HYL := Lib.hid (show Y.length = rp by rw [hY, mbs_length])
  have HM := Lib.hid (show Pr.hypocaustlaw4_Made.f 40 a2 a3 a4 = some (by8 X, by8 Y) by rw [hX, hY]; exact HMADE.out)
  clear HMADE hX hY
  go_enter Try.func10, Try.ntmps10
  go_upto_region 5 with (first | (go_at_call 23; go_loud (refine (gfNew_own _).mono ?_; rintro e w1 ⟨f0, rfl, hf1, hb0', hb1'⟩; have HB1 := Lib.hid hb1'; have hf01 := hf1.lt; clear hf1 hb1')) | (go_at_call 49; go_loud (refine (codeNew_may f0 len0 len1 cap0 cap1 a0 a1 xs ys _ hf01 HXS.out HYS.out (Kd.C_below HXR.out HB1.out) (Kd.C_below HYR.out HB1.out) hxc hyc).mono ?_; rintro e w2 ⟨p, c, rfl, hb2', hcase⟩; have HB2 := Lib.hid (below_step HB1.out hb2'); have HCASE := Lib.hid hcase; clear hb2' hcase)) | (go_at_call 52; go_loud (refine (may_call len0 len1 cap0 cap1 a0 a1 xs ys _ HXS.out HYS.out (Kd.C_below HXR.out HB2.out) (Kd.C_below HYR.out HB2.out) hxc hyc).mono ?_; rintro e w3 ⟨rfl, hb3'⟩; have HB3 := Lib.hid (below_step HB2.out hb3'); clear hb3')))
  obtain ⟨mb, hmb⟩ : ∃ mb, mb = mayB xs ys := ⟨_, rfl⟩
  have hcase := HCASE.out
  rw [← hmb] at hcase ⊢
  clear hmb HCASE b0 b1 b7
  rcases hcase with ⟨rfl, ⟨cp0, rfl⟩, rfl⟩ | ⟨rfl, rfl, rfl⟩
  all_goals
    go_upto_region 8 with (first | (go_at_call 48; go_loud (refine (Pr.hypocaustlaw4_Made.calls 40 a2 a3 a4 _ _ _ HM.out).mono ?_; rintro e w4 ⟨v0, v1, rfl, hv0, hv1, hb4⟩; obtain ⟨AX, cX, rfl, hcX, _⟩ := Kd.R_reads hv0; obtain ⟨AY, cY, rfl, hcY, _⟩ := Kd.R_reads hv1; have hlX := (show (by8 X).length = kd from (by rw [by8_length, HXL.out])); have hlY := (show (by8 Y).length = rp from (by rw [by8_length, HYL.out])); rw [hlX] at hv0 hcX ⊢; rw [hlY] at hv1 hcY ⊢; have HV0 := Lib.hid hv0; have HV1 := Lib.hid hv1; have HB4 := Lib.hid (below_step HB3.out hb4); clear hv0 hv1 hb4 hlX hlY)))
    obtain ⟨wb, hwb⟩ : ∃ wb, wb = w4.alloc (.cells #[.slice AX kd cX, .slice AY rp cY] 94) := ⟨_, rfl⟩
    have hbb : Below w4.heap.size w4 wb := by rw [hwb]; exact below_alloc (Below.refl _ _) _
    have hbk : wb.heap[w4.heap.size]? = some (.cells #[.slice AX kd cX, .slice AY rp cY] 94 (0, 0)) := by rw [hwb]; exact heap_alloc_new w4 _
    have hc0 : wb.cell? ⟨w4.heap.size, 0, none⟩ = some (.slice AX kd cX) := (blk_at hbk 0).trans rfl
    have hc1 : wb.cell? ⟨w4.heap.size, 1, none⟩ = some (.slice AY rp cY) := (blk_at hbk 1).trans rfl
    have HWB := Lib.hid hbb
    have HR0 := Lib.hid (Kd.R_below HV0.out hbb)
    have HR1 := Lib.hid (Kd.R_below HV1.out hbb)
    have hbl : w4.heap.size < wb.heap.size := by rw [hwb]; simp
    have hwsz0 := HB4.out.size
    rw [← hwb]
    obtain ⟨b, hb⟩ : ∃ b, b = w4.heap.size := ⟨_, rfl⟩
    rw [← hb] at hc0 hc1 hbl ⊢
    have hwle : w.heap.size ≤ b := by omega
    clear hwb hbb hbk hb hwsz0
    refine start_ (n := 11) (S := fun w' => w'.cell? ⟨b, 0, none⟩ = some (.slice AX kd cX) ∧ w'.cell? ⟨b, 1, none⟩ = some (.slice AY rp cY)) (ds := []) #[false, false, false, false, false, false, false, false, false, false, false] (by kernel_rfl) rfl rfl ?hS (fun hHeld => ?_)
    case hS => exact ⟨hc0, hc1⟩
    refine pure_ (i := 1) (N := some 80) (v := ?_) (a' := ?_) #[false, true, false, false, false, false, false, false, false, false, false] rfl rfl (by kernel_rfl) (fun _ _ _ h => h) (Or.inl ⟨by rfl, ?_⟩) ?_ ?_
    rotate_left
    · intro w'
      go_simp
      with_reducible rfl
    rotate_left
    · simp only [Act.put, List.setIfInBounds_toArray, List.set_cons_zero, List.set_cons_succ, i64_w, i32_w]
      rfl
    refine pure_ (i := 3) (N := some 82) (v := ?_) (a' := ?_) #[false, true, false, true, false, false, false, false, false, false, false] rfl rfl (by kernel_rfl) (fun _ _ _ h => h) (Or.inl ⟨by rfl, ?_⟩) ?_ ?_
    rotate_left
    · intro w'
      go_simp
      with_reducible rfl
    rotate_left
    · simp only [Act.put, List.setIfInBounds_toArray, List.set_cons_zero, List.set_cons_succ, i64_w, i32_w]
      rfl
    refine take_ (i := 2) (N := some 81) (v := ?_) (a' := ?_) #[false, true, true, true, false, false, false, false, false, false, false] rfl rfl (by kernel_rfl) (fun _ _ _ h => h) (Or.inl ⟨by rfl, ?_⟩) hHeld ?_ ?_
    rotate_left
    · rintro w' ⟨s0, s1⟩
      go_simp
      with_reducible rfl
    rotate_left
    · simp only [Act.put, List.setIfInBounds_toArray, List.set_cons_zero, List.set_cons_succ, i64_w, i32_w]
      rfl
    refine take_ (i := 4) (N := some 83) (v := ?_) (a' := ?_) #[false, true, true, true, true, false, false, false, false, false, false] rfl rfl (by kernel_rfl) (fun _ _ _ h => h) (Or.inl ⟨by rfl, ?_⟩) hHeld ?_ ?_
    rotate_left
    · rintro w' ⟨s0, s1⟩
      go_simp
      with_reducible rfl
    rotate_left
    · simp only [Act.put, List.setIfInBounds_toArray, List.set_cons_zero, List.set_cons_succ, i64_w, i32_w]
      rfl
    refine one_ (i := 0) (N := some 79) #[true, true, true, true, true, false, false, false, false, false, false] rfl rfl (by kernel_rfl) (by decide) (fun K hK => ?_)
    refine goes_ Try.func23 (by kernel_rfl) rfl #[] (by rfl) rfl rfl (by (try simp only [List.map_toArray, List.map_cons, List.map_nil]); first | done | rfl) ?_
    refine (gfNew_own _).mono ?_
    rintro e wf ⟨f, rfl, hf2, hb0, hb2⟩
    have hx0 := (hb2.cell (p := ⟨b, 0, none⟩) hbl).trans hc0
    have hx1 := (hb2.cell (p := ⟨b, 1, none⟩) hbl).trans hc1
    have HF2 := Lib.hid hf2
    have HB2F := Lib.hid (below_step (below_drew1 (Below.refl wb.heap.size wb)) hb2)
    have hfb : b < f := Nat.lt_of_lt_of_le hbl hb0
    have hwbf : wb.heap.size ≤ f := hb0
    have hb2l : b < wf.heap.size := Nat.lt_trans hfb HF2.out.lt
    clear hf2 hb2 hb0
    refine ⟨_, rfl, ?_⟩
    refine hK.out _ _ (⟨hx0, hx1⟩) (fun hHeld => ?_)
    clear hK K
    refine norm_ (a' := ?_) ?_ ?_
    rotate_left
    · show Act.put _ (some 79) _ = _
      simp only [Act.put, List.setIfInBounds_toArray, List.set_cons_zero, List.set_cons_succ, i64_w, i32_w]
      rfl
    refine one_ (i := 5) (N := some 84) #[true, true, true, true, true, true, false, false, false, false, false] rfl rfl (by kernel_rfl) (by decide) (fun K hK => ?_)
    refine goes_ Try.func49 (by kernel_rfl) rfl #[.pointer (some ⟨f, 0, none⟩), .slice AX kd cX, .slice AY rp cY] (by rfl) rfl rfl (by (try simp only [List.map_toArray, List.map_cons, List.map_nil]); first | done | rfl) ?_
    refine (newU_c HF2.out.lt HXL.out HYL.out (by have h := (Kd.R_reads' (Kd.R_below HR0.out HB2F.out)).2.2; rwa [by8_length, HXL.out] at h) hcX (by have h := (Kd.R_reads' (Kd.R_below HR1.out HB2F.out)).2.2; rwa [by8_length, HYL.out] at h) hcY HU.out ⟨hK1, hK2⟩ ⟨hR1, hR2⟩).mono ?_
    rintro e wn ⟨cp, rfl, hb3, hcp, hc3⟩
    have HB3N := Lib.hid hb3
    have HC3 := Lib.hid hc3
    have hy0 := (hb3.cell (p := ⟨b, 0, none⟩) hb2l).trans hx0
    have hy1 := (hb3.cell (p := ⟨b, 1, none⟩) hb2l).trans hx1
    clear hb3 hc3
    refine ⟨_, rfl, ?_⟩
    refine hK.out _ _ (⟨hy0, hy1⟩) (fun hHeld => ?_)
    clear hK K
    refine norm_ (a' := ?_) ?_ ?_
    rotate_left
    · show Act.put _ (some 84) _ = _
      simp only [Act.put, List.setIfInBounds_toArray, List.set_cons_zero, List.set_cons_succ, i64_w, i32_w]
      rfl
    refine pure_ (i := 6) (N := some 78) (v := ?_) (a' := ?_) #[true, true, true, true, true, true, true, false, false, false, false] rfl rfl (by kernel_rfl) (fun _ _ _ h => h) (Or.inl ⟨by rfl, ?_⟩) ?_ ?_
    rotate_left
    · intro w'
      go_simp
      with_reducible rfl
    rotate_left
    · simp only [Act.put, List.setIfInBounds_toArray, List.set_cons_zero, List.set_cons_succ, i64_w, i32_w]
      rfl
    refine pure_ (i := 7) (N := some 85) (v := ?_) (a' := ?_) #[true, true, true, true, true, true, true, true, false, false, false] rfl rfl (by kernel_rfl) (fun _ _ _ h => h) (Or.inl ⟨by rfl, ?_⟩) ?_ ?_
    rotate_left
    · intro w'
      go_simp
      with_reducible rfl
    rotate_left
    · simp only [Act.put, List.setIfInBounds_toArray, List.set_cons_zero, List.set_cons_succ, i64_w, i32_w]
      rfl
    refine pure_ (i := 8) (N := some 86) (v := ?_) (a' := ?_) #[true, true, true, true, true, true, true, true, true, false, false] rfl rfl (by kernel_rfl) (fun _ _ _ h => h) (Or.inl ⟨by rfl, ?_⟩) ?_ ?_
    rotate_left
    · intro w'
      go_simp
      with_reducible rfl
    rotate_left
    · simp only [Act.put, List.setIfInBounds_toArray, List.set_cons_zero, List.set_cons_succ, i64_w, i32_w]
      rfl
    refine pure_ (i := 9) (N := some 19) (v := ?_) (a' := ?_) #[true, true, true, true, true, true, true, true, true, true, false] rfl rfl (by kernel_rfl) (fun _ _ _ h => h) (Or.inl ⟨by rfl, ?_⟩) ?_ ?_
    rotate_left
    · intro w'
      go_simp
      with_reducible rfl
    rotate_left
    · simp only [Act.put, List.setIfInBounds_toArray, List.set_cons_zero, List.set_cons_succ, i64_w, i32_w]
      rfl
    refine pure_ (i := 10) (N := some 20) (v := ?_) (a' := ?_) #[true, true, true, true, true, true, true, true, true, true, true] rfl rfl (by kernel_rfl) (fun _ _ _ h => h) (Or.inl ⟨by rfl, ?_⟩) ?_ ?_
    rotate_left
    · intro w'
      go_simp
      with_reducible rfl
    rotate_left
    · simp only [Act.put, List.setIfInBounds_toArray, List.set_cons_zero, List.set_cons_succ, i64_w, i32_w]
      rfl
    refine done_ (by kernel_rfl) ?_
    have H3 := Lib.hid (show Held w wn f from ⟨below_step (below_step (below_step HB4.out HWB.out) HB2F.out) HB3N.out, HF2.out.below HB3N.out, by omega⟩)
    have HXN := Lib.hid (show Kd.F BK wn (· ≠ f) AX kd (by8 X) from Kd.F_mono (R_F (Kd.R_below (Kd.R_below (Kd.R_mono (Kd.R_bound HR0.out) (fun q hq => hq.2.2.1)) HB2F.out) HB3N.out)) (fun q hq => by have := hq.1; omega))
    have HYN := Lib.hid (show Kd.F BK wn (· ≠ f) AY rp (by8 Y) from Kd.F_mono (R_F (Kd.R_below (Kd.R_below (Kd.R_mono (Kd.R_bound HR1.out) (fun q hq => hq.2.2.1)) HB2F.out) HB3N.out)) (fun q hq => by have := hq.1; omega))
    have hbn : b < wn.heap.size := by have := H3.out.fld.lt; omega
    have hbf : b ≠ f := by omega
    clear hc0 hc1 hx0 hx1
    go_upto_region 13 with (first | (go_at_call 53; go_loud (refine (size_num f cp X Y _ kd rp (by rw [HXL.out]) (by rw [HYL.out]) HC3.out).mono ?_; rintro e w5 ⟨rfl, n5, rfl⟩)))
    obtain ⟨lg, hlg⟩ : ∃ lg : Nat, (a8 % 256).tmod 70 = (lg : Int) := ⟨((a8 % 256).tmod 70).toNat, by rw [Int.tmod_eq_emod_of_nonneg (by omega)]; omega⟩
    have hlg70 : lg < 70 := by rw [Int.tmod_eq_emod_of_nonneg (by omega)] at hlg; omega
    rw [mask255 a8, hlg]
    clear hlg
    have HW5 := Lib.hid (show Below w.heap.size w (wn.drewN n5) from pw_below_drewN H3.out.below n5)
    go_upto_region 14 with (first | (go_at_call 54; go_loud (refine (data_call kd lg len7 cap7 a7 bb _ HBS.out (Kd.C_below HBR.out HW5.out) hbc (by omega) (by omega)).mono ?_; rintro e w6 ⟨v6, rfl, hv6, hb6⟩; have HV6 := Lib.hid hv6; have HB6 := Lib.hid hb6; clear hv6 hb6)))
    obtain ⟨D, hD⟩ : ∃ D, D = dRows bb lg kd := ⟨_, rfl⟩
    have HDL := Lib.hid (show D.length = kd by rw [hD, dRows_length])
    have HDN := Lib.hid (show ∀ i, i < D.length → (D.getD i []).length = lg by rw [hD]; exact dRows_len bb lg kd)
    replace HV6 := Lib.hid (show LK.R 22 w6 wn.heap.size (fun _ => True) v6 (ll8 D) by rw [hD]; exact HV6.out)
    obtain ⟨A6, c6, rfl, hc6, _⟩ := Kd.R_reads HV6.out
    have hl6 : (ll8 D).length = kd := by rw [ll8_length, HDL.out]
    rw [hl6] at HV6 hc6 ⊢
    have hfn := H3.out.fld.lt
    have HK6 := Lib.hid (((Kf.refl f wn).drewN n5).below HB6.out)
    have HF6 := Lib.hid (Fld.below (w := wn.drewN n5) H3.out.fld HB6.out)
    have HFD := Lib.hid (show Kd.F LK w6 (· ≠ f) A6 kd (ll8 D) from Kd.F_mono (R_F HV6.out) (fun q hq => by have := hq.2; omega))
    clear hD hl6
    by_cases h64 : 64 < lg
    · have b64 : decide ((64 : Int) < (lg : Int)) = true := decide_eq_true (by omega)
      go_upto_region 15 with (first | (go_at_call 33; go_loud (refine (encode_long_len f cp kd X Y D A6 c6 _ HDL.out (HC3.out.keep HK6.out) HF6.out (by rw [HXL.out]) hK1 (by rw [HDN.out 0 (by rw [HDL.out]; omega)]; exact h64) (Kd.F_now HFD.out)).mono ?_; rintro e w7 ⟨rfl, hk7, hf7⟩; have HK7 := Lib.hid (HK6.out.trans hk7); have HF7 := Lib.hid hf7; clear hk7 hf7)))
      have HE := Lib.hid (H3.out.kf HK7.out HF7.out)
      go_wp2_with (first | (go_at_call 51; go_loud (refine (awake4_any _).mono ?_; rintro e w8 ⟨rfl, hb8⟩; have HE8 := Lib.hid (HE.out.step hb8); clear hb8)))
      go_ret
      exact ⟨rfl, HE8.out.below⟩
    · have b64 : decide ((64 : Int) < (lg : Int)) = false := decide_eq_false (by omega)
      go_upto_region 15 with (first | (go_at_call 33; go_loud (refine (encode_len f cp kd X Y lg D A6 c6 _ HDL.out (HC3.out.keep HK6.out) HF6.out ⟨by rw [HYL.out]; omega, by rw [HXL.out]; omega⟩ (by rw [HXL.out]) hK1 HDN.out (by omega) HFD.out).mono ?_; rintro e w7 ⟨v7, rfl, hv7, hk7, hf7⟩; have HV7 := Lib.hid hv7; have HKD7 := Lib.hid hk7; have HK7 := Lib.hid (HK6.out.trans hk7); have HF7 := Lib.hid hf7; clear hv7 hk7 hf7)))
      replace HV7 := Lib.hid (show LK.R 22 w7 w6.heap.size (fun _ => True) v7 (ll8 (enc X Y lg D rp)) by have h := HV7.out; rwa [HYL.out] at h)
      obtain ⟨A7, c7, rfl, hc7, _⟩ := Kd.R_reads HV7.out
      have hl7 : (ll8 (enc X Y lg D rp)).length = rp := by rw [ll8_length, enc_length]
      rw [hl7] at HV7 hc7 ⊢
      have hf6l := HF6.out.lt
      go_upto_region 19 with (first | (go_at_call 33; go_loud (refine (encode_short f cp X Y _ (c6 - 1) (kd - 1) _ (HC3.out.keep HK7.out) HF7.out (by rw [HXL.out]; omega)).mono ?_; rintro e w8 ⟨rfl, hk8, hf8⟩; have HK8 := Lib.hid (HK7.out.trans hk8); have HF8 := Lib.hid hf8; have HK78 := Lib.hid hk8; clear hk8 hf8; have hq0 := HK8.out.cell hy0 hbf; have hq1 := HK8.out.cell hy1 hbf)) | (go_at_call 49; go_loud (refine (codeNew_nil AX AY kd rp cX cY _).mono ?_; rintro e w9 ⟨rfl, rfl⟩)))
      all_goals
        refine start_ (n := 48) (S := fun w' => w'.cell? ⟨b, 0, none⟩ = some (.slice AX kd cX) ∧ w'.cell? ⟨b, 1, none⟩ = some (.slice AY rp cY)) (ds := []) #[false, false, false, false, false, false, false, false, false, false, false, false, false, false, false, false, false, false, false, false, false, false, false, false, false, false, false, false, false, false, false, false, false, false, false, false, false, false, false, false, false, false, false, false, false, false, false, false] (by kernel_rfl) rfl rfl ?hS (fun hHeld => ?_)
        case hS => exact ⟨hq0, hq1⟩
        refine pure_ (i := 0) (N := some 140) (v := ?_) (a' := ?_) #[true, false, false, false, false, false, false, false, false, false, false, false, false, false, false, false, false, false, false, false, false, false, false, false, false, false, false, false, false, false, false, false, false, false, false, false, false, false, false, false, false, false, false, false, false, false, false, false] rfl rfl (by kernel_rfl) (fun _ _ _ h => h) (Or.inl ⟨by rfl, ?_⟩) ?_ ?_
        rotate_left
        · intro w'
          go_simp
          with_reducible rfl
        rotate_left
        · simp only [Act.put, List.setIfInBounds_toArray, List.set_cons_zero, List.set_cons_succ, i64_w, i32_w]
          rfl
        refine pure_ (i := 1) (N := some 141) (v := ?_) (a' := ?_) #[true, true, false, false, false, false, false, false, false, false, false, false, false, false, false, false, false, false, false, false, false, false, false, false, false, false, false, false, false, false, false, false, false, false, false, false, false, false, false, false, false, false, false, false, false, false, false, false] rfl rfl (by kernel_rfl) (fun _ _ _ h => h) (Or.inl ⟨by rfl, ?_⟩) ?_ ?_
        rotate_left
        · intro w'
          go_simp
          with_reducible rfl
        rotate_left
        · simp only [Act.put, List.setIfInBounds_toArray, List.set_cons_zero, List.set_cons_succ, i64_w, i32_w]
          rfl
        refine take_ (i := 2) (N := some 142) (v := ?_) (a' := ?_) #[true, true, true, false, false, false, false, false, false, false, false, false, false, false, false, false, false, false, false, false, false, false, false, false, false, false, false, false, false, false, false, false, false, false, false, false, false, false, false, false, false, false, false, false, false, false, false, false] rfl rfl (by kernel_rfl) (fun _ _ _ h => h) (Or.inl ⟨by rfl, ?_⟩) hHeld ?_ ?_
        rotate_left
        · rintro w' ⟨s0, s1⟩
          go_simp
          with_reducible rfl
        rotate_left
        · simp only [Act.put, List.setIfInBounds_toArray, List.set_cons_zero, List.set_cons_succ, i64_w, i32_w]
          rfl
        refine pure_ (i := 3) (N := some 143) (v := ?_) (a' := ?_) #[true, true, true, true, false, false, false, false, false, false, false, false, false, false, false, false, false, false, false, false, false, false, false, false, false, false, false, false, false, false, false, false, false, false, false, false, false, false, false, false, false, false, false, false, false, false, false, false] rfl rfl (by kernel_rfl) (fun _ _ _ h => h) (Or.inl ⟨by rfl, ?_⟩) ?_ ?_
        rotate_left
        · intro w'
          go_simp
          with_reducible rfl
        rotate_left
        · simp only [Act.put, List.setIfInBounds_toArray, List.set_cons_zero, List.set_cons_succ, i64_w, i32_w]
          rfl
        refine pure_ (i := 4) (N := some 144) (v := ?_) (a' := ?_) #[true, true, true, true, true, false, false, false, false, false, false, false, false, false, false, false, false, false, false, false, false, false, false, false, false, false, false, false, false, false, false, false, false, false, false, false, false, false, false, false, false, false, false, false, false, false, false, false] rfl rfl (by kernel_rfl) (fun _ _ _ h => h) (Or.inl ⟨by rfl, ?_⟩) ?_ ?_
        rotate_left
        · intro w'
          go_simp
          with_reducible rfl
        rotate_left
        · simp only [Act.put, List.setIfInBounds_toArray, List.set_cons_zero, List.set_cons_succ, i64_w, i32_w]
          rfl
        refine pure_ (i := 5) (N := some 145) (v := ?_) (a' := ?_) #[true, true, true, true, true, true, false, false, false, false, false, false, false, false, false, false, false, false, false, false, false, false, false, false, false, false, false, false, false, false, false, false, false, false, false, false, false, false, false, false, false, false, false, false, false, false, false, false] rfl rfl (by kernel_rfl) (fun _ _ _ h => h) (Or.inl ⟨by rfl, ?_⟩) ?_ ?_
        rotate_left
        · intro w'
          go_simp
          with_reducible rfl
        rotate_left
        · simp only [Act.put, List.setIfInBounds_toArray, List.set_cons_zero, List.set_cons_succ, i64_w, i32_w]
          rfl
        refine pure_ (i := 6) (N := some 146) (v := ?_) (a' := ?_) #[true, true, true, true, true, true, true, false, false, false, false, false, false, false, false, false, false, false, false, false, false, false, false, false, false, false, false, false, false, false, false, false, false, false, false, false, false, false, false, false, false, false, false, false, false, false, false, false] rfl rfl (by kernel_rfl) (fun _ _ _ h => h) (Or.inl ⟨by rfl, ?_⟩) ?_ ?_
        rotate_left
        · intro w'
          go_simp
          with_reducible rfl
        rotate_left
        · simp only [Act.put, List.setIfInBounds_toArray, List.set_cons_zero, List.set_cons_succ, i64_w, i32_w]
          rfl
        refine pure_ (i := 7) (N := some 147) (v := ?_) (a' := ?_) #[true, true, true, true, true, true, true, true, false, false, false, false, false, false, false, false, false, false, false, false, false, false, false, false, false, false, false, false, false, false, false, false, false, false, false, false, false, false, false, false, false, false, false, false, false, false, false, false] rfl rfl (by kernel_rfl) (fun _ _ _ h => h) (Or.inl ⟨by rfl, ?_⟩) ?_ ?_
        rotate_left
        · intro w'
          go_simp
          with_reducible rfl
        rotate_left
        · simp only [Act.put, List.setIfInBounds_toArray, List.set_cons_zero, List.set_cons_succ, i64_w, i32_w]
          rfl
        refine take_ (i := 8) (N := some 148) (v := ?_) (a' := ?_) #[true, true, true, true, true, true, true, true, true, false, false, false, false, false, false, false, false, false, false, false, false, false, false, false, false, false, false, false, false, false, false, false, false, false, false, false, false, false, false, false, false, false, false, false, false, false, false, false] rfl rfl (by kernel_rfl) (fun _ _ _ h => h) (Or.inl ⟨by rfl, ?_⟩) hHeld ?_ ?_
        rotate_left
        · rintro w' ⟨s0, s1⟩
          go_simp
          with_reducible rfl
        rotate_left
        · simp only [Act.put, List.setIfInBounds_toArray, List.set_cons_zero, List.set_cons_succ, i64_w, i32_w]
          rfl
        refine pure_ (i := 9) (N := some 149) (v := ?_) (a' := ?_) #[true, true, true, true, true, true, true, true, true, true, false, false, false, false, false, false, false, false, false, false, false, false, false, false, false, false, false, false, false, false, false, false, false, false, false, false, false, false, false, false, false, false, false, false, false, false, false, false] rfl rfl (by kernel_rfl) (fun _ _ _ h => h) (Or.inl ⟨by rfl, ?_⟩) ?_ ?_
        rotate_left
        · intro w'
          go_simp
          with_reducible rfl
        rotate_left
        · simp only [Act.put, List.setIfInBounds_toArray, List.set_cons_zero, List.set_cons_succ, i64_w, i32_w]
          rfl
        refine pure_ (i := 10) (N := some 150) (v := ?_) (a' := ?_) #[true, true, true, true, true, true, true, true, true, true, true, false, false, false, false, false, false, false, false, false, false, false, false, false, false, false, false, false, false, false, false, false, false, false, false, false, false, false, false, false, false, false, false, false, false, false, false, false] rfl rfl (by kernel_rfl) (fun _ _ _ h => h) (Or.inl ⟨by rfl, ?_⟩) ?_ ?_
        rotate_left
        · intro w'
          go_simp
          with_reducible rfl
        rotate_left
        · simp only [Act.put, List.setIfInBounds_toArray, List.set_cons_zero, List.set_cons_succ, i64_w, i32_w]
          rfl
        refine pure_ (i := 11) (N := some 151) (v := ?_) (a' := ?_) #[true, true, true, true, true, true, true, true, true, true, true, true, false, false, false, false, false, false, false, false, false, false, false, false, false, false, false, false, false, false, false, false, false, false, false, false, false, false, false, false, false, false, false, false, false, false, false, false] rfl rfl (by kernel_rfl) (fun _ _ _ h => h) (Or.inl ⟨by rfl, ?_⟩) ?_ ?_
        rotate_left
        · intro w'
          go_simp
          with_reducible rfl
        rotate_left
        · simp only [Act.put, List.setIfInBounds_toArray, List.set_cons_zero, List.set_cons_succ, i64_w, i32_w]
          rfl
        refine pure_ (i := 12) (N := some 152) (v := ?_) (a' := ?_) #[true, true, true, true, true, true, true, true, true, true, true, true, true, false, false, false, false, false, false, false, false, false, false, false, false, false, false, false, false, false, false, false, false, false, false, false, false, false, false, false, false, false, false, false, false, false, false, false] rfl rfl (by kernel_rfl) (fun _ _ _ h => h) (Or.inl ⟨by rfl, ?_⟩) ?_ ?_
        rotate_left
        · intro w'
          go_simp
          with_reducible rfl
        rotate_left
        · simp only [Act.put, List.setIfInBounds_toArray, List.set_cons_zero, List.set_cons_succ, i64_w, i32_w]
          rfl
        refine pure_ (i := 13) (N := some 153) (v := ?_) (a' := ?_) #[true, true, true, true, true, true, true, true, true, true, true, true, true, true, false, false, false, false, false, false, false, false, false, false, false, false, false, false, false, false, false, false, false, false, false, false, false, false, false, false, false, false, false, false, false, false, false, false] rfl rfl (by kernel_rfl) (fun _ _ _ h => h) (Or.inl ⟨by rfl, ?_⟩) ?_ ?_
        rotate_left
        · intro w'
          go_simp
          with_reducible rfl
        rotate_left
        · simp only [Act.put, List.setIfInBounds_toArray, List.set_cons_zero, List.set_cons_succ, i64_w, i32_w]
          rfl
        refine pure_ (i := 14) (N := some 154) (v := ?_) (a' := ?_) #[true, true, true, true, true, true, true, true, true, true, true, true, true, true, true, false, false, false, false, false, false, false, false, false, false, false, false, false, false, false, false, false, false, false, false, false, false, false, false, false, false, false, false, false, false, false, false, false] rfl rfl (by kernel_rfl) (fun _ _ _ h => h) (Or.inl ⟨by rfl, ?_⟩) ?_ ?_
        rotate_left
        · intro w'
          go_simp
          with_reducible rfl
        rotate_left
        · simp only [Act.put, List.setIfInBounds_toArray, List.set_cons_zero, List.set_cons_succ, i64_w, i32_w]
          rfl
        refine pure_ (i := 15) (N := some 155) (v := ?_) (a' := ?_) #[true, true, true, true, true, true, true, true, true, true, true, true, true, true, true, true, false, false, false, false, false, false, false, false, false, false, false, false, false, false, false, false, false, false, false, false, false, false, false, false, false, false, false, false, false, false, false, false] rfl rfl (by kernel_rfl) (fun _ _ _ h => h) (Or.inl ⟨by rfl, ?_⟩) ?_ ?_
        rotate_left
        · intro w'
          go_simp
          with_reducible rfl
        rotate_left
        · simp only [Act.put, List.setIfInBounds_toArray, List.set_cons_zero, List.set_cons_succ, i64_w, i32_w]
          rfl
        refine pure_ (i := 18) (N := some 158) (v := ?_) (a' := ?_) #[true, true, true, true, true, true, true, true, true, true, true, true, true, true, true, true, false, false, true, false, false, false, false, false, false, false, false, false, false, false, false, false, false, false, false, false, false, false, false, false, false, false, false, false, false, false, false, false] rfl rfl (by kernel_rfl) (fun _ _ _ h => h) (Or.inl ⟨by rfl, ?_⟩) ?_ ?_
        rotate_left
        · intro w'
          go_simp
          with_reducible rfl
        rotate_left
        · simp only [Act.put, List.setIfInBounds_toArray, List.set_cons_zero, List.set_cons_succ, i64_w, i32_w]
          rfl
        refine pure_ (i := 19) (N := some 159) (v := ?_) (a' := ?_) #[true, true, true, true, true, true, true, true, true, true, true, true, true, true, true, true, false, false, true, true, false, false, false, false, false, false, false, false, false, false, false, false, false, false, false, false, false, false, false, false, false, false, false, false, false, false, false, false] rfl rfl (by kernel_rfl) (fun _ _ _ h => h) (Or.inl ⟨by rfl, ?_⟩) ?_ ?_
        rotate_left
        · intro w'
          go_simp
          with_reducible rfl
        rotate_left
        · simp only [Act.put, List.setIfInBounds_toArray, List.set_cons_zero, List.set_cons_succ, i64_w, i32_w]
          rfl
        refine take_ (i := 17) (N := some 157) (v := ?_) (a' := ?_) #[true, true, true, true, true, true, true, true, true, true, true, true, true, true, true, true, false, true, true, true, false, false, false, false, false, false, false, false, false, false, false, false, false, false, false, false, false, false, false, false, false, false, false, false, false, false, false, false] rfl rfl (by kernel_rfl) (fun _ _ _ h => h) (Or.inl ⟨by rfl, ?_⟩) hHeld ?_ ?_
        rotate_left
        · rintro w' ⟨s0, s1⟩
          go_simp
          with_reducible rfl
        rotate_left
        · simp only [Act.put, List.setIfInBounds_toArray, List.set_cons_zero, List.set_cons_succ, i64_w, i32_w]
          rfl
        refine one_ (i := 16) (N := some 156) #[true, true, true, true, true, true, true, true, true, true, true, true, true, true, true, true, true, true, true, true, false, false, false, false, false, false, false, false, false, false, false, false, false, false, false, false, false, false, false, false, false, false, false, false, false, false, false, false] rfl rfl (by kernel_rfl) (by decide) (fun K hK => ?_)
        refine goes_ Try.func26 (by kernel_rfl) rfl #[.pointer (some ⟨cp, 0, none⟩), .int .i64 a6, .int .i64 a5] (by rfl) rfl rfl (by (try simp only [List.map_toArray, List.map_cons, List.map_nil]); first | done | rfl) ?_
        refine (coef_call f cp X Y a6 a5 _ ⟨by rw [HYL.out]; omega, by rw [HXL.out]; omega⟩ (HC3.out.keep HK8.out.drew) (show Fld w8.drew f from HF8.out)).mono ?_
        rintro e w10 ⟨rfl, hk10, hf10⟩
        have HK10 := Lib.hid (HK8.out.drew.trans hk10)
        have HF10 := Lib.hid hf10
        have HK810 := Lib.hid hk10
        clear hk10 hf10
        refine ⟨_, rfl, ?_⟩
        refine hK.out _ _ (⟨HK10.out.cell hy0 hbf, HK10.out.cell hy1 hbf⟩) (fun hHeld => ?_)
        clear hK K
        refine norm_ (a' := ?_) ?_ ?_
        rotate_left
        · show Act.put _ (some 156) _ = _
          simp only [Act.put, List.setIfInBounds_toArray, List.set_cons_zero, List.set_cons_succ, i64_w, i32_w]
          rfl
        refine one_ (i := 20) (N := some 160) #[true, true, true, true, true, true, true, true, true, true, true, true, true, true, true, true, true, true, true, true, true, false, false, false, false, false, false, false, false, false, false, false, false, false, false, false, false, false, false, false, false, false, false, false, false, false, false, false] rfl rfl (by kernel_rfl) (by decide) (fun K hK => ?_)
        refine goes_ Try.func55 (by kernel_rfl) rfl #[.agg #[.slice AX kd cX, .slice AY rp cY], .int .i64 a6, .int .i64 a5] (by rfl) rfl rfl (by (try simp only [List.map_toArray, List.map_cons, List.map_nil]); first | done | rfl) ?_
        refine (refCoef_call AX AY kd rp cX cY X Y a6 a5 _ HXL.out HYL.out (Kd.F_now (Kd.F_grown HXN.out HK10.out (fun q hq e => hq (Option.some.inj e)))) (Kd.F_now (Kd.F_grown HYN.out HK10.out (fun q hq e => hq (Option.some.inj e)))) hcX hcY).mono ?_
        rintro e w11 ⟨rfl, hb11⟩
        have HK11 := Lib.hid (HK10.out.below hb11)
        have HF11 := Lib.hid (HF10.out.below hb11)
        have HP11 := Lib.hid (show LK.R 22 w11 w6.heap.size (fun _ => True) (.slice A7 rp c7) (ll8 (enc X Y lg D rp)) from Kd.R_below (R_kf (R_kf HV7.out HK78.out hf6l) (Kf.trans (Kf.drew (Kf.refl f w8)) HK810.out) hf6l) hb11)
        have HB11 := Lib.hid hb11
        clear hb11
        refine ⟨_, rfl, ?_⟩
        refine hK.out _ _ (⟨HK11.out.cell hy0 hbf, HK11.out.cell hy1 hbf⟩) (fun hHeld => ?_)
        clear hK K
        refine norm_ (a' := ?_) ?_ ?_
        rotate_left
        · show Act.put _ (some 160) _ = _
          simp only [Act.put, List.setIfInBounds_toArray, List.set_cons_zero, List.set_cons_succ, i64_w, i32_w]
          rfl
        refine pure_ (i := 21) (N := some 161) (v := ?_) (a' := ?_) #[true, true, true, true, true, true, true, true, true, true, true, true, true, true, true, true, true, true, true, true, true, true, false, false, false, false, false, false, false, false, false, false, false, false, false, false, false, false, false, false, false, false, false, false, false, false, false, false] rfl rfl (by kernel_rfl) (fun _ _ _ h => h) (Or.inl ⟨by rfl, ?_⟩) ?_ ?_
        rotate_left
        · intro w'
          go_simp
          with_reducible rfl
        rotate_left
        · simp only [Act.put, List.setIfInBounds_toArray, List.set_cons_zero, List.set_cons_succ, i64_w, i32_w]
          rfl
        refine pure_ (i := 22) (N := some 162) (v := ?_) (a' := ?_) #[true, true, true, true, true, true, true, true, true, true, true, true, true, true, true, true, true, true, true, true, true, true, true, false, false, false, false, false, false, false, false, false, false, false, false, false, false, false, false, false, false, false, false, false, false, false, false, false] rfl rfl (by kernel_rfl) (fun _ _ _ h => h) (Or.inl ⟨by rfl, ?_⟩) ?_ ?_
        rotate_left
        · intro w'
          go_simp
          with_reducible rfl
        rotate_left
        · simp only [Act.put, List.setIfInBounds_toArray, List.set_cons_zero, List.set_cons_succ, i64_w, i32_w]
          rfl
        refine pure_ (i := 23) (N := some 163) (v := ?_) (a' := ?_) #[true, true, true, true, true, true, true, true, true, true, true, true, true, true, true, true, true, true, true, true, true, true, true, true, false, false, false, false, false, false, false, false, false, false, false, false, false, false, false, false, false, false, false, false, false, false, false, false] rfl rfl (by kernel_rfl) (fun _ _ _ h => h) (Or.inl ⟨by rfl, ?_⟩) ?_ ?_
        rotate_left
        · intro w'
          go_simp
          with_reducible rfl
        rotate_left
        · simp only [Act.put, List.setIfInBounds_toArray, List.set_cons_zero, List.set_cons_succ, i64_w, i32_w]
          rfl
        refine pure_ (i := 24) (N := some 164) (v := ?_) (a' := ?_) #[true, true, true, true, true, true, true, true, true, true, true, true, true, true, true, true, true, true, true, true, true, true, true, true, true, false, false, false, false, false, false, false, false, false, false, false, false, false, false, false, false, false, false, false, false, false, false, false] rfl rfl (by kernel_rfl) (fun _ _ _ h => h) (Or.inl ⟨by rfl, ?_⟩) ?_ ?_
        rotate_left
        · intro w'
          go_simp
          with_reducible rfl
        rotate_left
        · simp only [Act.put, List.setIfInBounds_toArray, List.set_cons_zero, List.set_cons_succ, i64_w, i32_w]
          rfl
        refine pure_ (i := 25) (N := some 165) (v := ?_) (a' := ?_) #[true, true, true, true, true, true, true, true, true, true, true, true, true, true, true, true, true, true, true, true, true, true, true, true, true, true, false, false, false, false, false, false, false, false, false, false, false, false, false, false, false, false, false, false, false, false, false, false] rfl rfl (by kernel_rfl) (fun _ _ _ h => h) (Or.inl ⟨by rfl, ?_⟩) ?_ ?_
        rotate_left
        · intro w'
          go_simp
          with_reducible rfl
        rotate_left
        · simp only [Act.put, List.setIfInBounds_toArray, List.set_cons_zero, List.set_cons_succ, i64_w, i32_w]
          rfl
        refine pure_ (i := 26) (N := some 166) (v := ?_) (a' := ?_) #[true, true, true, true, true, true, true, true, true, true, true, true, true, true, true, true, true, true, true, true, true, true, true, true, true, true, true, false, false, false, false, false, false, false, false, false, false, false, false, false, false, false, false, false, false, false, false, false] rfl rfl (by kernel_rfl) (fun _ _ _ h => h) (Or.inl ⟨by rfl, ?_⟩) ?_ ?_
        rotate_left
        · intro w'
          go_simp
          with_reducible rfl
        rotate_left
        · simp only [Act.put, List.setIfInBounds_toArray, List.set_cons_zero, List.set_cons_succ, i64_w, i32_w]
          rfl
        refine pure_ (i := 27) (N := some 167) (v := ?_) (a' := ?_) #[true, true, true, true, true, true, true, true, true, true, true, true, true, true, true, true, true, true, true, true, true, true, true, true, true, true, true, true, false, false, false, false, false, false, false, false, false, false, false, false, false, false, false, false, false, false, false, false] rfl rfl (by kernel_rfl) (fun _ _ _ h => h) (Or.inl ⟨by rfl, ?_⟩) ?_ ?_
        rotate_left
        · intro w'
          go_simp
          with_reducible rfl
        rotate_left
        · simp only [Act.put, List.setIfInBounds_toArray, List.set_cons_zero, List.set_cons_succ, i64_w, i32_w]
          rfl
        refine pure_ (i := 28) (N := some 168) (v := ?_) (a' := ?_) #[true, true, true, true, true, true, true, true, true, true, true, true, true, true, true, true, true, true, true, true, true, true, true, true, true, true, true, true, true, false, false, false, false, false, false, false, false, false, false, false, false, false, false, false, false, false, false, false] rfl rfl (by kernel_rfl) (fun _ _ _ h => h) (Or.inl ⟨by rfl, ?_⟩) ?_ ?_
        rotate_left
        · intro w'
          go_simp
          with_reducible rfl
        rotate_left
        · simp only [Act.put, List.setIfInBounds_toArray, List.set_cons_zero, List.set_cons_succ, i64_w, i32_w]
          rfl
        refine pure_ (i := 31) (N := some 171) (v := ?_) (a' := ?_) #[true, true, true, true, true, true, true, true, true, true, true, true, true, true, true, true, true, true, true, true, true, true, true, true, true, true, true, true, true, false, false, true, false, false, false, false, false, false, false, false, false, false, false, false, false, false, false, false] rfl rfl (by kernel_rfl) (fun _ _ _ h => h) (Or.inl ⟨by rfl, ?_⟩) ?_ ?_
        rotate_left
        · intro w'
          go_simp
          with_reducible rfl
        rotate_left
        · simp only [Act.put, List.setIfInBounds_toArray, List.set_cons_zero, List.set_cons_succ, i64_w, i32_w]
          rfl
        refine take_ (i := 30) (N := some 170) (v := ?_) (a' := ?_) #[true, true, true, true, true, true, true, true, true, true, true, true, true, true, true, true, true, true, true, true, true, true, true, true, true, true, true, true, true, false, true, true, false, false, false, false, false, false, false, false, false, false, false, false, false, false, false, false] rfl rfl (by kernel_rfl) (fun _ _ _ h => h) (Or.inl ⟨by rfl, ?_⟩) hHeld ?_ ?_
        rotate_left
        · rintro w' ⟨s0, s1⟩
          go_simp
          with_reducible rfl
        rotate_left
        · simp only [Act.put, List.setIfInBounds_toArray, List.set_cons_zero, List.set_cons_succ, i64_w, i32_w]
          rfl
        refine one_ (i := 29) (N := some 169) #[true, true, true, true, true, true, true, true, true, true, true, true, true, true, true, true, true, true, true, true, true, true, true, true, true, true, true, true, true, true, true, true, false, false, false, false, false, false, false, false, false, false, false, false, false, false, false, false] rfl rfl (by kernel_rfl) (by decide) (fun K hK => ?_)
        refine goes_ Try.func35 (by kernel_rfl) rfl #[.slice A7 rp c7] (by rfl) rfl rfl (by (try simp only [List.map_toArray, List.map_cons, List.map_nil]); first | done | rfl) ?_
        have HKD11 := Lib.hid ((((HKD7.out.trans HK78.out).drew).trans HK810.out).below HB11.out)
        refine (strings_call (enc X Y lg D rp) rp c7 A7 _ (enc_length X Y lg D rp) (by omega) (by have h := (Kd.R_reads' HP11.out).2.2; rwa [hl7] at h) hc7).mono ?_
        rintro e w12 ⟨A12, c12, rfl, hs12, hc12, hb12⟩
        have HK12 := Lib.hid (HK11.out.below hb12)
        have HF12 := Lib.hid (HF11.out.below hb12)
        have HKD12 := Lib.hid (HKD11.out.below hb12)
        have HS12 := Lib.hid hs12
        clear hb12 hs12
        refine ⟨_, rfl, ?_⟩
        refine hK.out _ _ (⟨HK12.out.cell hy0 hbf, HK12.out.cell hy1 hbf⟩) (fun hHeld => ?_)
        clear hK K
        refine norm_ (a' := ?_) ?_ ?_
        rotate_left
        · show Act.put _ (some 169) _ = _
          simp only [Act.put, List.setIfInBounds_toArray, List.set_cons_zero, List.set_cons_succ, i64_w, i32_w]
          rfl
        refine one_ (i := 32) (N := some 172) #[true, true, true, true, true, true, true, true, true, true, true, true, true, true, true, true, true, true, true, true, true, true, true, true, true, true, true, true, true, true, true, true, true, false, false, false, false, false, false, false, false, false, false, false, false, false, false, false] rfl rfl (by kernel_rfl) (by decide) (fun K hK => ?_)
        refine goes_ Try.func35 (by kernel_rfl) rfl #[.slice A6 kd c6] (by rfl) rfl rfl (by (try simp only [List.map_toArray, List.map_cons, List.map_nil]); first | done | rfl) ?_
        refine (strings_call D kd c6 A6 _ HDL.out (by omega) (Kd.F_now (Kd.F_grown HFD.out HKD12.out (fun q hq e => hq (Option.some.inj e)))) hc6).mono ?_
        rintro e w13 ⟨A13, c13, rfl, hs13, hc13, hb13⟩
        have HK13 := Lib.hid (HK12.out.below hb13)
        have HF13 := Lib.hid (HF12.out.below hb13)
        have HS13 := Lib.hid hs13
        have HB13 := Lib.hid hb13
        clear hb13 hs13
        refine ⟨_, rfl, ?_⟩
        refine hK.out _ _ (⟨HK13.out.cell hy0 hbf, HK13.out.cell hy1 hbf⟩) (fun hHeld => ?_)
        clear hK K
        refine norm_ (a' := ?_) ?_ ?_
        rotate_left
        · show Act.put _ (some 172) _ = _
          simp only [Act.put, List.setIfInBounds_toArray, List.set_cons_zero, List.set_cons_succ, i64_w, i32_w]
          rfl
        refine one_ (i := 33) (N := some 173) #[true, true, true, true, true, true, true, true, true, true, true, true, true, true, true, true, true, true, true, true, true, true, true, true, true, true, true, true, true, true, true, true, true, true, false, false, false, false, false, false, false, false, false, false, false, false, false, false] rfl rfl (by kernel_rfl) (by decide) (fun K hK => ?_)
        refine goes_ Try.func56 (by kernel_rfl) rfl #[.agg #[.slice AX kd cX, .slice AY rp cY], .slice A13 kd c13] (by rfl) rfl rfl (by (try simp only [List.map_toArray, List.map_cons, List.map_nil]); first | done | rfl) ?_
        refine (refEncode_call AX AY A13 kd rp kd cX cY c13 lg X Y D _ HXL.out HYL.out HDL.out (Kd.F_now (Kd.F_grown HXN.out HK13.out (fun q hq e => hq (Option.some.inj e)))) (Kd.F_now (Kd.F_grown HYN.out HK13.out (fun q hq e => hq (Option.some.inj e)))) (by have h := (Kd.R_reads' HS13.out).2.2; rwa [txt_length, HDL.out] at h) hcX hcY hc13 rfl ⟨hK1, hK2⟩ hR2 HDN.out (by omega)).mono ?_
        rintro e w14 ⟨A14, c14, rfl, hs14, hc14, hb14⟩
        have HK14 := Lib.hid (HK13.out.below hb14)
        have HF14 := Lib.hid (HF13.out.below hb14)
        have HS14 := Lib.hid hs14
        have HB14 := Lib.hid hb14
        clear hb14 hs14
        refine ⟨_, rfl, ?_⟩
        refine hK.out _ _ (⟨HK14.out.cell hy0 hbf, HK14.out.cell hy1 hbf⟩) (fun hHeld => ?_)
        clear hK K
        refine norm_ (a' := ?_) ?_ ?_
        rotate_left
        · show Act.put _ (some 173) _ = _
          simp only [Act.put, List.setIfInBounds_toArray, List.set_cons_zero, List.set_cons_succ, i64_w, i32_w]
          rfl
        refine one_ (i := 34) (N := some 174) #[true, true, true, true, true, true, true, true, true, true, true, true, true, true, true, true, true, true, true, true, true, true, true, true, true, true, true, true, true, true, true, true, true, true, true, false, false, false, false, false, false, false, false, false, false, false, false, false] rfl rfl (by kernel_rfl) (by decide) (fun K hK => ?_)
        refine goes_ Try.func34 (by kernel_rfl) rfl #[.slice A12 rp c12, .slice A14 rp c14] (by rfl) rfl rfl (by (try simp only [List.map_toArray, List.map_cons, List.map_nil]); first | done | rfl) ?_
        refine (same_call (txt (enc X Y lg D rp)) (txt (enc X Y lg D rp)) rp rp c12 c14 A12 A14 _ (by rw [txt_length, enc_length]) (by rw [txt_length, enc_length]) (by omega) (by have h := (Kd.R_reads' (Kd.R_below (Kd.R_below HS12.out HB13.out) HB14.out)).2.2; rwa [txt_length, enc_length] at h) (by have h := (Kd.R_reads' HS14.out).2.2; rwa [txt_length, enc_length] at h) hc12 hc14).mono ?_
        rintro e w15 ⟨r, rfl, hr, hb15⟩
        obtain rfl : r = true := hr.2 rfl
        have HK15 := Lib.hid (HK14.out.below hb15)
        have HF15 := Lib.hid (HF14.out.below hb15)
        clear hb15 hr
        refine ⟨_, rfl, ?_⟩
        refine hK.out _ _ (⟨HK15.out.cell hy0 hbf, HK15.out.cell hy1 hbf⟩) (fun hHeld => ?_)
        clear hK K
        refine norm_ (a' := ?_) ?_ ?_
        rotate_left
        · show Act.put _ (some 174) _ = _
          simp only [Act.put, List.setIfInBounds_toArray, List.set_cons_zero, List.set_cons_succ, i64_w, i32_w]
          rfl
        refine pure_ (i := 35) (N := some 175) (v := ?_) (a' := ?_) #[true, true, true, true, true, true, true, true, true, true, true, true, true, true, true, true, true, true, true, true, true, true, true, true, true, true, true, true, true, true, true, true, true, true, true, true, false, false, false, false, false, false, false, false, false, false, false, false] rfl rfl (by kernel_rfl) (fun _ _ _ h => h) (Or.inl ⟨by rfl, ?_⟩) ?_ ?_
        rotate_left
        · intro w'
          go_simp
          with_reducible rfl
        rotate_left
        · simp only [Act.put, List.setIfInBounds_toArray, List.set_cons_zero, List.set_cons_succ, i64_w, i32_w]
          rfl
        refine pure_ (i := 36) (N := some 176) (v := ?_) (a' := ?_) #[true, true, true, true, true, true, true, true, true, true, true, true, true, true, true, true, true, true, true, true, true, true, true, true, true, true, true, true, true, true, true, true, true, true, true, true, true, false, false, false, false, false, false, false, false, false, false, false] rfl rfl (by kernel_rfl) (fun _ _ _ h => h) (Or.inl ⟨by rfl, ?_⟩) ?_ ?_
        rotate_left
        · intro w'
          go_simp
          with_reducible rfl
        rotate_left
        · simp only [Act.put, List.setIfInBounds_toArray, List.set_cons_zero, List.set_cons_succ, i64_w, i32_w]
          rfl
        refine pure_ (i := 37) (N := some 177) (v := ?_) (a' := ?_) #[true, true, true, true, true, true, true, true, true, true, true, true, true, true, true, true, true, true, true, true, true, true, true, true, true, true, true, true, true, true, true, true, true, true, true, true, true, true, false, false, false, false, false, false, false, false, false, false] rfl rfl (by kernel_rfl) (fun _ _ _ h => h) (Or.inl ⟨by rfl, ?_⟩) ?_ ?_
        rotate_left
        · intro w'
          go_simp
          with_reducible rfl
        rotate_left
        · simp only [Act.put, List.setIfInBounds_toArray, List.set_cons_zero, List.set_cons_succ, i64_w, i32_w]
          rfl
        refine pure_ (i := 38) (N := some 178) (v := ?_) (a' := ?_) #[true, true, true, true, true, true, true, true, true, true, true, true, true, true, true, true, true, true, true, true, true, true, true, true, true, true, true, true, true, true, true, true, true, true, true, true, true, true, true, false, false, false, false, false, false, false, false, false] rfl rfl (by kernel_rfl) (fun _ _ _ h => h) (Or.inl ⟨by rfl, ?_⟩) ?_ ?_
        rotate_left
        · intro w'
          go_simp
          with_reducible rfl
        rotate_left
        · simp only [Act.put, List.setIfInBounds_toArray, List.set_cons_zero, List.set_cons_succ, i64_w, i32_w]
          rfl
        refine pure_ (i := 39) (N := some 179) (v := ?_) (a' := ?_) #[true, true, true, true, true, true, true, true, true, true, true, true, true, true, true, true, true, true, true, true, true, true, true, true, true, true, true, true, true, true, true, true, true, true, true, true, true, true, true, true, false, false, false, false, false, false, false, false] rfl rfl (by kernel_rfl) (fun _ _ _ h => h) (Or.inl ⟨by rfl, ?_⟩) ?_ ?_
        rotate_left
        · intro w'
          go_simp
          with_reducible rfl
        rotate_left
        · simp only [Act.put, List.setIfInBounds_toArray, List.set_cons_zero, List.set_cons_succ, i64_w, i32_w]
          rfl
        refine pure_ (i := 40) (N := some 180) (v := ?_) (a' := ?_) #[true, true, true, true, true, true, true, true, true, true, true, true, true, true, true, true, true, true, true, true, true, true, true, true, true, true, true, true, true, true, true, true, true, true, true, true, true, true, true, true, true, false, false, false, false, false, false, false] rfl rfl (by kernel_rfl) (fun _ _ _ h => h) (Or.inl ⟨by rfl, ?_⟩) ?_ ?_
        rotate_left
        · intro w'
          go_simp
          with_reducible rfl
        rotate_left
        · simp only [Act.put, List.setIfInBounds_toArray, List.set_cons_zero, List.set_cons_succ, i64_w, i32_w]
          rfl
        refine pure_ (i := 41) (N := some 181) (v := ?_) (a' := ?_) #[true, true, true, true, true, true, true, true, true, true, true, true, true, true, true, true, true, true, true, true, true, true, true, true, true, true, true, true, true, true, true, true, true, true, true, true, true, true, true, true, true, true, false, false, false, false, false, false] rfl rfl (by kernel_rfl) (fun _ _ _ h => h) (Or.inl ⟨by rfl, ?_⟩) ?_ ?_
        rotate_left
        · intro w'
          go_simp
          with_reducible rfl
        rotate_left
        · simp only [Act.put, List.setIfInBounds_toArray, List.set_cons_zero, List.set_cons_succ, i64_w, i32_w]
          rfl
        refine pure_ (i := 42) (N := some 182) (v := ?_) (a' := ?_) #[true, true, true, true, true, true, true, true, true, true, true, true, true, true, true, true, true, true, true, true, true, true, true, true, true, true, true, true, true, true, true, true, true, true, true, true, true, true, true, true, true, true, true, false, false, false, false, false] rfl rfl (by kernel_rfl) (fun _ _ _ h => h) (Or.inl ⟨by rfl, ?_⟩) ?_ ?_
        rotate_left
        · intro w'
          go_simp
          with_reducible rfl
        rotate_left
        · simp only [Act.put, List.setIfInBounds_toArray, List.set_cons_zero, List.set_cons_succ, i64_w, i32_w]
          rfl
        refine pure_ (i := 43) (N := some 183) (v := ?_) (a' := ?_) #[true, true, true, true, true, true, true, true, true, true, true, true, true, true, true, true, true, true, true, true, true, true, true, true, true, true, true, true, true, true, true, true, true, true, true, true, true, true, true, true, true, true, true, true, false, false, false, false] rfl rfl (by kernel_rfl) (fun _ _ _ h => h) (Or.inl ⟨by rfl, ?_⟩) ?_ ?_
        rotate_left
        · intro w'
          go_simp
          with_reducible rfl
        rotate_left
        · simp only [Act.put, List.setIfInBounds_toArray, List.set_cons_zero, List.set_cons_succ, i64_w, i32_w]
          rfl
        refine pure_ (i := 44) (N := some 184) (v := ?_) (a' := ?_) #[true, true, true, true, true, true, true, true, true, true, true, true, true, true, true, true, true, true, true, true, true, true, true, true, true, true, true, true, true, true, true, true, true, true, true, true, true, true, true, true, true, true, true, true, true, false, false, false] rfl rfl (by kernel_rfl) (fun _ _ _ h => h) (Or.inl ⟨by rfl, ?_⟩) ?_ ?_
        rotate_left
        · intro w'
          go_simp
          with_reducible rfl
        rotate_left
        · simp only [Act.put, List.setIfInBounds_toArray, List.set_cons_zero, List.set_cons_succ, i64_w, i32_w]
          rfl
        refine one_ (i := 45) (N := some 185) #[true, true, true, true, true, true, true, true, true, true, true, true, true, true, true, true, true, true, true, true, true, true, true, true, true, true, true, true, true, true, true, true, true, true, true, true, true, true, true, true, true, true, true, true, true, true, false, false] rfl rfl (by kernel_rfl) (by decide) (fun K hK => ?_)
        refine goes_ Try.func51 (by kernel_rfl) rfl #[] (by rfl) rfl rfl (by (try simp only [List.map_toArray, List.map_cons, List.map_nil]); first | done | rfl) ?_
        refine (awake4_any _).mono ?_
        rintro e w16 ⟨rfl, hb16⟩
        have HE16 := Lib.hid ((H3.out.kf HK15.out HF15.out).step hb16)
        have HK16 := Lib.hid (HK15.out.below hb16)
        clear hb16
        refine ⟨_, rfl, ?_⟩
        refine hK.out _ _ (⟨HK16.out.cell hy0 hbf, HK16.out.cell hy1 hbf⟩) (fun hHeld => ?_)
        clear hK K
        refine norm_ (a' := ?_) ?_ ?_
        rotate_left
        · show Act.put _ (some 185) _ = _
          simp only [Act.put, List.setIfInBounds_toArray, List.set_cons_zero, List.set_cons_succ, i64_w, i32_w]
          rfl
        refine pure_ (i := 46) (N := some 186) (v := ?_) (a' := ?_) #[true, true, true, true, true, true, true, true, true, true, true, true, true, true, true, true, true, true, true, true, true, true, true, true, true, true, true, true, true, true, true, true, true, true, true, true, true, true, true, true, true, true, true, true, true, true, true, false] rfl rfl (by kernel_rfl) (fun _ _ _ h => h) (Or.inl ⟨by rfl, ?_⟩) ?_ ?_
        rotate_left
        · intro w'
          go_simp
          with_reducible rfl
        rotate_left
        · simp only [Act.put, List.setIfInBounds_toArray, List.set_cons_zero, List.set_cons_succ, i64_w, i32_w]
          rfl
        refine pure_ (i := 47) (N := some 18) (v := ?_) (a' := ?_) #[true, true, true, true, true, true, true, true, true, true, true, true, true, true, true, true, true, true, true, true, true, true, true, true, true, true, true, true, true, true, true, true, true, true, true, true, true, true, true, true, true, true, true, true, true, true, true, true] rfl rfl (by kernel_rfl) (fun _ _ _ h => h) (Or.inl ⟨by rfl, ?_⟩) ?_ ?_
        rotate_left
        · intro w'
          go_simp
          with_reducible rfl
        rotate_left
        · simp only [Act.put, List.setIfInBounds_toArray, List.set_cons_zero, List.set_cons_succ, i64_w, i32_w]
          rfl
        refine done_ (by kernel_rfl) ?_
        go_wp2
        all_goals
          go_ret
          exact ⟨rfl, HE16.out.below⟩
end Go.Proofs.Ytnfodhagfcjfpaa
