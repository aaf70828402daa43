/- code.New: what it makes, and what it refuses. -/
import Derived.Test.YtnfodhagfcjfpaaC1
namespace Go.Proofs.Ytnfodhagfcjfpaa
open Go.RowKit Go.Proofs.YtnfodhagfcjfpaaW.PrintWords Go.Proofs.YtnfodhagfcjfpaaW.PrintLast Go.Proofs.YtnfodhagfcjfpaaW.PrintMore
set_option linter.unusedVariables false
set_option linter.unusedSimpArgs false

/-- a literal row of two slices of bytes -/
theorem LK_pair {w : World} {g : Nat} {t : TypeId} {AX AY : Option Addr} {cX cY : Nat} {X Y : List Int} (hb : w.heap[g]? = some (.cells #[.slice AX X.length cX, .slice AY Y.length cY] t (0, 0)))
    (hX : BK.C w AX X.length X) (hY : BK.C w AY Y.length Y) (h1 : X.length ≤ cX) (h2 : Y.length ≤ cY) : LK.C w (some ⟨g, 0, none⟩) 2 [X, Y] := by
  refine ⟨rfl, by omega, fun _ => ⟨_, rfl, fun j p hj => ?_⟩⟩
  match j, hj with
  | 0, hj =>
    obtain rfl : X = p := by simpa using hj
    refine ⟨[.slice AX X.length cX], rfl, ⟨AX, cX, rfl, h1, hX⟩, fun i u hu => ?_⟩
    match i, hu with
    | 0, hu =>
      obtain rfl : Value.slice AX X.length cX = u := by simpa using hu
      rw [add_plain]
      exact (blk_at hb _).trans (by simp [LK, Kd.slice])
  | 1, hj =>
    obtain rfl : Y = p := by simpa using hj
    refine ⟨[.slice AY Y.length cY], rfl, ⟨AY, cY, rfl, h2, hY⟩, fun i u hu => ?_⟩
    match i, hu with
    | 0, hu =>
      obtain rfl : Value.slice AY Y.length cY = u := by simpa using hu
      rw [add_plain]
      exact (blk_at hb _).trans (by simp [LK, Kd.slice])

theorem Row8_of_R {w : World} {base g n cap : Nat} {ok : Nat → Prop} {l : List Int} (h : BK.R 5 w base ok (.slice (some ⟨g, 0, none⟩) n cap) l) : Row8 w g l.length (fun j => l.getD j 0) := by
  obtain ⟨hl, _⟩ := Kd.R_reads' h
  refine ⟨fun j hj => (Kd.R_celln (d := 0) (enc := Value.int .u8) h (j : Int) (by omega) (by omega)).1, fun j => ?_⟩
  obtain ⟨inner, ho⟩ := Kd.R_own h
  rcases ho.2 with ⟨h', _⟩ | ⟨g', cap', cur, h', _, hb, _⟩
  · cases h'
  · have : g = g' := by injection h' with h'; injection h' with h'; injection h' with h'
    subst this
    exact blk_free hb j

def NewPost (f : Nat) (X Y : List Int) (w : World) (e : Ending) (w' : World) : Prop :=
  ∃ cp, e = .returned (.tuple #[.pointer (some ⟨cp, 0, none⟩), .int .i64 0]) ∧ Below w.heap.size w w' ∧ w.heap.size ≤ cp ∧ CodeIs w' f cp X Y
def NewNone (w : World) (e : Ending) (w' : World) : Prop := e = .returned (.tuple #[.pointer none, .int .i64 1]) ∧ Below w.heap.size w w'

theorem below_of_gb {w w0 w1 : World} {g : Nat} (h : Below w.heap.size w w0) (hg : w0.grownBy w1 (some g)) (hle : w.heap.size ≤ g) : Below w.heap.size w w1 :=
  h.grown hg h.size (fun k hk => by injection hk with hk; omega)

set_option maxRecDepth 100000 in
set_option maxHeartbeats 600000 in
theorem codeNew_any (f : Nat) (AX AY : Option Addr) (cX cY : Nat) (X Y : List Int) (w : World) (hfl : f < w.heap.size)
    (hX : BK.C w AX X.length X) (hY : BK.C w AY Y.length Y) (hcX : X.length ≤ cX) (hcY : Y.length ≤ cY)
    (hx1 : 1 ≤ X.length) (hx2 : X.length ≤ 14) (hy1 : 1 ≤ Y.length) (hy2 : Y.length ≤ 4) :
    Calls Try.prog 49 #[.pointer (some ⟨f, 0, none⟩), .slice AX X.length cX, .slice AY Y.length cY] w fun e w' => ((X ++ Y).Nodup → NewPost f X Y w e w') ∧ (¬ (X ++ Y).Nodup → NewNone w e w') := by
  have b1 : decide ((X.length : Int) < 1) = false := decide_eq_false (by omega)
  have b2 : decide ((14 : Int) < X.length) = false := decide_eq_false (by omega)
  have b3 : decide ((Y.length : Int) < 1) = false := decide_eq_false (by omega)
  have b4 : decide ((4 : Int) < Y.length) = false := decide_eq_false (by omega)
  have HX := Lib.hid hX
  have HY := Lib.hid hY
  have hpair : LK.C (w.alloc (.cells #[.slice AX X.length cX, .slice AY Y.length cY] 22)) (some ⟨w.heap.size, 0, none⟩) [X, Y].length [X, Y] :=
    LK_pair (heap_alloc_new w _) (Kd.C_below hX (below_alloc (Below.refl _ _) _)) (Kd.C_below hY (below_alloc (Below.refl _ _) _)) hcX hcY
  have hfl2 : [X, Y].flatten = X ++ Y := by simp
  have HP := Lib.hid hpair
  have HFL := Lib.hid hfl2
  clear hX hY hpair hfl2
  go_enter Try.func49, Try.ntmps49
  go_wp2_with (go_at_call 97; refine (concatB_any (some ⟨w.heap.size, 0, none⟩) 2 [X, Y] _ HP.out (by rw [HFL.out, List.length_append]; unfold big; omega)).mono ?_; rintro e w1 ⟨v, rfl, hv, hb1⟩)
  rw [HFL.out] at hv
  have hlen : (X ++ Y).length = X.length + Y.length := List.length_append
  have HL := Lib.hid hlen
  obtain ⟨L, hL⟩ : ∃ L, L = X ++ Y := ⟨_, rfl⟩
  rw [← hL] at hv hlen
  have HLL := Lib.hid hL
  obtain ⟨g, cap, rfl, hg1, hg2, _⟩ := Kd.R_form hv (by omega)
  have hrow := Row8_of_R hv
  have hcap : L.length ≤ cap ∧ cap ≤ 9223372036854775807 := by
    obtain ⟨inner, ho⟩ := Kd.R_own hv
    rcases ho.2 with ⟨h', _⟩ | ⟨g', cap', cur, h', _, _, hnc, hcm, _⟩
    · cases h'
    · injection h' with _ _ h'
      subst h'
      exact ⟨hnc, by simpa [maxLen] using hcm⟩
  have hb1' : Below w.heap.size w w1 := ((Below.refl _ w).alloc (Nat.le_refl _) _).trans (hb1.mono (by simp))
  have hgw : w.heap.size ≤ g := by simp at hg1; omega
  have HB1 := Lib.hid hb1'
  have HROW := Lib.hid hrow
  have hl18 : L.length ≤ 18 := by omega
  have HLEN := Lib.hid hlen
  clear hL hv hb1 hb1' hrow hg1 hlen
  go_wp2_with (go_at_call 98; refine (sortB_any g cap L _ HROW.out hg2 (by unfold big; omega)).mono ?_; rintro e w2 ⟨rfl, hgb2, hrow2⟩)
  have HB2 := Lib.hid (below_of_gb HB1.out hgb2 hgw)
  have HROW2 := Lib.hid hrow2
  clear hgb2 hrow2
  go_wp2_with (go_at_call 99; refine (compactB_any g L.length cap _ _ HROW2.out (by unfold big; omega) hcap.1 hcap.2).mono ?_; rintro e w3 ⟨A', n', c', rfl, hgb3, hn'⟩)
  · have hneq : ((n' : Int) != (X.length : Int) + (Y.length : Int)) = true := by assumption
    have hnn : ¬ n' = L.length := fun h => by
      have := HLEN.out
      rw [bne_iff_ne] at hneq
      omega
    have hN : n' = L.length ↔ L.Nodup := hn'.trans (neigh_nodup L)
    go_ret2
    exact ⟨fun h => absurd (hN.2 (by rw [HLL.out]; exact h)) hnn, fun _ => ⟨rfl, below_of_gb HB2.out hgb3 hgw⟩⟩
  · have hneq : ((n' : Int) != (X.length : Int) + (Y.length : Int)) = false := by assumption
    have hnn : n' = L.length := by
      have := HLEN.out
      have h2 : ¬ ((n' : Int) ≠ (X.length : Int) + (Y.length : Int)) := fun h => by rw [bne_iff_ne.2 h] at hneq; cases hneq
      omega
    have hN : n' = L.length ↔ L.Nodup := hn'.trans (neigh_nodup L)
    have HD := Lib.hid (hN.1 hnn)
    have HB3 := Lib.hid (below_of_gb HB2.out hgb3 hgw)
    clear hN hnn hneq hgb3 hn'
    go_wp2_with (first | (go_at_call_of 83 (Value.slice AX X.length cX); refine (cloneB_any AX cX X _ (Kd.C_below HX.out HB3.out) (by unfold big; omega)).mono ?_; rintro e w4 ⟨v4, rfl, hv4, hb4, _, _⟩))
    have HB4 := Lib.hid (below_step HB3.out hb4)
    have HV4 := Lib.hid hv4
    clear hb4 hv4
    refine (cloneB_any AY cY Y _ (Kd.C_below HY.out HB4.out) (by unfold big; omega)).mono ?_
    rintro e w5 ⟨v5, rfl, hv5, hb5, _, _⟩
    have HV4' := Lib.hid (Kd.R_below HV4.out hb5)
    have HB5 := Lib.hid (below_step HB4.out hb5)
    have HV5 := Lib.hid hv5
    have h45 := hb5.size
    clear hb5 hv5
    obtain ⟨A4, c4, rfl, hl4, _⟩ := Kd.R_reads HV4'.out
    obtain ⟨A5, c5, rfl, hl5, _⟩ := Kd.R_reads HV5.out
    go_wp2
    go_ret2
    refine ⟨fun _ => ?_, fun h => absurd (by rw [← HLL.out]; exact HD.out) h⟩
    have hw3 := HB3.out.size
    have hw4 := HB4.out.size
    have hw5 := HB5.out.size
    refine ⟨w5.heap.size, rfl, HB5.out.alloc HB5.out.size _, hw5, A4, c4, A5, c5, heap_alloc_new w5 _, by omega, hl4, hl5, ?_, ?_⟩
    · exact Kd.F_alloc (Kd.F_mono (Kd.R_F (Kd.R_bound HV4'.out)) (fun k hk => by have := hk.2.1; simp only [ne_eq]; omega)) _
    · exact Kd.F_alloc (Kd.F_mono (Kd.R_F (Kd.R_bound HV5.out)) (fun k hk => by have := hk.2.1; simp only [ne_eq]; omega)) _

set_option maxRecDepth 100000 in
set_option maxHeartbeats 2000000 in
theorem codeNew_nil (AX AY : Option Addr) (nX nY cX cY : Nat) (w : World) :
    Calls Try.prog 49 #[.pointer none, .slice AX nX cX, .slice AY nY cY] w fun e w' => e = .returned (.tuple #[.pointer none, .int .i64 1]) ∧ w = w' := by
  go_enter Try.func49, Try.ntmps49
  go_wp2
  go_ret2
  exact ⟨rfl, rfl⟩

set_option maxRecDepth 100000 in
set_option maxHeartbeats 2000000 in
theorem codeNew_size (f : Nat) (AX AY : Option Addr) (nX nY cX cY : Nat) (w : World) (hb : nX < 1 ∨ 14 < nX ∨ nY < 1 ∨ 4 < nY) :
    Calls Try.prog 49 #[.pointer (some ⟨f, 0, none⟩), .slice AX nX cX, .slice AY nY cY] w fun e w' => e = .returned (.tuple #[.pointer none, .int .i64 1]) ∧ w = w' := by
  by_cases h1 : nX < 1
  · have b1 : decide ((nX : Int) < 1) = true := decide_eq_true (by omega)
    clear hb
    go_enter Try.func49, Try.ntmps49
    go_wp2
    go_ret2
    exact ⟨rfl, rfl⟩
  have b1 : decide ((nX : Int) < 1) = false := decide_eq_false (by omega)
  by_cases h2 : 14 < nX
  · have b2 : decide ((14 : Int) < nX) = true := decide_eq_true (by omega)
    clear hb
    go_enter Try.func49, Try.ntmps49
    go_wp2
    go_ret2
    exact ⟨rfl, rfl⟩
  have b2 : decide ((14 : Int) < nX) = false := decide_eq_false (by omega)
  by_cases h3 : nY < 1
  · have b3 : decide ((nY : Int) < 1) = true := decide_eq_true (by omega)
    clear hb
    go_enter Try.func49, Try.ntmps49
    go_wp2
    go_ret2
    exact ⟨rfl, rfl⟩
  have b3 : decide ((nY : Int) < 1) = false := decide_eq_false (by omega)
  have b4 : decide ((4 : Int) < nY) = true := decide_eq_true (by omega)
  clear hb
  go_enter Try.func49, Try.ntmps49
  go_wp2
  go_ret2
  exact ⟨rfl, rfl⟩
end Go.Proofs.Ytnfodhagfcjfpaa
