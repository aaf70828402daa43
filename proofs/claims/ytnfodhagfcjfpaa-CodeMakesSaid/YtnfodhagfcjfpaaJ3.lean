/- J3: C1, C2, C3, V1, V2, V3, Pob, La, Lb, Lc, Ld, C4, C5, V4, one behind the other. -/
import Derived.Test.YtnfodhagfcjfpaaJ1
import Derived.Test.YtnfodhagfcjfpaaJ2e
import Derived.StillTailTactics
import Derived.Deep.RegionWith
import Derived.Deep.RegionHeld3
import Derived.Below
import Derived.ChangeSame
import Derived.RowKit3
/- code.New: what it makes, and what it refuses. -/
namespace Go.Proofs.Ytnfodhagfcjfpaa
open Go.RowKit Go.Proofs.YtnfodhagfcjfpaaW.PrintWords Go.Proofs.YtnfodhagfcjfpaaW.PrintLast Go.Proofs.YtnfodhagfcjfpaaW.PrintMore
set_option linter.unusedVariables false
set_option linter.unusedSimpArgs false

theorem neigh_nodup (L : List Int) : Neigh (fun j => (L.mergeSort fun x y => decide (x ≤ y)).getD j 0) L.length ↔ L.Nodup := by
  have hp := List.mergeSort_perm L (fun x y => decide (x ≤ y))
  have hs := List.pairwise_mergeSort (le := fun x y : Int => decide (x ≤ y)) (fun a b c h1 h2 => by simp at h1 h2 ⊢; omega) (fun a b => by simp; omega) L
  generalize hS : (L.mergeSort fun x y => decide (x ≤ y)) = S at hp hs
  rw [← hp.nodup_iff, ← hp.length_eq]
  have hle : ∀ i j (hi : i < S.length) (hj : j < S.length), i < j → S[i] ≤ S[j] := fun i j hi hj hij => by
    have := List.pairwise_iff_getElem.1 hs i j hi hj hij
    simpa using this
  constructor
  · intro hN
    rw [List.Nodup, List.pairwise_iff_getElem]
    intro i j hi hj hij
    have h1 := hN i (by omega)
    simp only at h1
    rw [getD_lt _ _ _ hi, getD_lt _ _ _ (by omega)] at h1
    have h2 := hle i (i + 1) hi (by omega) (by omega)
    have h3 : S[i + 1] ≤ S[j] := by
      by_cases e : i + 1 = j
      · subst e; exact Int.le_refl _
      · exact hle (i + 1) j (by omega) hj (by omega)
    omega
  · intro hN j hj
    simp only
    rw [getD_lt _ _ _ (by omega), getD_lt _ _ _ hj]
    exact List.pairwise_iff_getElem.1 hN j (j + 1) (by omega) hj (by omega)

def sorted (L : List Int) : List Int := L.mergeSort fun x y => decide (x ≤ y)
theorem sorted_length (L : List Int) : (sorted L).length = L.length := (List.mergeSort_perm L _).length_eq

def SortPost (g : Nat) (L : List Int) (w : World) (e : Ending) (w' : World) : Prop := e = .returned (.tuple #[]) ∧ w.grownBy w' (some g) ∧ Row8 w' g L.length (fun j => (sorted L).getD j 0)

theorem sortB_any (g cap : Nat) (L : List Int) (w : World) (hrow : Row8 w g L.length (fun j => L.getD j 0)) (hg : g < w.heap.size) (hn : L.length ≤ big) :
    Calls Try.prog 98 #[.slice (some ⟨g, 0, none⟩) L.length cap] w (SortPost g L w) := by
  have hH : Go.Sort.Holds (Value.int .u8) w g 0 L.toArray := by
    intro j hj
    have hj' : j < L.length := by simpa using hj
    refine ⟨?_, hrow.free _⟩
    rw [Nat.zero_add, hrow.cell j hj']
    simp [getD_lt L j 0 hj', hj']
  refine (SB.slices_Sort_int g 0 cap L w hH hg (by unfold big at hn; omega)).mono ?_
  rintro e w' ⟨rfl, n, os, rfl⟩
  have hH1 := Go.Sort.holds_putRow (Value.int .u8) (Go.Sort.ahead w n) g 0 L.toArray (sorted L).toArray (Go.Sort.holds_ahead _ _ _ _ _ _ hH) (by simp [sorted_length])
  have hg1 : g < (Go.Sort.putRow (Value.int .u8) (Go.Sort.ahead w n) g 0 (sorted L).toArray).heap.size := by simpa [Go.Sort.putRow, Go.Sort.mapBlock, Go.Sort.ahead] using hg
  have hH2 := Go.Sort.holds_grow (Value.int .u8) _ os g 0 _ hg1 hH1
  refine ⟨rfl, ⟨rfl, rfl, rfl, ?_, fun i hi hne => ?_⟩, ⟨fun j hj => ?_, fun j => ?_⟩⟩
  · simp [Go.Sort.grow, Go.Sort.putRow, Go.Sort.mapBlock, Go.Sort.ahead]
  · have hi2 : i < (Go.Sort.putRow (Value.int .u8) (Go.Sort.ahead w n) g 0 (sorted L).toArray).heap.size := by simpa [Go.Sort.putRow, Go.Sort.mapBlock, Go.Sort.ahead] using hi
    refine (Go.Sort.heap_grow_old _ os hi2).trans ?_
    have hgi : g ≠ i := fun e => hne (by rw [e])
    simp [Go.Sort.putRow, Go.Sort.mapBlock, Go.Sort.ahead, Array.getElem?_modify, hgi]
  · have h := (hH2 j (by simpa [sorted_length] using hj)).1
    rw [Nat.zero_add] at h
    have hjs : j < (sorted L).length := by rw [sorted_length]; exact hj
    refine Eq.trans h ?_
    simp [getD_lt _ j 0 hjs, hjs]
  · rw [Go.Sort.frozen?_grow _ _ _ hg1]
    unfold Go.Sort.putRow
    rw [Go.Sort.frozen?_mapBlock]
    exact hrow.free j

/-- At cp lies a code over the field f: of X and Y. -/
def CodeIs (w : World) (f cp : Nat) (X Y : List Int) : Prop :=
  ∃ AX cX AY cY, w.heap[cp]? = some (.cells #[.pointer (some ⟨f, 0, none⟩), .slice AX X.length cX, .slice AY Y.length cY] 155 (0, 0)) ∧ cp ≠ f ∧ X.length ≤ cX ∧ Y.length ≤ cY ∧
    Kd.F BK w (· ≠ f) AX X.length X ∧ Kd.F BK w (· ≠ f) AY Y.length Y

theorem CodeIs.keep {w w1 : World} {f cp : Nat} {X Y : List Int} (h : CodeIs w f cp X Y) (hk : Kf f w w1) : CodeIs w1 f cp X Y := by
  obtain ⟨AX, cX, AY, cY, hb, hne, h1, h2, hX, hY⟩ := h
  exact ⟨AX, cX, AY, cY, hk.heap hb hne, hne, h1, h2, Kd.F_grown hX hk (fun k hk e => hk (Option.some.inj e)), Kd.F_grown hY hk (fun k hk e => hk (Option.some.inj e))⟩
end Go.Proofs.Ytnfodhagfcjfpaa

/- code.New: what it makes, and what it refuses. -/
namespace Go.Proofs.Ytnfodhagfcjfpaa
open Go.RowKit Go.Proofs.YtnfodhagfcjfpaaW.PrintWords Go.Proofs.YtnfodhagfcjfpaaW.PrintLast Go.Proofs.YtnfodhagfcjfpaaW.PrintMore
set_option linter.unusedVariables false
set_option linter.unusedSimpArgs false

/-- a literal row of two slices of bytes -/
theorem LK_pair {w : World} {g : Nat} {t : TypeId} {AX AY : Option Addr} {cX cY : Nat} {X Y : List Int} (hb : w.heap[g]? = some (.cells #[.slice AX X.length cX, .slice AY Y.length cY] t (0, 0)))
    (hX : BK.C w AX X.length X) (hY : BK.C w AY Y.length Y) (h1 : X.length ≤ cX) (h2 : Y.length ≤ cY) : LK.C w (some ⟨g, 0, none⟩) 2 [X, Y] := by
  refine ⟨rfl, by omega, fun _ => ⟨_, rfl, fun j p hj => ?_⟩⟩
  match j, hj with
  | 0, hj =>
    obtain rfl : X = p := by simpa using hj
    refine ⟨[.slice AX X.length cX], rfl, ⟨AX, cX, rfl, h1, hX⟩, fun i u hu => ?_⟩
    match i, hu with
    | 0, hu =>
      obtain rfl : Value.slice AX X.length cX = u := by simpa using hu
      rw [add_plain]
      exact (blk_at hb _).trans (by simp [LK, Kd.slice])
  | 1, hj =>
    obtain rfl : Y = p := by simpa using hj
    refine ⟨[.slice AY Y.length cY], rfl, ⟨AY, cY, rfl, h2, hY⟩, fun i u hu => ?_⟩
    match i, hu with
    | 0, hu =>
      obtain rfl : Value.slice AY Y.length cY = u := by simpa using hu
      rw [add_plain]
      exact (blk_at hb _).trans (by simp [LK, Kd.slice])

theorem Row8_of_R {w : World} {base g n cap : Nat} {ok : Nat → Prop} {l : List Int} (h : BK.R 5 w base ok (.slice (some ⟨g, 0, none⟩) n cap) l) : Row8 w g l.length (fun j => l.getD j 0) := by
  obtain ⟨hl, _⟩ := Kd.R_reads' h
  refine ⟨fun j hj => (Kd.R_celln (d := 0) (enc := Value.int .u8) h (j : Int) (by omega) (by omega)).1, fun j => ?_⟩
  obtain ⟨inner, ho⟩ := Kd.R_own h
  rcases ho.2 with ⟨h', _⟩ | ⟨g', cap', cur, h', _, hb, _⟩
  · cases h'
  · have : g = g' := by injection h' with h'; injection h' with h'; injection h' with h'
    subst this
    exact blk_free hb j

def NewPost (f : Nat) (X Y : List Int) (w : World) (e : Ending) (w' : World) : Prop :=
  ∃ cp, e = .returned (.tuple #[.pointer (some ⟨cp, 0, none⟩), .int .i64 0]) ∧ Below w.heap.size w w' ∧ w.heap.size ≤ cp ∧ CodeIs w' f cp X Y
def NewNone (w : World) (e : Ending) (w' : World) : Prop := e = .returned (.tuple #[.pointer none, .int .i64 1]) ∧ Below w.heap.size w w'

theorem below_of_gb {w w0 w1 : World} {g : Nat} (h : Below w.heap.size w w0) (hg : w0.grownBy w1 (some g)) (hle : w.heap.size ≤ g) : Below w.heap.size w w1 :=
  h.grown hg h.size (fun k hk => by injection hk with hk; omega)

set_option maxRecDepth 100000 in
set_option maxHeartbeats 600000 in
theorem codeNew_any (f : Nat) (AX AY : Option Addr) (cX cY : Nat) (X Y : List Int) (w : World) (hfl : f < w.heap.size)
    (hX : BK.C w AX X.length X) (hY : BK.C w AY Y.length Y) (hcX : X.length ≤ cX) (hcY : Y.length ≤ cY)
    (hx1 : 1 ≤ X.length) (hx2 : X.length ≤ 14) (hy1 : 1 ≤ Y.length) (hy2 : Y.length ≤ 4) :
    Calls Try.prog 49 #[.pointer (some ⟨f, 0, none⟩), .slice AX X.length cX, .slice AY Y.length cY] w fun e w' => ((X ++ Y).Nodup → NewPost f X Y w e w') ∧ (¬ (X ++ Y).Nodup → NewNone w e w') := by
  have b1 : decide ((X.length : Int) < 1) = false := decide_eq_false (by omega)
  have b2 : decide ((14 : Int) < X.length) = false := decide_eq_false (by omega)
  have b3 : decide ((Y.length : Int) < 1) = false := decide_eq_false (by omega)
  have b4 : decide ((4 : Int) < Y.length) = false := decide_eq_false (by omega)
  have HX := Lib.hid hX
  have HY := Lib.hid hY
  have hpair : LK.C (w.alloc (.cells #[.slice AX X.length cX, .slice AY Y.length cY] 22)) (some ⟨w.heap.size, 0, none⟩) [X, Y].length [X, Y] :=
    LK_pair (heap_alloc_new w _) (Kd.C_below hX (below_alloc (Below.refl _ _) _)) (Kd.C_below hY (below_alloc (Below.refl _ _) _)) hcX hcY
  have hfl2 : [X, Y].flatten = X ++ Y := by simp
  have HP := Lib.hid hpair
  have HFL := Lib.hid hfl2
  clear hX hY hpair hfl2
  go_enter Try.func49, Try.ntmps49
  go_wp2_with (go_at_call 97; refine (concatB_any (some ⟨w.heap.size, 0, none⟩) 2 [X, Y] _ HP.out (by rw [HFL.out, List.length_append]; unfold big; omega)).mono ?_; rintro e w1 ⟨v, rfl, hv, hb1⟩)
  rw [HFL.out] at hv
  have hlen : (X ++ Y).length = X.length + Y.length := List.length_append
  have HL := Lib.hid hlen
  obtain ⟨L, hL⟩ : ∃ L, L = X ++ Y := ⟨_, rfl⟩
  rw [← hL] at hv hlen
  have HLL := Lib.hid hL
  obtain ⟨g, cap, rfl, hg1, hg2, _⟩ := Kd.R_form hv (by omega)
  have hrow := Row8_of_R hv
  have hcap : L.length ≤ cap ∧ cap ≤ 9223372036854775807 := by
    obtain ⟨inner, ho⟩ := Kd.R_own hv
    rcases ho.2 with ⟨h', _⟩ | ⟨g', cap', cur, h', _, _, hnc, hcm, _⟩
    · cases h'
    · injection h' with _ _ h'
      subst h'
      exact ⟨hnc, by simpa [maxLen] using hcm⟩
  have hb1' : Below w.heap.size w w1 := ((Below.refl _ w).alloc (Nat.le_refl _) _).trans (hb1.mono (by simp))
  have hgw : w.heap.size ≤ g := by simp at hg1; omega
  have HB1 := Lib.hid hb1'
  have HROW := Lib.hid hrow
  have hl18 : L.length ≤ 18 := by omega
  have HLEN := Lib.hid hlen
  clear hL hv hb1 hb1' hrow hg1 hlen
  go_wp2_with (go_at_call 98; refine (sortB_any g cap L _ HROW.out hg2 (by unfold big; omega)).mono ?_; rintro e w2 ⟨rfl, hgb2, hrow2⟩)
  have HB2 := Lib.hid (below_of_gb HB1.out hgb2 hgw)
  have HROW2 := Lib.hid hrow2
  clear hgb2 hrow2
  go_wp2_with (go_at_call 99; refine (compactB_any g L.length cap _ _ HROW2.out (by unfold big; omega) hcap.1 hcap.2).mono ?_; rintro e w3 ⟨A', n', c', rfl, hgb3, hn'⟩)
  · have hneq : ((n' : Int) != (X.length : Int) + (Y.length : Int)) = true := by assumption
    have hnn : ¬ n' = L.length := fun h => by
      have := HLEN.out
      rw [bne_iff_ne] at hneq
      omega
    have hN : n' = L.length ↔ L.Nodup := hn'.trans (neigh_nodup L)
    go_ret2
    exact ⟨fun h => absurd (hN.2 (by rw [HLL.out]; exact h)) hnn, fun _ => ⟨rfl, below_of_gb HB2.out hgb3 hgw⟩⟩
  · have hneq : ((n' : Int) != (X.length : Int) + (Y.length : Int)) = false := by assumption
    have hnn : n' = L.length := by
      have := HLEN.out
      have h2 : ¬ ((n' : Int) ≠ (X.length : Int) + (Y.length : Int)) := fun h => by rw [bne_iff_ne.2 h] at hneq; cases hneq
      omega
    have hN : n' = L.length ↔ L.Nodup := hn'.trans (neigh_nodup L)
    have HD := Lib.hid (hN.1 hnn)
    have HB3 := Lib.hid (below_of_gb HB2.out hgb3 hgw)
    clear hN hnn hneq hgb3 hn'
    go_wp2_with (first | (go_at_call_of 83 (Value.slice AX X.length cX); refine (cloneB_any AX cX X _ (Kd.C_below HX.out HB3.out) (by unfold big; omega)).mono ?_; rintro e w4 ⟨v4, rfl, hv4, hb4, _, _⟩))
    have HB4 := Lib.hid (below_step HB3.out hb4)
    have HV4 := Lib.hid hv4
    clear hb4 hv4
    refine (cloneB_any AY cY Y _ (Kd.C_below HY.out HB4.out) (by unfold big; omega)).mono ?_
    rintro e w5 ⟨v5, rfl, hv5, hb5, _, _⟩
    have HV4' := Lib.hid (Kd.R_below HV4.out hb5)
    have HB5 := Lib.hid (below_step HB4.out hb5)
    have HV5 := Lib.hid hv5
    have h45 := hb5.size
    clear hb5 hv5
    obtain ⟨A4, c4, rfl, hl4, _⟩ := Kd.R_reads HV4'.out
    obtain ⟨A5, c5, rfl, hl5, _⟩ := Kd.R_reads HV5.out
    go_wp2
    go_ret2
    refine ⟨fun _ => ?_, fun h => absurd (by rw [← HLL.out]; exact HD.out) h⟩
    have hw3 := HB3.out.size
    have hw4 := HB4.out.size
    have hw5 := HB5.out.size
    refine ⟨w5.heap.size, rfl, HB5.out.alloc HB5.out.size _, hw5, A4, c4, A5, c5, heap_alloc_new w5 _, by omega, hl4, hl5, ?_, ?_⟩
    · exact Kd.F_alloc (Kd.F_mono (Kd.R_F (Kd.R_bound HV4'.out)) (fun k hk => by have := hk.2.1; simp only [ne_eq]; omega)) _
    · exact Kd.F_alloc (Kd.F_mono (Kd.R_F (Kd.R_bound HV5.out)) (fun k hk => by have := hk.2.1; simp only [ne_eq]; omega)) _

set_option maxRecDepth 100000 in
set_option maxHeartbeats 2000000 in
theorem codeNew_nil (AX AY : Option Addr) (nX nY cX cY : Nat) (w : World) :
    Calls Try.prog 49 #[.pointer none, .slice AX nX cX, .slice AY nY cY] w fun e w' => e = .returned (.tuple #[.pointer none, .int .i64 1]) ∧ w = w' := by
  go_enter Try.func49, Try.ntmps49
  go_wp2
  go_ret2
  exact ⟨rfl, rfl⟩

set_option maxRecDepth 100000 in
set_option maxHeartbeats 2000000 in
theorem codeNew_size (f : Nat) (AX AY : Option Addr) (nX nY cX cY : Nat) (w : World) (hb : nX < 1 ∨ 14 < nX ∨ nY < 1 ∨ 4 < nY) :
    Calls Try.prog 49 #[.pointer (some ⟨f, 0, none⟩), .slice AX nX cX, .slice AY nY cY] w fun e w' => e = .returned (.tuple #[.pointer none, .int .i64 1]) ∧ w = w' := by
  by_cases h1 : nX < 1
  · have b1 : decide ((nX : Int) < 1) = true := decide_eq_true (by omega)
    clear hb
    go_enter Try.func49, Try.ntmps49
    go_wp2
    go_ret2
    exact ⟨rfl, rfl⟩
  have b1 : decide ((nX : Int) < 1) = false := decide_eq_false (by omega)
  by_cases h2 : 14 < nX
  · have b2 : decide ((14 : Int) < nX) = true := decide_eq_true (by omega)
    clear hb
    go_enter Try.func49, Try.ntmps49
    go_wp2
    go_ret2
    exact ⟨rfl, rfl⟩
  have b2 : decide ((14 : Int) < nX) = false := decide_eq_false (by omega)
  by_cases h3 : nY < 1
  · have b3 : decide ((nY : Int) < 1) = true := decide_eq_true (by omega)
    clear hb
    go_enter Try.func49, Try.ntmps49
    go_wp2
    go_ret2
    exact ⟨rfl, rfl⟩
  have b3 : decide ((nY : Int) < 1) = false := decide_eq_false (by omega)
  have b4 : decide ((4 : Int) < nY) = true := decide_eq_true (by omega)
  clear hb
  go_enter Try.func49, Try.ntmps49
  go_wp2
  go_ret2
  exact ⟨rfl, rfl⟩
end Go.Proofs.Ytnfodhagfcjfpaa

/- (*Code).Size and (*Code).Coef. -/
namespace Go.Proofs.Ytnfodhagfcjfpaa
open Go.RowKit Go.Proofs.YtnfodhagfcjfpaaW.PrintWords Go.Proofs.YtnfodhagfcjfpaaW.PrintLast Go.Proofs.YtnfodhagfcjfpaaW.PrintMore
set_option linter.unusedVariables false
set_option linter.unusedSimpArgs false

/-- bytes as the model's numbers -/
def by8 (l : List UInt8) : List Int := l.map fun b => (b.toNat : Int)
theorem by8_length (l : List UInt8) : (by8 l).length = l.length := by simp [by8]
theorem by8_getD (l : List UInt8) (j : Nat) : (by8 l).getD j 0 = ((l.getD j 0).toNat : Int) := by
  unfold by8
  by_cases h : j < l.length
  · simp [List.getD_eq_getElem?_getD, h]
  · simp [List.getD_eq_getElem?_getD, List.getElem?_eq_none (by omega : l.length ≤ j)]
theorem by8_append (a b : List UInt8) : by8 (a ++ b) = by8 a ++ by8 b := by simp [by8]
theorem bxor (a b : UInt8) : Go.bits BinOp.xor IntKind.u8 (a.toNat : Int) (b.toNat : Int) = ((a ^^^ b).toNat : Int) := by
  rw [u8_xor_nat _ _ a.toNat_lt b.toNat_lt, UInt8.toNat_xor]

def CodeU (w : World) (f cp : Nat) (xs ys : List UInt8) : Prop := CodeIs w f cp (by8 xs) (by8 ys)

theorem CodeU.keep {w w1 : World} {f cp : Nat} {xs ys : List UInt8} (h : CodeU w f cp xs ys) (hk : Kf f w w1) : CodeU w1 f cp xs ys := CodeIs.keep h hk

/-- what the walk reads of a code -/
theorem CodeU.open_ {w : World} {f cp : Nat} {xs ys : List UInt8} (h : CodeU w f cp xs ys) :
    ∃ AX cX AY cY, w.cell? ⟨cp, 0, none⟩ = some (.pointer (some ⟨f, 0, none⟩)) ∧ w.cell? ⟨cp, 1, none⟩ = some (.slice AX xs.length cX) ∧ w.cell? ⟨cp, 2, none⟩ = some (.slice AY ys.length cY) ∧
      Kd.F BK w (· ≠ f) AX xs.length (by8 xs) ∧ Kd.F BK w (· ≠ f) AY ys.length (by8 ys) ∧ cp ≠ f := by
  obtain ⟨AX, cX, AY, cY, hb, hne, _, _, hX, hY⟩ := h
  rw [by8_length, by8_length] at *
  exact ⟨AX, cX, AY, cY, (blk_at hb 0).trans rfl, (blk_at hb 1).trans rfl, (blk_at hb 2).trans rfl, hX, hY, hne⟩

theorem size_any (f cp : Nat) (xs ys : List UInt8) (w : World) (h : CodeU w f cp xs ys) :
    Calls Try.prog 53 #[.pointer (some ⟨cp, 0, none⟩)] w fun e w' => e = .returned (.tuple #[.int .i64 (xs.length : Int), .int .i64 (ys.length : Int)]) ∧ ∃ n, w.drewN n = w' := by
  obtain ⟨AX, cX, AY, cY, h0, h1, h2, _, _, _⟩ := h.open_
  go_enter Try.func53, Try.ntmps53
  go_wp2
  go_quiet (fail)
  go_wp2
  go_ret2
  exact ⟨rfl, _, rfl⟩

theorem inv_xor (f : Nat) (y x : UInt8) (w : World) (hf : Fld w f) :
    Calls Try.prog 78 #[.pointer (some ⟨f, 0, none⟩), .int .u8 ((y.toNat ^^^ x.toNat : Nat) : Int)] w fun e w' => MulPost f w (.tuple #[.int .u8 ((Hyp.inv (y ^^^ x)).toNat : Int), .bool (decide (y ^^^ x ≠ 0))]) e w' := by
  have := inv_any f (y ^^^ x) w hf
  rwa [UInt8.toNat_xor] at this

def coef (xs ys : List UInt8) (j i : Nat) : UInt8 := Hyp.inv (ys.getD j 0 ^^^ xs.getD i 0)

set_option maxRecDepth 100000 in
set_option maxHeartbeats 2000000 in
theorem coef_in (f cp : Nat) (xs ys : List UInt8) (j i : Nat) (hj : j < ys.length) (hi : i < xs.length) (w : World) (hl : ys.length ≤ 255 ∧ xs.length ≤ 255) (h : CodeU w f cp xs ys) (hf : Fld w f) :
    Calls Try.prog 26 #[.pointer (some ⟨cp, 0, none⟩), .int .i64 (j : Int), .int .i64 (i : Int)] w (MulPost f w (.int .u8 ((coef xs ys j i).toNat : Int))) := by
  obtain ⟨AX, cX, AY, cY, h0, h1, h2, hX, hY, hcf⟩ := h.open_
  obtain ⟨ax, rfl, hx⟩ := BK_at (Kd.F_now hX) i hi
  obtain ⟨ay, rfl, hy⟩ := BK_at (Kd.F_now hY) j hj
  have nx : ax.block ≠ f := Kd.F_in hX rfl (by omega) (by decide)
  have ny : ay.block ≠ f := Kd.F_in hY rfl (by omega) (by decide)
  have hkeep : ∀ w1, Kf f w w1 → w1.cell? ⟨cp, 0, none⟩ = some (.pointer (some ⟨f, 0, none⟩)) ∧ w1.cell? ⟨cp, 1, none⟩ = some (.slice (some ax) xs.length cX) ∧ w1.cell? ⟨cp, 2, none⟩ = some (.slice (some ay) ys.length cY) ∧
      w1.cell? (ax.add i) = some (.int .u8 ((by8 xs).getD i 0)) ∧ w1.cell? (ay.add j) = some (.int .u8 ((by8 ys).getD j 0)) := fun w1 hk =>
    ⟨hk.cell h0 hcf, hk.cell h1 hcf, hk.cell h2 hcf, hk.cell hx (by rw [add_block]; exact nx), hk.cell hy (by rw [add_block]; exact ny)⟩
  simp only [by8_getD] at hx hy hkeep
  obtain ⟨x, hxe⟩ : ∃ x, x = xs.getD i 0 := ⟨_, rfl⟩
  obtain ⟨y, hye⟩ : ∃ y, y = ys.getD j 0 := ⟨_, rfl⟩
  rw [← hxe] at hx hkeep
  rw [← hye] at hy hkeep
  have HKEEP := Lib.hid hkeep
  clear hkeep
  have hc : coef xs ys j i = Hyp.inv (y ^^^ x) := by rw [hxe, hye]; rfl
  have HC := Lib.hid hc
  have hbx := bxor y x
  have b1 : decide ((j : Int) < 0) = false := decide_eq_false (by omega)
  have b2 : decide (ys.length ≤ j) = false := decide_eq_false (by omega)
  have b3 : decide ((i : Int) < 0) = false := decide_eq_false (by omega)
  have b4 : decide (xs.length ≤ i) = false := decide_eq_false (by omega)
  have HF := Lib.hid hf
  clear hX hY hxe hye hc hf
  go_enter Try.func26, Try.ntmps26
  go_wp2
  go_region_held3 (fun w' => w'.cell? ⟨cp, 0, none⟩ = some (.pointer (some ⟨f, 0, none⟩)) ∧ w'.cell? ⟨cp, 1, none⟩ = some (.slice (some ax) xs.length cX) ∧ w'.cell? ⟨cp, 2, none⟩ = some (.slice (some ay) ys.length cY) ∧ w'.cell? (ax.add i) = some (.int .u8 (x.toNat : Int)) ∧ w'.cell? (ay.add j) = some (.int .u8 (y.toNat : Int))) (first | exact HKEEP.out _ (Kf.refl f w) | exact HKEEP.out _ ((Kf.refl f w).drew) | (refine HKEEP.out _ (((Kf.refl f w).drew).trans ?_); assumption)) (first | (go_at_call 78; refine (inv_xor f y x _ (show Fld w.drew f from HF.out)).mono ?_; rintro e w1 ⟨rfl, hk1, hf1⟩))
  go_wp2
  go_ret
  refine ⟨?_, ((Kf.refl f w).drew).trans hk1, hf1⟩
  rw [HC.out]
  rfl

set_option maxRecDepth 100000 in
set_option maxHeartbeats 2000000 in
theorem coef_out (f cp : Nat) (xs ys : List UInt8) (j i : Int) (hb : j < 0 ∨ (ys.length : Int) ≤ j ∨ i < 0 ∨ (xs.length : Int) ≤ i) (w : World) (h : CodeU w f cp xs ys) :
    Calls Try.prog 26 #[.pointer (some ⟨cp, 0, none⟩), .int .i64 j, .int .i64 i] w fun e w' => e = .returned (.int .u8 0) ∧ w = w' := by
  obtain ⟨AX, cX, AY, cY, h0, h1, h2, hX, hY, hcf⟩ := h.open_
  clear hX hY
  by_cases c1 : j < 0
  · have b1 : decide (j < 0) = true := decide_eq_true c1
    clear hb
    go_enter Try.func26, Try.ntmps26
    go_wp2
    go_ret
    exact ⟨rfl, rfl⟩
  have b1 : decide (j < 0) = false := decide_eq_false c1
  by_cases c2 : (ys.length : Int) ≤ j
  · have b2 : decide ((ys.length : Int) ≤ j) = true := decide_eq_true c2
    clear hb
    go_enter Try.func26, Try.ntmps26
    go_wp2
    go_ret
    exact ⟨rfl, rfl⟩
  have b2 : decide ((ys.length : Int) ≤ j) = false := decide_eq_false c2
  by_cases c3 : i < 0
  · have b3 : decide (i < 0) = true := decide_eq_true c3
    clear hb
    go_enter Try.func26, Try.ntmps26
    go_wp2
    go_ret
    exact ⟨rfl, rfl⟩
  have b3 : decide (i < 0) = false := decide_eq_false c3
  have b4 : decide ((xs.length : Int) ≤ i) = true := decide_eq_true (by omega)
  clear hb
  go_enter Try.func26, Try.ntmps26
  go_wp2
  go_ret
  exact ⟨rfl, rfl⟩
end Go.Proofs.Ytnfodhagfcjfpaa

/- conv.row, Narrow and Wide. -/
namespace Go.Proofs.Ytnfodhagfcjfpaa
open Go.RowKit Go.Proofs.YtnfodhagfcjfpaaW.PrintWords Go.Proofs.YtnfodhagfcjfpaaW.PrintLast Go.Proofs.YtnfodhagfcjfpaaW.PrintMore
set_option linter.unusedVariables false
set_option linter.unusedSimpArgs false

/-- n bytes from a on -/
def rowU (a n : Nat) : List UInt8 := (List.range n).map fun i => UInt8.ofNat (a + i)
theorem rowU_length (a n : Nat) : (rowU a n).length = n := by simp [rowU]
theorem rowU_succ (a n : Nat) (h : a + n < 256) : by8 (rowU a (n + 1)) = by8 (rowU a n) ++ [((a + n : Nat) : Int)] := by
  simp only [rowU, by8, List.range_succ, List.map_append, List.map_cons, List.map_nil]
  rw [toNat_ofNat h]

set_option maxRecDepth 100000 in
set_option maxHeartbeats 2000000 in
theorem convRow_any (a n : Nat) (hn : a + n ≤ 256) (w : World) :
    Calls Try.prog 77 #[.int .i64 (a : Int), .int .i64 (n : Int)] w fun e w' => ∃ v, e = .returned v ∧ BK.R 5 w' w.heap.size (fun _ => True) v (by8 (rowU a n)) ∧ Below w.heap.size w w' := by
  go_enter Try.func77, Try.ntmps77
  go_wp2
  go_loopw [5, 6, 8] (fun v _ i wr => ∃ k : Nat, k ≤ n ∧ i = .int .i64 k ∧ Hid (BK.R 5 wr w.heap.size (fun _ => True) v (by8 (rowU a k))) ∧ Hid (Below w.heap.size w wr)) (fun _ _ i _ => n - (intOf i).toNat)
  case atStart => exact ⟨0, Nat.zero_le _, rfl, Lib.hid (Kd.R_nil _ _ _ _ _), Lib.hid (Below.refl _ _)⟩
  case round =>
    obtain ⟨k, hk, rfl, HO, HB⟩ := hrel
    by_cases hlt : k < n
    · have hu : IntKind.u8.wrap ((a : Int) + (k : Int)) = ((a + k : Nat) : Int) := by rw [IntWalk.u8_in _ ⟨by omega, by omega⟩]; omega
      have HS := Lib.hid (rowU_succ a k (by omega))
      go_wp2_with (first | ((with_reducible refine gate_builtin (b := .append) (xs := #[.tmp 11, .tmp 16]) rfl ?_); at_builtin; refine Kd.R_append BK (w0 := w) w.heap.size rfl (.tmp 11) (.tmp 16) 22 5 (.int .u8 0) 1 rfl Try.underlying22 infoB rfl (by decide) (by omega) u5 (by8 (rowU a k)) ((a + k : Nat) : Int) [.int .u8 ((a + k : Nat) : Int)] (fun _ => True) (fun _ => False) rfl rfl ?aP (fun _ hk => hk.elim) ?aF ?aO ?aB ?aS ?aL ?_))
      case aP => exact rfl
      case aF => exact fun _ _ => trivial
      case aO => exact HO.out
      case aB => exact HB.out
      case aS => exact HB.out.size
      case aL => rw [by8_length, rowU_length]; omega
      intro v1 w1 hv1 hb1 _ _
      have HO1 := Lib.hid hv1
      have HB1 := Lib.hid hb1
      clear hv1 hb1
      go_wp2
      go_roundw
      case rel => exact ⟨k + 1, by omega, by go_num, Lib.hid (by rw [HS.out]; exact HO1.out), HB1⟩
      case measure => simp [intOf]; omega
    · obtain rfl : k = n := by omega
      go_wp2
      go_ret
      exact ⟨_, rfl, HO.out, HB.out⟩

theorem convRow_lit (A N : Int) (a n : Nat) (hA : A = a) (hN : N = n) (hn : a + n ≤ 256) (w : World) :
    Calls Try.prog 77 #[.int .i64 A, .int .i64 N] w fun e w' => ∃ v, e = .returned v ∧ BK.R 5 w' w.heap.size (fun _ => True) v (by8 (rowU a n)) ∧ Below w.heap.size w w' := by
  subst hA
  subst hN
  exact convRow_any a n hn w

/-- a new code over the field f -/
def NewU (f : Nat) (xs ys : List UInt8) (w : World) (e : Ending) (w' : World) : Prop :=
  ∃ cp, e = .returned (.tuple #[.pointer (some ⟨cp, 0, none⟩), .int .i64 0]) ∧ Below w.heap.size w w' ∧ w.heap.size ≤ cp ∧ CodeU w' f cp xs ys

def nxs (t : Nat) : List UInt8 := rowU (4 * t) 4
def nys : List UInt8 := rowU 14 2
def wxs : List UInt8 := rowU 0 14
def wys : List UInt8 := rowU 14 4
theorem nodup_narrow : ∀ t, t < 3 → (by8 (nxs t) ++ by8 nys).Nodup := by decide
theorem nodup_wide : (by8 wxs ++ by8 wys).Nodup := by decide

theorem newU_of {f : Nat} {v1 v2 : Value} {xs ys : List UInt8} {w w1 w2 : World} (hfl : f < w.heap.size) (h1 : BK.R 5 w1 w.heap.size (fun _ => True) v1 (by8 xs)) (hb1 : Below w.heap.size w w1)
    (h2 : BK.R 5 w2 w1.heap.size (fun _ => True) v2 (by8 ys)) (hb2 : Below w1.heap.size w1 w2) (hnd : (by8 xs ++ by8 ys).Nodup) (hx : 1 ≤ xs.length ∧ xs.length ≤ 14) (hy : 1 ≤ ys.length ∧ ys.length ≤ 4) :
    Calls Try.prog 49 #[.pointer (some ⟨f, 0, none⟩), v1, v2] w2 (NewU f xs ys w) := by
  have hw1 := hb1.size
  have hw2 := hb2.size
  have h1' := Kd.R_below h1 hb2
  obtain ⟨A1, c1, rfl, hl1, hk1⟩ := Kd.R_reads h1'
  obtain ⟨A2, c2, rfl, hl2, hk2⟩ := Kd.R_reads h2
  have HC := codeNew_any f A1 A2 c1 c2 (by8 xs) (by8 ys) w2 (by omega) hk1 hk2 hl1 hl2 (by rw [by8_length]; omega) (by rw [by8_length]; omega) (by rw [by8_length]; omega) (by rw [by8_length]; omega)
  refine HC.mono ?_
  intro e w3 ⟨hp, _⟩
  obtain ⟨cp, rfl, hb3, hcp, hc⟩ := hp hnd
  have hb12 := below_step hb1 hb2
  refine ⟨cp, rfl, ?_, by omega, hc⟩
  exact below_step hb12 hb3

set_option maxRecDepth 100000 in
set_option maxHeartbeats 2000000 in
theorem narrow_any (f t a : Nat) (ht : t < 3) (ha : a = 4 * t) (T A4 : Int) (hT : T = t) (hA : A4 = (a : Int)) (hm : IntKind.i64.wrap (4 * T) = A4) (w : World) (hfl : f < w.heap.size) :
    Calls Try.prog 24 #[.pointer (some ⟨f, 0, none⟩), .int .i64 T] w (NewU f (nxs t) nys w) := by
  have b1 : decide (T < 0) = false := decide_eq_false (by omega)
  have b2 : decide (3 ≤ T) = false := decide_eq_false (by omega)
  have HN := Lib.hid (nodup_narrow t ht)
  have HA := Lib.hid ha
  have HI := Lib.hid hA
  clear hT hA ha
  go_enter Try.func24, Try.ntmps24
  go_wp2_with (first | (go_at_call_of 77 (Value.int .i64 4); refine (convRow_lit A4 4 a 4 HI.out rfl (by have := HA.out; omega) _).mono ?_; rintro e w1 ⟨v1, rfl, hv1, hb1⟩))
  have HV1 := Lib.hid hv1
  have HB1 := Lib.hid hb1
  clear hv1 hb1
  refine (convRow_any 14 2 (by omega) _).mono ?_
  rintro e w2 ⟨v2, rfl, hv2, hb2⟩
  have HV2 := Lib.hid hv2
  have HB2 := Lib.hid hb2
  clear hv2 hb2
  go_wp2_with (first | (go_at_call 49; refine (newU_of hfl (xs := nxs t) (ys := nys) (by have h := HV1.out; rw [HA.out] at h; exact h) HB1.out HV2.out HB2.out HN.out (by simp [nxs, rowU_length]) (by decide)).mono ?_; rintro e w3 ⟨cp, rfl, hb3, hcp, hc⟩))
  have HB3 := Lib.hid hb3
  have HC := Lib.hid hc
  clear hb3 hc
  go_wp2
  go_ret2
  exact ⟨cp, rfl, HB3.out, hcp, HC.out⟩

theorem narrow_num (f t : Nat) (T : Int) (hT : T = t) (ht : t < 3) (w : World) (hfl : f < w.heap.size) :
    Calls Try.prog 24 #[.pointer (some ⟨f, 0, none⟩), .int .i64 T] w (NewU f (nxs t) nys w) :=
  narrow_any f t (4 * t) ht rfl T ((4 * t : Nat) : Int) hT rfl (by subst hT; rw [IntWalk.i64_in _ ⟨by omega, by omega⟩]; omega) w hfl

set_option maxRecDepth 100000 in
set_option maxHeartbeats 2000000 in
theorem wide_any (f : Nat) (w : World) (hfl : f < w.heap.size) :
    Calls Try.prog 25 #[.pointer (some ⟨f, 0, none⟩)] w (NewU f wxs wys w) := by
  have HN := Lib.hid nodup_wide
  go_enter Try.func25, Try.ntmps25
  go_wp2_with (first | (go_at_call_of 77 (Value.int .i64 0); refine (convRow_lit 0 14 0 14 rfl rfl (by omega) _).mono ?_; rintro e w1 ⟨v1, rfl, hv1, hb1⟩))
  have HV1 := Lib.hid hv1
  have HB1 := Lib.hid hb1
  clear hv1 hb1
  refine (convRow_any 14 4 (by omega) _).mono ?_
  rintro e w2 ⟨v2, rfl, hv2, hb2⟩
  have HV2 := Lib.hid hv2
  have HB2 := Lib.hid hb2
  clear hv2 hb2
  go_wp2_with (first | (go_at_call 49; refine (newU_of hfl (xs := wxs) (ys := wys) HV1.out HB1.out HV2.out HB2.out HN.out (by decide) (by decide)).mono ?_; rintro e w3 ⟨cp, rfl, hb3, hcp, hc⟩))
  have HB3 := Lib.hid hb3
  have HC := Lib.hid hc
  clear hb3 hc
  go_wp2
  go_ret2
  exact ⟨cp, rfl, HB3.out, hcp, HC.out⟩
end Go.Proofs.Ytnfodhagfcjfpaa

/- Narrow refused; the statements' 'awake' of layer 5; ConvParts. -/
namespace Go.Proofs.Ytnfodhagfcjfpaa
open Go.RowKit Go.Proofs.YtnfodhagfcjfpaaW.PrintWords Go.Proofs.YtnfodhagfcjfpaaW.PrintLast Go.Proofs.YtnfodhagfcjfpaaW.PrintMore
set_option linter.unusedVariables false
set_option linter.unusedSimpArgs false

theorem narrow_no (fp : Value) (T : Int) (ht : T < 0 ∨ 3 ≤ T) (w : World) :
    Calls Try.prog 24 #[fp, .int .i64 T] w fun e w' => e = .returned (.tuple #[.pointer none, .int .i64 1]) ∧ w = w' := by
  by_cases h1 : T < 0
  · have b1 : decide (T < 0) = true := decide_eq_true h1
    clear ht
    go_enter Try.func24, Try.ntmps24
    go_wp2
    go_ret2
    exact ⟨rfl, rfl⟩
  have b1 : decide (T < 0) = false := decide_eq_false h1
  have b2 : decide (3 ≤ T) = true := decide_eq_true (by omega)
  clear ht
  go_enter Try.func24, Try.ntmps24
  go_wp2
  go_ret2
  exact ⟨rfl, rfl⟩

theorem below_kf {base f : Nat} {w w1 w2 : World} (h : Below base w w1) (k : Kf f w1 w2) (hf : base ≤ f) (hb : base ≤ w1.heap.size) : Below base w w2 :=
  h.grown k hb (fun j hj => by injection hj with hj; omega)

theorem CodeU.below {w w1 : World} {f cp : Nat} {xs ys : List UInt8} (h : CodeU w f cp xs ys) (hk : Below w.heap.size w w1) : CodeU w1 f cp xs ys :=
  h.keep ((Kf.refl f w).below hk)

/-- Coef where i and j are in, in the walk's words -/
def CoefIn (f : Nat) (u : UInt8) (w : World) (e : Ending) (w' : World) : Prop := e = .returned (.int .u8 (u.toNat : Int)) ∧ Kf f w w' ∧ Fld w' f
theorem coef_num (f cp : Nat) (xs ys : List UInt8) (j i : Nat) (J I : Int) (hJ : J = j) (hI : I = i) (hj : j < ys.length) (hi : i < xs.length) (w : World) (hl : ys.length ≤ 255 ∧ xs.length ≤ 255) (h : CodeU w f cp xs ys) (hf : Fld w f) :
    Calls Try.prog 26 #[.pointer (some ⟨cp, 0, none⟩), .int .i64 J, .int .i64 I] w (MulPost f w (.int .u8 ((coef xs ys j i).toNat : Int))) := by
  subst hJ
  subst hI
  exact coef_in f cp xs ys j i hj hi w hl h hf

theorem size_num (f cp : Nat) (xs ys : List UInt8) (w : World) (k r : Int) (hk : (xs.length : Int) = k) (hr : (ys.length : Int) = r) (h : CodeU w f cp xs ys) :
    Calls Try.prog 53 #[.pointer (some ⟨cp, 0, none⟩)] w fun e w' => e = .returned (.tuple #[.int .i64 k, .int .i64 r]) ∧ ∃ n, w.drewN n = w' := by
  subst hk
  subst hr
  exact size_any f cp xs ys w h

theorem awake_coef : coef (nxs 1) nys 0 0 = coef wxs wys 0 4 := congrArg Hyp.inv (by decide)

set_option maxRecDepth 100000 in
set_option maxHeartbeats 2000000 in
theorem awake5_any (w : World) :
    Calls Try.prog 27 #[] w fun e w' => e = .returned (.bool true) ∧ Below w.heap.size w w' := by
  have HCE := Lib.hid awake_coef
  go_enter Try.func27, Try.ntmps27
  go_wp2_with (first | (go_at_call 23; refine (gfNew_any _).mono ?_; rintro e w1 ⟨rfl, rfl⟩))
  obtain ⟨w1, hw1⟩ : ∃ w1, w1 = w.alloc (.cells (fcells 0 0 0 0 0) 152) := ⟨_, rfl⟩
  obtain ⟨f, hfe⟩ : ∃ f, f = w.heap.size := ⟨_, rfl⟩
  have hs1 : w.heap.size ≤ w1.heap.size := by rw [hw1]; exact ((Below.refl w.heap.size w).alloc (Nat.le_refl _) _).size
  have HB1 := Lib.hid (show Below w.heap.size w w1 by rw [hw1]; exact (Below.refl _ _).alloc (Nat.le_refl _) _)
  have HF1 := Lib.hid (show Fld w1 f by rw [hw1, hfe]; exact .inl (heap_alloc_new w _))
  rw [← hw1, ← hfe]
  have HFE := Lib.hid hfe
  have HS1 := Lib.hid hs1
  clear hw1 hfe hs1
  refine (narrow_num f 1 1 rfl (by decide) w1 HF1.out.lt).mono ?_
  rintro e w2 ⟨n, rfl, hb2, hn, hcn⟩
  have HF2 := Lib.hid (HF1.out.below hb2)
  have HB2 := Lib.hid (below_step HB1.out hb2)
  have HN := Lib.hid hcn
  clear hb2 hcn
  go_wp2_with (first | (go_at_call 25; refine (wide_any f _ HF2.out.lt).mono ?_; rintro e w3 ⟨c, rfl, hb3, hc, hcc⟩) | (go_at_call_of 24 (Value.int .i64 3); refine (narrow_no _ 3 (by omega) _).mono ?_; rintro e w4 ⟨rfl, rfl⟩))
  have HF3 := Lib.hid (HF2.out.below hb3)
  have HB3 := Lib.hid (below_step HB2.out hb3)
  have HN3 := Lib.hid (HN.out.below hb3)
  have HC := Lib.hid hcc
  clear hb3 hcc
  refine (size_num f n (nxs 1) nys _ 4 2 rfl rfl HN3.out).mono ?_
  rintro e w5 ⟨rfl, m5, rfl⟩
  go_wp2_with (first | (go_at_call_of 53 (Value.pointer (some ⟨c, 0, none⟩)); refine (size_num f c wxs wys _ 14 4 rfl rfl (HC.out.keep ((Kf.refl f w3).drewN m5))).mono ?_; rintro e w6 ⟨rfl, m6, rfl⟩))
  refine (coef_num f n (nxs 1) nys 0 0 0 0 rfl rfl (by decide) (by decide) _ (by decide) (HN3.out.keep ((Kf.refl f w3).drewN (m5 + m6))) (HF3.out.drewN (m5 + m6))).mono ?_
  rintro e w7 ⟨rfl, hk7, hf7⟩
  have HF7 := Lib.hid hf7
  have HK7 := Lib.hid (((Kf.refl f w3).drewN (m5 + m6)).trans hk7)
  clear hf7 hk7
  rw [HCE.out]
  obtain ⟨u, hu⟩ : ∃ u, u = coef wxs wys 0 4 := ⟨_, rfl⟩
  have HU := Lib.hid hu
  rw [← hu]
  clear hu
  go_wp2_with (first | (go_at_call_of 26 (Value.pointer (some ⟨c, 0, none⟩)); refine (coef_num f c wxs wys 0 4 0 4 rfl rfl (by decide) (by decide) _ (by decide) (HC.out.keep HK7.out) HF7.out).mono ?_; rintro e w8 ⟨rfl, hk8, hf8⟩; rw [← HU.out]))
  have HK8 := Lib.hid (HK7.out.trans hk8)
  clear hk8 hf8
  go_wp2
  go_ret
  exact ⟨by simp, below_kf HB3.out HK8.out (by rw [HFE.out]; exact Nat.le_refl _) HB3.out.size⟩
end Go.Proofs.Ytnfodhagfcjfpaa

/- ConvParts, walked. -/
namespace Go.Proofs.Ytnfodhagfcjfpaa
open Go.RowKit Go.WideShapes Go.ChangeShapes Go.Proofs.YtnfodhagfcjfpaaW.PrintWords Go.Proofs.YtnfodhagfcjfpaaW.PrintLast Go.Proofs.YtnfodhagfcjfpaaW.PrintMore
set_option linter.unusedVariables false
set_option linter.unusedSimpArgs false

theorem i64_mask (k : Nat) (m : Int) (hk : k < 63) (hm : (BitVec.ofInt 64 m).toNat = 2 ^ k - 1) (n : Int) : Go.bits .and .i64 n m = n % ((2 ^ k : Nat) : Int) := by
  have h64 : (2 ^ k : Nat) ∣ 2 ^ 64 := Nat.pow_dvd_pow 2 (by omega)
  have h63 : (2 ^ k : Nat) < 2 ^ 63 := Nat.pow_lt_pow_right (by omega) (by omega)
  have key : (BitVec.ofInt 64 n &&& BitVec.ofInt 64 m).toNat = (n % ((2 ^ 64 : Nat) : Int)).toNat % 2 ^ k := by
    rw [BitVec.toNat_and, BitVec.toNat_ofInt, hm, Nat.and_two_pow_sub_one_eq_mod]
  show IntKind.i64.wrap ((BitVec.ofInt 64 n &&& BitVec.ofInt 64 m).toNat : Nat) = _
  rw [key]
  have hp : 0 < 2 ^ k := Nat.two_pow_pos k
  have hlt := Nat.mod_lt (n % ((2 ^ 64 : Nat) : Int)).toNat hp
  rw [IntWalk.i64_in _ ⟨by omega, by omega⟩]
  rw [Int.natCast_emod, Int.toNat_of_nonneg (Int.emod_nonneg _ (by omega))]
  exact Int.emod_emod_of_dvd n (Int.natCast_dvd_natCast.2 h64)
theorem mask255 (n : Int) : Go.bits .and .i64 n 255 = n % 256 := i64_mask 8 255 (by decide) (by decide) n
theorem mask3 (n : Int) : Go.bits .and .i64 n 3 = n % 4 := i64_mask 2 3 (by decide) (by decide) n
theorem mask1 (n : Int) : Go.bits .and .i64 n 1 = n % 2 := i64_mask 1 1 (by decide) (by decide) n
theorem mask63 (n : Int) : Go.bits .and .i64 n 63 = n % 64 := i64_mask 6 63 (by decide) (by decide) n

theorem inv_inj (a b : UInt8) (h : Hyp.inv a = Hyp.inv b) : a = b := by
  by_cases ha : a = 0
  · by_cases hb : b = 0
    · rw [ha, hb]
    · exact absurd (h.symm.trans (by rw [ha]; rfl)) (Hyp.inv_ne b hb)
  · by_cases hb : b = 0
    · exact absurd (h.trans (by rw [hb]; rfl)) (Hyp.inv_ne a ha)
    · have h1 := Hyp.mul_inv a ha
      have h2 := Hyp.mul_inv b hb
      have h3 : Hyp.mul a (Hyp.mul b (Hyp.inv b)) = a := by rw [h2]; exact Hyp.mul_one a
      rw [← h3, ← Hyp.mul_assoc, Hyp.mul_comm a b, Hyp.mul_assoc, ← h, h1]
      exact Hyp.mul_one b

theorem parts_coef (t i j a : Nat) (ht : t < 3) (hi : i < 4) (hj : j < 2) (ha : a < 14) : (coef wxs wys j a = coef (nxs t) nys j i) ↔ a = 4 * t + i := by
  have key : ∀ t, t < 3 → ∀ i, i < 4 → ∀ j, j < 2 → ∀ a, a < 14 → ((wys.getD j 0 ^^^ wxs.getD a 0 = nys.getD j 0 ^^^ (nxs t).getD i 0) ↔ a = 4 * t + i) := by decide
  exact ⟨fun h => (key t ht i hi j hj a ha).1 (inv_inj _ _ h), fun h => congrArg Hyp.inv ((key t ht i hi j hj a ha).2 h)⟩

theorem parts_ne : coef wxs wys 3 13 ≠ 0 := Hyp.inv_ne _ (by decide)

theorem coef_no (f cp : Nat) (xs ys : List UInt8) (J I : Int) (hb : J < 0 ∨ (ys.length : Int) ≤ J ∨ I < 0 ∨ (xs.length : Int) ≤ I) (w : World) (h : CodeU w f cp xs ys) :
    Calls Try.prog 26 #[.pointer (some ⟨cp, 0, none⟩), .int .i64 J, .int .i64 I] w fun e w' => e = .returned (.int .u8 0) ∧ w = w' := coef_out f cp xs ys J I hb w h

theorem u8_ne_zero (u : UInt8) (h : u ≠ 0) : ((u.toNat : Int) != 0) = true := by
  rw [bne_iff_ne]
  intro hc
  apply h
  apply UInt8.toNat_inj.1
  have : u.toNat = 0 := by omega
  rw [this]
  rfl

/-- A ne B, of Bools, where A's test is B's -/
theorem bool_same {x y : UInt8} {m n : Int} (h : x = y ↔ m = n) : (((x.toNat : Int) == (y.toNat : Int)) != (m == n)) = false := by
  by_cases hm : m = n
  · have := h.2 hm
    subst this
    subst hm
    simp
  · have hx : x ≠ y := fun e => hm (h.1 e)
    have hx2 : ((x.toNat : Int) == (y.toNat : Int)) = false := by
      rw [beq_eq_false_iff_ne]
      intro hc
      exact hx (UInt8.toNat_inj.1 (by omega))
    rw [hx2, beq_eq_false_iff_ne.2 hm]
    rfl

theorem gfNew_own (w : World) :
    Calls Try.prog 23 #[] w fun e w' => ∃ f, e = .returned (.pointer (some ⟨f, 0, none⟩)) ∧ Fld w' f ∧ w.heap.size ≤ f ∧ Below w.heap.size w w' := by
  refine (gfNew_any w).mono ?_
  rintro e w1 ⟨rfl, rfl⟩
  exact ⟨_, rfl, .inl (heap_alloc_new w _), Nat.le_refl _, (Below.refl _ _).alloc (Nat.le_refl _) _⟩

/-- what a statement's walk knows of the world: all that was there is there, the field f is one -/
structure Held (w0 w : World) (f : Nat) : Prop where
  below : Below w0.heap.size w0 w
  fld : Fld w f
  base : w0.heap.size ≤ f
theorem Held.step {w0 w w1 : World} {f : Nat} (h : Held w0 w f) (hb : Below w.heap.size w w1) : Held w0 w1 f := ⟨below_step h.below hb, h.fld.below hb, h.base⟩
theorem Held.kf {w0 w w1 : World} {f : Nat} (h : Held w0 w f) (hk : Kf f w w1) (hf : Fld w1 f) : Held w0 w1 f := ⟨below_kf h.below hk h.base h.below.size, hf, h.base⟩

set_option maxRecDepth 100000 in
set_option maxHeartbeats 4000000 in
theorem convParts_any (a0 a1 a2 : Int) (w : World) :
    Calls Try.prog 4 #[.int .i64 a0, .int .i64 a1, .int .i64 a2] w fun e w' => e = .returned (.bool true) ∧ Below w.heap.size w w' := by
  obtain ⟨t, ht⟩ : ∃ t : Nat, (a0 % 256) % 3 = (t : Int) := ⟨((a0 % 256) % 3).toNat, by omega⟩
  obtain ⟨i, hi⟩ : ∃ i : Nat, a1 % 4 = (i : Int) := ⟨(a1 % 4).toNat, by omega⟩
  obtain ⟨j, hj⟩ : ∃ j : Nat, a2 % 2 = (j : Int) := ⟨(a2 % 2).toNat, by omega⟩
  have ht3 : t < 3 := by omega
  have hi4 : i < 4 := by omega
  have hj2 : j < 2 := by omega
  have h0 : Go.bits .and .i64 a0 255 = a0 % 256 := mask255 a0
  have h1 : Go.bits .and .i64 a1 3 = (i : Int) := (mask3 a1).trans hi
  have h2 : Go.bits .and .i64 a2 1 = (j : Int) := (mask1 a2).trans hj
  have hT : (a0 % 256).tmod 3 = (t : Int) := by rw [Int.tmod_eq_emod_of_nonneg (by omega)]; exact ht
  clear ht hi hj
  obtain ⟨T, hTT⟩ : ∃ T : Int, T = (t : Int) := ⟨_, rfl⟩
  rw [← hTT] at hT
  have HT := Lib.hid hTT
  clear hTT
  go_enter Try.func4, Try.ntmps4
  go_wp2_with (first | (go_at_call 23; refine (gfNew_own _).mono ?_; rintro e w1 ⟨f, rfl, hf1, hb0, hb1⟩))
  have H1 := Lib.hid (show Held w w1 f from ⟨hb1, hf1, hb0⟩)
  clear hf1 hb0 hb1
  refine (narrow_num f t T HT.out ht3 w1 H1.out.fld.lt).mono ?_
  rintro e w2 ⟨n, rfl, hb2, hn, hcn⟩
  have H2 := Lib.hid (H1.out.step hb2)
  have HN2 := Lib.hid hcn
  clear hb2 hcn
  go_wp2_with (first | (go_at_call 25; refine (wide_any f _ H2.out.fld.lt).mono ?_; rintro e w3 ⟨c, rfl, hb3, hc, hcc⟩))
  have H3 := Lib.hid (H2.out.step hb3)
  have HN3 := Lib.hid (HN2.out.below hb3)
  have HC3 := Lib.hid hcc
  clear hb3 hcc
  have hT0 : 0 ≤ T := by have := HT.out; omega
  have hT2 : T ≤ 2 := by have := HT.out; omega
  have HK := Lib.hid h0
  clear h0 h1 h2 hT HK
  go_loopw [12] (fun a wr => ∃ k : Nat, k ≤ 14 ∧ a = .int .i64 k ∧ Hid (Held w wr f) ∧ Hid (Kf f w3 wr)) (fun a _ => 14 - (intOf a).toNat)
  case atStart => exact ⟨0, Nat.zero_le _, rfl, H3, Lib.hid (Kf.refl _ _)⟩
  case round =>
    obtain ⟨k, hk, rfl, HH, HK⟩ := hrel
    by_cases hlt : k < 14
    · have b1 : decide ((k : Int) < 14) = true := decide_eq_true (by omega)
      go_wp2_with (first | (go_at_call_of 26 (Value.pointer (some ⟨c, 0, none⟩)); refine (coef_num f c wxs wys j k _ _ rfl rfl (by have : wys.length = 4 := rfl; omega) (by have : wxs.length = 14 := rfl; omega) _ (by decide) (HC3.out.keep HK.out) HH.out.fld).mono ?_; rintro e w7 ⟨rfl, hk7, hf7⟩))
      have HH7 := Lib.hid (HH.out.kf hk7 hf7)
      have HK7 := Lib.hid (HK.out.trans hk7)
      clear hk7 hf7
      refine (coef_num f n (nxs t) nys j i _ _ rfl rfl (by have : nys.length = 2 := rfl; omega) (by have : (nxs t).length = 4 := rowU_length _ _; omega) _ (by rw [show (nxs t).length = 4 from rowU_length _ _]; decide) (HN3.out.keep HK7.out) HH7.out.fld).mono ?_
      rintro e w8 ⟨rfl, hk8, hf8⟩
      have HH8 := Lib.hid (HH7.out.kf hk8 hf8)
      have HK8 := Lib.hid (HK7.out.trans hk8)
      clear hk8 hf8
      have b2 : (!((((coef wxs wys j k).toNat : Int) == ((coef (nxs t) nys j i).toNat : Int)) == ((k : Int) == 4 * T + (i : Int)))) = false := bool_same ((parts_coef t i j k ht3 hi4 hj2 hlt).trans (by have := HT.out; omega))
      obtain ⟨u, hu⟩ : ∃ u, u = coef wxs wys j k := ⟨_, rfl⟩
      obtain ⟨v, hv⟩ : ∃ v, v = coef (nxs t) nys j i := ⟨_, rfl⟩
      rw [← hu, ← hv] at b2
      rw [← hu, ← hv]
      clear hu hv
      go_wp2
      go_roundw
      case rel => exact ⟨k + 1, by omega, by go_num, HH8, HK8⟩
      case measure => simp [intOf]; omega
    · obtain rfl : k = 14 := by omega
      have HNW := Lib.hid (HN3.out.keep HK.out)
      have HCW := Lib.hid (HC3.out.keep HK.out)
      go_wp2_with (first | (go_at_call_of 26 (Value.int .i64 2); refine (coef_no f n (nxs t) nys 2 0 (by right; left; decide) _ HNW.out).mono ?_; rintro e w7 ⟨rfl, rfl⟩))
      refine (coef_no f n (nxs t) nys 0 4 (by right; right; right; rw [show (nxs t).length = 4 from rowU_length _ _]; decide) _ HNW.out).mono ?_
      rintro e w8 ⟨rfl, rfl⟩
      have b3 := u8_ne_zero _ parts_ne
      obtain ⟨u, hu⟩ : ∃ u, u = coef wxs wys 3 13 := ⟨_, rfl⟩
      rw [← hu] at b3
      have HU := Lib.hid hu
      clear hu
      go_wp2_with (first | (go_at_call_of 26 (Value.int .i64 3); refine (coef_num f c wxs wys 3 13 3 13 rfl rfl (by decide) (by decide) _ (by decide) HCW.out HH.out.fld).mono ?_; rintro e w9 ⟨rfl, hk9, hf9⟩; rw [← HU.out]))
      have HH9 := Lib.hid (HH.out.kf hk9 hf9)
      clear hk9 hf9
      go_outline
      refine (awake5_any _).mono ?_
      rintro e w10 ⟨rfl, hb⟩
      have HH10 := Lib.hid (HH9.out.step hb)
      clear hb
      go_wp2
      go_ret
      exact ⟨by simp, HH10.out.below⟩
end Go.Proofs.Ytnfodhagfcjfpaa

/- A step for a row whose walk leaves a world of which 'Below' alone is known (turned from the guide's worked text); no condition. -/
namespace Go.Proofs.Ytnfodhagfcjfpaa
open Go.RowKit Go.WideShapes Go.ChangeShapes
set_option linter.unusedVariables false
set_option linter.unusedSimpArgs false
section
variable {H : Type} {enc : TypeId × Value → H} {P : Program}
theorem post_of_below {f : Func} {s : ChangeSpec} {apart fresh handsOn again : Bool} {W W' : World} {args : Array Value} {v : Value} {ds gs : List (DataW H)} {before pa pv : List MemPlace}
    (hW : DataW.Whole enc P f.params.toList s.vars apart W args.toList ds gs before)
    (hres : ∀ (b : Nat) (sp : Nat → Bool) (hd : Bool), DataW.TrodAll enc P W' b sp hd f.resultTypes.toList (v.resultList f.resultTypes.size) (s.fn H (ds ++ gs)).results [])
    (hargs : ∀ sp : Nat → Bool, (∀ p ∈ before, sp p.block = true) → DataW.TrodAll enc P W' 0 sp true f.params.toList args.toList (s.fn H (ds ++ gs)).args pa)
    (hvars : ∀ sp : Nat → Bool, (∀ p ∈ before, sp p.block = true) → DataW.TrodVars enc P W' sp s.vars (s.fn H (ds ++ gs)).vars pv)
    (hps : before = pa ++ pv) (hb : Below W.heap.size W W')
    (hok : ∀ (j : Nat) (t : TypeId) (r : Value), f.resultTypes[j]? = some t → (v.resultList f.resultTypes.size)[j]? = some r → Value.okWide P W' .any 0 t r) :
    s.post enc P f apart fresh handsOn again W args v W' := by
  have hlt : ∀ p ∈ before, p.block < W.heap.size := fun p hp => hW.lt p hp
  have hold : ∀ p ∈ before, (fun b => decide (b < W.heap.size)) p.block = true := fun p hp => by simpa using hlt p hp
  refine ⟨ds, gs, before, [], pa, pv, hW, hres _ _ _, hargs _ hold, hvars _ hold, World.keptBut_mono (fun p hp => ⟨hp, ?_⟩) (hb.frame (· ∈ before)), fun _ => ?_⟩
  · rw [hps, List.mem_append] at hp
    exact Or.inr hp
  · obtain ⟨_, _, _, _, _, hz, hn⟩ := hW
    refine ⟨hok, _, _, ([] ++ pa) ++ pv, ⟨[] ++ pa, pv, trodAll_append (hargs _ (fun _ _ => rfl)) (hres _ _ _), hvars _ (fun _ _ => rfl), rfl, ?_, ?_⟩, ?_⟩
    · intro b off hp
      have hin : MemPlace.cell b off ∈ before := by rw [hps]; simpa using hp
      rw [hb.frozen (hlt _ hin)]
      exact hz b off hin
    · intro ha
      have := hn ha
      rw [hps] at this
      simpa using this
    · intro p hp _
      rw [hps]
      simpa using hp
end
end Go.Proofs.Ytnfodhagfcjfpaa

/- Sums and matrices over GF(256): row operations, a pivot, the inverse. -/
namespace Go.Proofs.Ytnfodhagfcjfpaa.Hyp
set_option linter.unusedVariables false

/-- the sum of f 0 .. f (n-1) -/
def xsum : Nat → (Nat → UInt8) → UInt8
  | 0, _ => 0
  | n + 1, f => xsum n f ^^^ f n

theorem xsum_congr {n : Nat} {f g : Nat → UInt8} (h : ∀ j, j < n → f j = g j) : xsum n f = xsum n g := by
  induction n with
  | zero => rfl
  | succ n ih => simp only [xsum]; rw [ih (fun j hj => h j (by omega)), h n (by omega)]

theorem xsum_zero (n : Nat) : xsum n (fun _ => 0) = 0 := by
  induction n with
  | zero => rfl
  | succ n ih => simp only [xsum, ih]; rfl

theorem xsum_zero' {n : Nat} {f : Nat → UInt8} (h : ∀ j, j < n → f j = 0) : xsum n f = 0 := (xsum_congr h).trans (xsum_zero n)

theorem xsum_xor (n : Nat) (f g : Nat → UInt8) : xsum n (fun j => f j ^^^ g j) = xsum n f ^^^ xsum n g := by
  induction n with
  | zero => simp [xsum]
  | succ n ih => simp only [xsum, ih, UInt8.xor_assoc, xor_lc]

theorem xsum_mul (n : Nat) (a : UInt8) (f : Nat → UInt8) : xsum n (fun j => mul a (f j)) = mul a (xsum n f) := by
  induction n with
  | zero => simp only [xsum, mul_zero]
  | succ n ih => simp only [xsum, ih, mul_xor]

theorem xsum_mul_r (n : Nat) (a : UInt8) (f : Nat → UInt8) : xsum n (fun j => mul (f j) a) = mul (xsum n f) a := by
  rw [mul_comm, ← xsum_mul]
  exact xsum_congr fun j _ => mul_comm _ _

theorem xsum_swap (m n : Nat) (f : Nat → Nat → UInt8) : xsum m (fun i => xsum n (fun j => f i j)) = xsum n (fun j => xsum m (fun i => f i j)) := by
  induction m with
  | zero => simp only [xsum, xsum_zero]
  | succ m ih => simp only [xsum, ih, xsum_xor]

theorem xsum_delta (n i : Nat) (hi : i < n) (f : Nat → UInt8) : xsum n (fun j => if j = i then f j else 0) = f i := by
  induction n with
  | zero => omega
  | succ n ih =>
    simp only [xsum]
    by_cases h : i < n
    · rw [ih h, if_neg (by omega), UInt8.xor_zero]
    · obtain rfl : i = n := by omega
      rw [xsum_zero' (fun j hj => if_neg (by omega)), if_pos rfl, UInt8.zero_xor]

/-- one taken out -/
theorem xsum_out (n i : Nat) (hi : i < n) (f : Nat → UInt8) : xsum n f = f i ^^^ xsum n (fun j => if j = i then 0 else f j) := by
  have : xsum n f = xsum n (fun j => (if j = i then f j else 0) ^^^ (if j = i then 0 else f j)) := xsum_congr fun j _ => by
    by_cases h : j = i <;> simp [h]
  rw [this, xsum_xor, xsum_delta n i hi]

theorem xsum_le {m n : Nat} (h : m ≤ n) (f : Nat → UInt8) (hz : ∀ j, m ≤ j → j < n → f j = 0) : xsum n f = xsum m f := by
  induction n with
  | zero => rw [Nat.le_zero.1 h]
  | succ n ih =>
    by_cases hm : m = n + 1
    · rw [hm]
    · simp only [xsum]
      rw [ih (by omega) (fun j h1 h2 => hz j h1 (by omega)), hz n (by omega) (by omega), UInt8.xor_zero]

abbrev Mat := Nat → Nat → UInt8

def mv (n : Nat) (A : Mat) (v : Nat → UInt8) (i : Nat) : UInt8 := xsum n (fun j => mul (A i j) (v j))

def trivKer (n : Nat) (A : Mat) : Prop := ∀ v, (∀ i, i < n → mv n A v i = 0) → ∀ j, j < n → v j = 0

/-- row operations -/
def rswap (A : Mat) (p c : Nat) : Mat := fun i j => if i = p then A c j else if i = c then A p j else A i j
def rscale (A : Mat) (c : Nat) (s : UInt8) : Mat := fun i j => if i = c then mul (A i j) s else A i j
def radd (A : Mat) (c i0 : Nat) (s : UInt8) : Mat := fun i j => if i = i0 then A i j ^^^ mul (A c j) s else A i j

theorem mv_rswap (n : Nat) (A : Mat) (p c : Nat) (v : Nat → UInt8) (i : Nat) : mv n (rswap A p c) v i = if i = p then mv n A v c else if i = c then mv n A v p else mv n A v i := by
  unfold mv rswap
  split
  · rfl
  · split <;> rfl

theorem mv_rscale (n : Nat) (A : Mat) (c : Nat) (s : UInt8) (v : Nat → UInt8) (i : Nat) : mv n (rscale A c s) v i = if i = c then mul (mv n A v i) s else mv n A v i := by
  unfold mv rscale
  split
  · rw [← xsum_mul_r]
    exact xsum_congr fun j _ => by rw [mul_assoc, mul_comm s, ← mul_assoc]
  · rfl

theorem mv_radd (n : Nat) (A : Mat) (c i0 : Nat) (s : UInt8) (v : Nat → UInt8) (i : Nat) : mv n (radd A c i0 s) v i = if i = i0 then mv n A v i ^^^ mul (mv n A v c) s else mv n A v i := by
  unfold mv radd
  split
  · rw [← xsum_mul_r, ← xsum_xor]
    exact xsum_congr fun j _ => by rw [mul_xor_l, mul_assoc, mul_comm s, ← mul_assoc]
  · rfl

/-- A is what M is turned into, R what the unit is turned into -/
structure Turned (n : Nat) (M A R : Mat) : Prop where
  same : ∀ v i, i < n → mv n A v i = mv n R (mv n M v) i
  ker : trivKer n A

theorem Turned.swap {n : Nat} {M A R : Mat} (h : Turned n M A R) {p c : Nat} (hp : p < n) (hc : c < n) : Turned n M (rswap A p c) (rswap R p c) := by
  refine ⟨fun v i hi => ?_, fun v hv => h.ker v fun i hi => ?_⟩
  · rw [mv_rswap, mv_rswap]
    split
    · exact h.same v c hc
    · split
      · exact h.same v p hp
      · exact h.same v i hi
  · by_cases h1 : i = p
    · have := hv c hc
      rw [mv_rswap] at this
      subst h1
      by_cases h2 : c = i
      · subst h2; simpa using this
      · simpa [h2] using this
    · by_cases h2 : i = c
      · have := hv p hp
        rw [mv_rswap, if_pos rfl] at this
        rw [h2]; exact this
      · have := hv i hi
        rwa [mv_rswap, if_neg h1, if_neg h2] at this

theorem Turned.scale {n : Nat} {M A R : Mat} (h : Turned n M A R) {c : Nat} {s : UInt8} (hs : s ≠ 0) : Turned n M (rscale A c s) (rscale R c s) := by
  refine ⟨fun v i hi => ?_, fun v hv => h.ker v fun i hi => ?_⟩
  · rw [mv_rscale, mv_rscale, h.same v i hi]
  · have := hv i hi
    rw [mv_rscale] at this
    split at this
    · exact (mul_eq_zero _ _ this).resolve_right hs
    · exact this

theorem Turned.add {n : Nat} {M A R : Mat} (h : Turned n M A R) {c i0 : Nat} (s : UInt8) (hc : c < n) (hne : i0 ≠ c) : Turned n M (radd A c i0 s) (radd R c i0 s) := by
  refine ⟨fun v i hi => ?_, fun v hv => h.ker v fun i hi => ?_⟩
  · rw [mv_radd, mv_radd, h.same v i hi, h.same v c hc]
  · have h1 := hv c hc
    rw [mv_radd, if_neg (fun e => hne e.symm)] at h1
    have := hv i hi
    rw [mv_radd] at this
    split at this
    · rwa [h1, zero_mul, UInt8.xor_zero] at this
    · exact this

def unitM : Mat := fun i j => if i = j then 1 else 0

theorem mv_unit (n : Nat) (v : Nat → UInt8) (i : Nat) (hi : i < n) : mv n unitM v i = v i := by
  unfold mv unitM
  rw [← xsum_delta n i hi v]
  refine xsum_congr fun j _ => ?_
  by_cases h : i = j
  · subst h; rw [if_pos rfl, if_pos rfl, one_mul]
  · rw [if_neg h, if_neg (fun e => h e.symm), zero_mul]

theorem Turned.start {n : Nat} {M : Mat} (h : trivKer n M) : Turned n M M unitM := ⟨fun v i hi => (mv_unit n _ i hi).symm, h⟩

/-- the first c columns are done -/
def Done (n c : Nat) (A : Mat) : Prop := ∀ i j, i < n → j < c → A i j = if i = j then 1 else 0

/-- there is a pivot -/
theorem pivot_exists {n c : Nat} {A : Mat} (hk : trivKer n A) (hd : Done n c A) (hc : c < n) : ∃ p, c ≤ p ∧ p < n ∧ A p c ≠ 0 := by
  apply Classical.byContradiction
  intro hno
  have hz : ∀ i, c ≤ i → i < n → A i c = 0 := fun i h1 h2 => Classical.byContradiction fun h3 => hno ⟨i, h1, h2, h3⟩
  have := hk (fun j => if j < c then A j c else if j = c then 1 else 0) (fun i hi => ?_) c hc
  · rw [if_neg (by omega), if_pos rfl] at this
    exact absurd this (by decide)
  · unfold mv
    rw [xsum_out n c hc]
    simp only [Nat.lt_irrefl, if_false, if_true, mul_one]
    by_cases hic : i < c
    · have e : xsum n (fun j => if j = c then 0 else mul (A i j) (if j < c then A j c else if j = c then 1 else 0)) = xsum n (fun j => if j = i then A j c else 0) := by
        refine xsum_congr fun j hj => ?_
        by_cases h1 : j = c
        · rw [if_pos h1, if_neg (by omega)]
        · rw [if_neg h1]
          by_cases h2 : j < c
          · rw [if_pos h2, hd i j hi h2]
            by_cases h3 : i = j
            · rw [if_pos h3, if_pos h3.symm, one_mul]
            · rw [if_neg h3, if_neg (fun e => h3 e.symm), zero_mul]
          · rw [if_neg h2, if_neg h1, mul_zero, if_neg (by omega)]
      rw [e, xsum_delta n i hi, UInt8.xor_self]
    · rw [hz i (by omega) hi, UInt8.zero_xor]
      refine xsum_zero' fun j hj => ?_
      by_cases h1 : j = c
      · rw [if_pos h1]
      · rw [if_neg h1]
        by_cases h2 : j < c
        · rw [if_pos h2, hd i j hi h2, if_neg (by omega), zero_mul]
        · rw [if_neg h2, if_neg h1, mul_zero]

/-- a column is done: the rows are swapped, scaled, and added -/
def clr (A : Mat) (c : Nat) (f : Nat → UInt8) : Mat := fun i j => if i = c then A i j else A i j ^^^ mul (A c j) (f i)

/-- the finish -/
theorem finished {n : Nat} {M A R : Mat} (h : Turned n M A R) (hd : Done n n A) (v : Nat → UInt8) (i : Nat) (hi : i < n) : mv n R (mv n M v) i = v i := by
  rw [← h.same v i hi]
  rw [← mv_unit n v i hi]
  unfold mv
  exact xsum_congr fun j hj => by rw [hd i j hi hj]; rfl
end Go.Proofs.Ytnfodhagfcjfpaa.Hyp

/- A Cauchy matrix has no kernel; any k rows of the generator have none. -/
namespace Go.Proofs.Ytnfodhagfcjfpaa.Hyp
set_option linter.unusedVariables false

/-- the sum of a list -/
def lsum : List UInt8 → UInt8
  | [] => 0
  | a :: l => a ^^^ lsum l

theorem lsum_append (a b : List UInt8) : lsum (a ++ b) = lsum a ^^^ lsum b := by
  induction a with
  | nil => simp [lsum]
  | cons x a ih => simp only [List.cons_append, lsum, ih, UInt8.xor_assoc]

theorem xsum_lsum (n : Nat) (f : Nat → UInt8) : xsum n f = lsum ((List.range n).map f) := by
  induction n with
  | zero => rfl
  | succ n ih => simp only [xsum, List.range_succ, List.map_append, lsum_append, ih, List.map_cons, List.map_nil, lsum, UInt8.xor_zero]

theorem lsum_mul {α : Type} (l : List α) (s : UInt8) (f : α → UInt8) : lsum (l.map fun i => mul s (f i)) = mul s (lsum (l.map f)) := by
  induction l with
  | nil => simp [lsum, mul_zero]
  | cons a l ih => simp only [List.map_cons, lsum, ih, mul_xor]

theorem lsum_xor {α : Type} (l : List α) (f g : α → UInt8) : lsum (l.map fun i => f i ^^^ g i) = lsum (l.map f) ^^^ lsum (l.map g) := by
  induction l with
  | nil => simp [lsum]
  | cons a l ih => simp only [List.map_cons, lsum, ih, UInt8.xor_assoc, xor_lc]

theorem lsum_congr {α : Type} {l : List α} {f g : α → UInt8} (h : ∀ i, i ∈ l → f i = g i) : lsum (l.map f) = lsum (l.map g) := by
  rw [List.map_congr_left h]

theorem lsum_zero {α : Type} {l : List α} {f : α → UInt8} (h : ∀ i, i ∈ l → f i = 0) : lsum (l.map f) = 0 := by
  induction l with
  | nil => rfl
  | cons a l ih => simp only [List.map_cons, lsum, h a List.mem_cons_self, ih (fun i hi => h i (List.mem_cons_of_mem _ hi)), UInt8.xor_self]

theorem lsum_filter {α : Type} (l : List α) (p : α → Bool) (f : α → UInt8) (h : ∀ i, i ∈ l → p i = false → f i = 0) : lsum (l.map f) = lsum ((l.filter p).map f) := by
  induction l with
  | nil => rfl
  | cons a l ih =>
    have ih' := ih fun i hi => h i (List.mem_cons_of_mem _ hi)
    cases hp : p a
    · rw [List.filter_cons_of_neg (by simp [hp]), List.map_cons, lsum, h a List.mem_cons_self hp, ih', UInt8.zero_xor]
    · rw [List.filter_cons_of_pos hp, List.map_cons, List.map_cons, lsum, lsum, ih']

theorem xor_xx (a b : UInt8) : a ^^^ b ^^^ b = a := by rw [UInt8.xor_assoc, UInt8.xor_self, UInt8.xor_zero]

theorem mul_lc (a b c : UInt8) : mul a (mul b c) = mul b (mul a c) := by rw [← mul_assoc, mul_comm a b, mul_assoc]

/-- the identity of the elimination -/
theorem cauchy_step (a b x y : UInt8) (hy : y ≠ x) (hb : b ≠ x) : mul (y ^^^ a) (inv (y ^^^ x)) ^^^ mul (b ^^^ a) (inv (b ^^^ x)) = mul (mul (x ^^^ a) (inv (b ^^^ x))) (mul (b ^^^ y) (inv (y ^^^ x))) := by
  have h1 : mul (y ^^^ x) (inv (y ^^^ x)) = 1 := mul_inv _ fun e => hy (xor_eq_zero.1 e)
  have h2 : mul (b ^^^ x) (inv (b ^^^ x)) = 1 := mul_inv _ fun e => hb (xor_eq_zero.1 e)
  have e1 : mul (y ^^^ a) (inv (y ^^^ x)) = 1 ^^^ mul (x ^^^ a) (inv (y ^^^ x)) := by
    rw [← h1, ← mul_xor_l]
    congr 1
    rw [UInt8.xor_assoc, xxy]
  have e2 : mul (b ^^^ a) (inv (b ^^^ x)) = 1 ^^^ mul (x ^^^ a) (inv (b ^^^ x)) := by
    rw [← h2, ← mul_xor_l]
    congr 1
    rw [UInt8.xor_assoc, xxy]
  have e3 : mul (b ^^^ y) (inv (y ^^^ x)) = mul (b ^^^ x) (inv (y ^^^ x)) ^^^ 1 := by
    rw [← h1, ← mul_xor_l]
    congr 1
    rw [UInt8.xor_assoc, UInt8.xor_comm y x, xxy]
  rw [e1, e2, e3, mul_xor, mul_one, mul_assoc, ← mul_assoc (inv (b ^^^ x)), mul_comm (inv (b ^^^ x)) (b ^^^ x), h2, one_mul, UInt8.xor_assoc, xor_lc _ 1, xxy, UInt8.xor_comm]

/-- a Cauchy matrix has no kernel -/
theorem cauchy (x y : Nat → UInt8) : ∀ (A B : List Nat) (v : Nat → UInt8), A.length ≤ B.length → (∀ a, a ∈ A → ∀ b, b ∈ B → y b ≠ x a) → (A.Nodup) → (B.Nodup) →
    (∀ a, a ∈ A → ∀ c, c ∈ A → x a = x c → a = c) → (∀ a, a ∈ B → ∀ c, c ∈ B → y a = y c → a = c) →
    (∀ b, b ∈ B → lsum (A.map fun i => mul (v i) (inv (y b ^^^ x i))) = 0) → ∀ a, a ∈ A → v a = 0 := by
  intro A
  induction A with
  | nil => intro B v _ _ _ _ _ _ _ a ha; cases ha
  | cons a A ih =>
    intro B v hlen hne hA hB hxi hyi hz
    cases B with
    | nil => simp at hlen
    | cons b B =>
      have hnA := List.nodup_cons.1 hA
      have hnB := List.nodup_cons.1 hB
      have hu : ∀ i, i ∈ A → mul (v i) (mul (x i ^^^ x a) (inv (y b ^^^ x i))) = 0 := by
        refine ih B (fun i => mul (v i) (mul (x i ^^^ x a) (inv (y b ^^^ x i)))) (by simpa using hlen) (fun i hi j hj => hne i (List.mem_cons_of_mem _ hi) j (List.mem_cons_of_mem _ hj)) hnA.2 hnB.2
          (fun i hi j hj => hxi i (List.mem_cons_of_mem _ hi) j (List.mem_cons_of_mem _ hj)) (fun i hi j hj => hyi i (List.mem_cons_of_mem _ hi) j (List.mem_cons_of_mem _ hj)) ?_
        intro j hj
        have hby : y b ^^^ y j ≠ 0 := fun e => by
          have := hyi b List.mem_cons_self j (List.mem_cons_of_mem _ hj) (xor_eq_zero.1 e)
          exact hnB.1 (this ▸ hj)
        have hE := hz j (List.mem_cons_of_mem _ hj)
        have hEb := hz b List.mem_cons_self
        simp only [List.map_cons, lsum] at hE hEb
        have h1 : mul (y j ^^^ x a) (inv (y j ^^^ x a)) = 1 := mul_inv _ fun e => hne a List.mem_cons_self j (List.mem_cons_of_mem _ hj) (xor_eq_zero.1 e)
        have h2 : mul (y b ^^^ x a) (inv (y b ^^^ x a)) = 1 := mul_inv _ fun e => hne a List.mem_cons_self b List.mem_cons_self (xor_eq_zero.1 e)
        have hE' : v a ^^^ lsum (A.map fun i => mul (y j ^^^ x a) (mul (v i) (inv (y j ^^^ x i)))) = 0 := by
          rw [lsum_mul]
          have := congrArg (mul (y j ^^^ x a)) hE
          rwa [mul_xor, mul_zero, mul_comm (v a), ← mul_assoc, h1, one_mul] at this
        have hEb' : v a ^^^ lsum (A.map fun i => mul (y b ^^^ x a) (mul (v i) (inv (y b ^^^ x i)))) = 0 := by
          rw [lsum_mul]
          have := congrArg (mul (y b ^^^ x a)) hEb
          rwa [mul_xor, mul_zero, mul_comm (v a), ← mul_assoc, h2, one_mul] at this
        have hs : lsum (A.map fun i => mul (y j ^^^ x a) (mul (v i) (inv (y j ^^^ x i))) ^^^ mul (y b ^^^ x a) (mul (v i) (inv (y b ^^^ x i)))) = 0 := by
          rw [lsum_xor, ← xor_eq_zero.1 hE', ← xor_eq_zero.1 hEb', UInt8.xor_self]
        have hs2 : lsum (A.map fun i => mul (y b ^^^ y j) (mul (mul (v i) (mul (x i ^^^ x a) (inv (y b ^^^ x i)))) (inv (y j ^^^ x i)))) = 0 := by
          rw [← hs]
          refine lsum_congr fun i hi => ?_
          have hc := cauchy_step (x a) (y b) (x i) (y j) (hne i (List.mem_cons_of_mem _ hi) j (List.mem_cons_of_mem _ hj)) (hne i (List.mem_cons_of_mem _ hi) b List.mem_cons_self)
          rw [mul_lc (y j ^^^ x a) (v i), mul_lc (y b ^^^ x a) (v i), ← mul_xor, hc, mul_assoc (v i), mul_lc (y b ^^^ y j) (v i), mul_lc (y b ^^^ y j)]
        rw [lsum_mul] at hs2
        exact (mul_eq_zero _ _ hs2).resolve_left hby
      have hv : ∀ i, i ∈ A → v i = 0 := fun i hi => by
        refine (mul_eq_zero _ _ (hu i hi)).resolve_right (mul_ne_zero ?_ ?_)
        · intro e
          have := hxi i (List.mem_cons_of_mem _ hi) a List.mem_cons_self (xor_eq_zero.1 e)
          exact hnA.1 (this ▸ hi)
        · exact inv_ne _ fun e => hne i (List.mem_cons_of_mem _ hi) b List.mem_cons_self (xor_eq_zero.1 e)
      intro i hi
      rcases List.mem_cons.1 hi with rfl | hi
      · have hEb := hz b List.mem_cons_self
        simp only [List.map_cons, lsum] at hEb
        rw [lsum_zero (fun j hj => by rw [hv j hj, zero_mul]), UInt8.xor_zero] at hEb
        exact (mul_eq_zero _ _ hEb).resolve_right (inv_ne _ fun e => hne i List.mem_cons_self b List.mem_cons_self (xor_eq_zero.1 e))
      · exact hv i hi

/-- as many as there are places -/
theorem nodup_le : ∀ (l m : List Nat), l.Nodup → (∀ a, a ∈ l → a ∈ m) → l.length ≤ m.length := by
  intro l
  induction l with
  | nil => intro m _ _; exact Nat.zero_le _
  | cons a l ih =>
    intro m hn hm
    have hn' := List.nodup_cons.1 hn
    have ham := hm a List.mem_cons_self
    have := ih (m.erase a) hn'.2 fun b hb => by
      have hne : b ≠ a := fun e => hn'.1 (e ▸ hb)
      exact (List.mem_erase_of_ne hne).2 (hm b (List.mem_cons_of_mem _ hb))
    rw [List.length_erase_of_mem ham] at this
    have hpos : 0 < m.length := List.length_pos_of_mem ham
    simp only [List.length_cons]
    omega

theorem filter_add (l : List Nat) (p : Nat → Bool) : (l.filter p).length + (l.filter fun a => !p a).length = l.length := by
  induction l with
  | nil => rfl
  | cons a l ih => cases h : p a <;> simp [h] <;> omega

/-- the rows of the generator -/
def gen (k : Nat) (cf : Nat → Nat → UInt8) (s j : Nat) : UInt8 := if s < k then (if s = j then 1 else 0) else cf (s - k) j

/-- any k of the rows have no kernel -/
theorem gen_ker (k : Nat) (x y : Nat → UInt8) (r : Nat) (from_ : List Nat) (hlen : from_.length = k) (hn : from_.Nodup) (hlt : ∀ s, s ∈ from_ → s < k + r)
    (hxy : ∀ i, i < k → ∀ j, j < r → y j ≠ x i) (hx : ∀ i, i < k → ∀ j, j < k → x i = x j → i = j) (hy : ∀ i, i < r → ∀ j, j < r → y i = y j → i = j) :
    trivKer k (fun i j => gen k (fun b a => inv (y b ^^^ x a)) (from_.getD i 0) j) := by
  intro v hv
  have hrow : ∀ s, s ∈ from_ → xsum k (fun j => mul (gen k (fun b a => inv (y b ^^^ x a)) s j) (v j)) = 0 := by
    intro s hs
    obtain ⟨i, hi, rfl⟩ := List.getElem_of_mem hs
    have := hv i (hlen ▸ hi)
    unfold mv at this
    simpa [List.getD_eq_getElem?_getD, hi] using this
  have hunit : ∀ s, s ∈ from_ → s < k → v s = 0 := by
    intro s hs hk
    have := hrow s hs
    refine (xsum_delta k s hk v).symm.trans ((xsum_congr fun j hj => ?_).trans this)
    unfold gen
    rw [if_pos hk]
    by_cases h : j = s
    · rw [if_pos h, if_pos h.symm, one_mul]
    · rw [if_neg h, if_neg (fun e => h e.symm), zero_mul]
  let A := (List.range k).filter fun i => !from_.contains i
  let B := (from_.filter fun s => !decide (s < k)).map fun s => s - k
  have hAm : ∀ i, i ∈ A ↔ i < k ∧ i ∉ from_ := fun i => by simp [A]
  have hBn : B.Nodup := by
    refine List.pairwise_map.2 ((hn.filter _).imp_of_mem ?_)
    intro a b ha hb hab e
    simp at ha hb
    exact hab (by omega)
  have hBm : ∀ j, j ∈ B → j < r ∧ j + k ∈ from_ := by
    intro j hj
    obtain ⟨s, hs, rfl⟩ := List.mem_map.1 hj
    simp at hs
    have := hlt s hs.1
    exact ⟨by omega, by rw [Nat.sub_add_cancel hs.2]; exact hs.1⟩
  have hcount : A.length ≤ B.length := by
    have h1 := filter_add (List.range k) fun i => from_.contains i
    have h2 := filter_add from_ fun s => decide (s < k)
    have h3 : (from_.filter fun s => decide (s < k)).length ≤ ((List.range k).filter fun i => from_.contains i).length :=
      nodup_le _ _ (hn.filter _) fun a ha => by
        simp at ha ⊢
        exact ⟨ha.2, ha.1⟩
    simp only [A, B, List.length_map]
    rw [List.length_range] at h1
    omega
  have hvA : ∀ a, a ∈ A → v a = 0 := by
    refine cauchy x y A B v hcount (fun a ha b hb => hxy a ((hAm a).1 ha).1 b (hBm b hb).1) (List.nodup_range.filter _) hBn
      (fun a ha c hc => hx a ((hAm a).1 ha).1 c ((hAm c).1 hc).1) (fun a ha c hc => hy a (hBm a ha).1 c (hBm c hc).1) ?_
    intro b hb
    have := hrow _ (hBm b hb).2
    rw [xsum_lsum, lsum_filter _ (fun i => !from_.contains i)] at this
    · rw [← this]
      refine lsum_congr fun i hi => ?_
      unfold gen
      rw [if_neg (by omega), Nat.add_sub_cancel, mul_comm]
    · intro i hi hf
      have hm : i ∈ from_ := by simpa using hf
      rw [hunit i hm (List.mem_range.1 hi), mul_zero]
  intro j hj
  by_cases h : j ∈ from_
  · exact hunit j h hj
  · exact hvA j ((hAm j).2 ⟨hj, h⟩)
end Go.Proofs.Ytnfodhagfcjfpaa.Hyp

/- The elimination, step by step; the cells of a matrix. -/
namespace Go.Proofs.Ytnfodhagfcjfpaa.Hyp
set_option linter.unusedVariables false

/-- a state of the elimination, column c: the rows below i are cleared -/
structure Elim (n c i : Nat) (M A R : Mat) : Prop where
  turned : Turned n M A R
  done : Done n c A
  one : A c c = 1
  zero : ∀ k, k < i → k ≠ c → A k c = 0

theorem Elim.start {n c p : Nat} {M A R : Mat} (ht : Turned n M A R) (hd : Done n c A) (hp : c ≤ p) (hpn : p < n) (hne : A p c ≠ 0) :
    Elim n c 0 M (rscale (rswap A p c) c (inv (A p c))) (rscale (rswap R p c) c (inv (A p c))) := by
  have hcn : c < n := by omega
  have hz : ∀ i j, i < n → c ≤ i → j < c → A i j = 0 := fun i j hi h1 h2 => by rw [hd i j hi h2, if_neg (by omega)]
  refine ⟨(ht.swap hpn hcn).scale (inv_ne _ hne), fun i j hi hj => ?_, ?_, fun k hk => absurd hk (Nat.not_lt_zero _)⟩
  · unfold rscale rswap
    by_cases h1 : i = c
    · rw [if_pos h1]
      by_cases h2 : i = p
      · rw [if_pos h2, hz c j hcn (Nat.le_refl _) hj, zero_mul, if_neg (by omega)]
      · rw [if_neg h2, if_pos h1, hz p j hpn hp hj, zero_mul, if_neg (by omega)]
    · rw [if_neg h1]
      by_cases h2 : i = p
      · rw [if_pos h2, hz c j hcn (Nat.le_refl _) hj, if_neg (by omega)]
      · rw [if_neg h2, if_neg h1, hd i j hi hj]
  · unfold rscale rswap
    rw [if_pos rfl]
    by_cases h2 : c = p
    · rw [if_pos h2]
      subst h2
      exact mul_inv _ hne
    · rw [if_neg h2, if_pos rfl]
      exact mul_inv _ hne

theorem Elim.skip {n c : Nat} {M A R : Mat} (h : Elim n c c M A R) : Elim n c (c + 1) M A R :=
  ⟨h.turned, h.done, h.one, fun k hk hne => h.zero k (by omega) hne⟩

theorem Elim.add {n c i : Nat} {M A R : Mat} (h : Elim n c i M A R) (hc : c < n) (hi : i < n) (hne : i ≠ c) :
    Elim n c (i + 1) M (radd A c i (A i c)) (radd R c i (A i c)) := by
  refine ⟨h.turned.add _ hc hne, fun k j hk hj => ?_, ?_, fun k hk hkc => ?_⟩
  · unfold radd
    by_cases h1 : k = i
    · rw [if_pos h1, h.done c j hc hj, if_neg (by omega), zero_mul, UInt8.xor_zero, h.done k j hk hj]
    · rw [if_neg h1, h.done k j hk hj]
  · unfold radd
    rw [if_neg (fun e => hne e.symm)]
    exact h.one
  · unfold radd
    by_cases h1 : k = i
    · rw [if_pos h1, h.one, one_mul, h1, UInt8.xor_self]
    · rw [if_neg h1]
      exact h.zero k (by omega) hkc

theorem Elim.next {n c : Nat} {M A R : Mat} (h : Elim n c n M A R) (hc : c < n) : Done n (c + 1) A := by
  intro i j hi hj
  by_cases h1 : j = c
  · subst h1
    by_cases h2 : i = j
    · rw [if_pos h2, h2]
      exact h.one
    · rw [if_neg h2]
      exact h.zero i hi h2
  · exact h.done i j hi (by omega)

theorem done_zero (n : Nat) (A : Mat) : Done n 0 A := fun _ _ _ h => absurd h (Nat.not_lt_zero _)

/-- the cells of a matrix, row by row -/
def cellsOf (n : Nat) (A : Mat) : List UInt8 := (List.range (n * n)).map fun t => A (t / n) (t % n)
theorem cellsOf_length (n : Nat) (A : Mat) : (cellsOf n A).length = n * n := by simp [cellsOf]
theorem cell_lt {n i j : Nat} (hi : i < n) (hj : j < n) : i * n + j < n * n := by
  have h : (i + 1) * n ≤ n * n := Nat.mul_le_mul_right n hi
  rw [Nat.add_mul, Nat.one_mul] at h
  omega
theorem cell_div {n i j : Nat} (hj : j < n) : (i * n + j) / n = i := by
  rw [Nat.mul_comm, Nat.mul_add_div (by omega), Nat.div_eq_of_lt hj, Nat.add_zero]
theorem cell_mod {n i j : Nat} (hj : j < n) : (i * n + j) % n = j := by
  rw [Nat.mul_comm, Nat.mul_add_mod, Nat.mod_eq_of_lt hj]
theorem cellsOf_getD (n : Nat) (A : Mat) {i j : Nat} (hi : i < n) (hj : j < n) : (cellsOf n A).getD (i * n + j) 0 = A i j := by
  have h := cell_lt hi hj
  simp [cellsOf, List.getD_eq_getElem?_getD, h, cell_div hj, cell_mod hj]
/-- a cell is put -/
def put (A : Mat) (i j : Nat) (u : UInt8) : Mat := fun k l => if k = i ∧ l = j then u else A k l
theorem cellsOf_put (n : Nat) (A : Mat) {i j : Nat} (hi : i < n) (hj : j < n) (u : UInt8) : (cellsOf n A).set (i * n + j) u = cellsOf n (put A i j u) := by
  apply List.ext_getElem
  · simp [cellsOf_length]
  · intro t h1 h2
    have ht : t < n * n := by simpa [cellsOf_length] using h2
    have hn : 0 < n := by omega
    rw [List.getElem_set]
    by_cases e : i * n + j = t
    · subst e
      simp [cellsOf, put, cell_div hj, cell_mod hj]
    · rw [if_neg e]
      have : ¬ (t / n = i ∧ t % n = j) := fun hh => e (by
        have := Nat.div_add_mod t n
        rw [hh.1, hh.2, Nat.mul_comm] at this
        exact this)
      simp [cellsOf, put, this]
theorem cellsOf_congr {n : Nat} {A B : Mat} (h : ∀ i j, i < n → j < n → A i j = B i j) : cellsOf n A = cellsOf n B := by
  unfold cellsOf
  refine List.map_congr_left fun t ht => ?_
  have ht' := List.mem_range.1 ht
  have hn : 0 < n := Nat.pos_of_ne_zero fun e => by subst e; simp at ht'
  exact h _ _ (Nat.div_lt_of_lt_mul ht') (Nat.mod_lt _ hn)
end Go.Proofs.Ytnfodhagfcjfpaa.Hyp

/- What Decode tells: the inverse of the rows that are there gives the data back (pure). -/
namespace Go.Proofs.Ytnfodhagfcjfpaa.Hyp
set_option linter.unusedVariables false

/-- row i of the inverse, times what the shards hold, is the data's byte i -/
theorem back (k : Nat) (cf : Nat → Nat → UInt8) (from_ : List Nat) (R : Mat) (d : Nat → UInt8) (sh : Nat → UInt8)
    (hinv : ∀ v i, i < k → mv k R (mv k (fun i j => gen k cf (from_.getD i 0) j) v) i = v i)
    (hsh : ∀ x, x < k → sh (from_.getD x 0) = xsum k (fun j => mul (gen k cf (from_.getD x 0) j) (d j))) (i : Nat) (hi : i < k) :
    xsum k (fun x => mul (R i x) (sh (from_.getD x 0))) = d i := by
  rw [← hinv d i hi]
  unfold mv
  exact xsum_congr fun x hx => by rw [hsh x hx]
/-- a unit row tells its own byte -/
theorem gen_unit (k : Nat) (cf : Nat → Nat → UInt8) (s : Nat) (hs : s < k) (d : Nat → UInt8) : xsum k (fun j => mul (gen k cf s j) (d j)) = d s := by
  rw [← xsum_delta k s hs d]
  refine xsum_congr fun j hj => ?_
  unfold gen
  rw [if_pos hs]
  by_cases h : s = j
  · rw [if_pos h, if_pos h.symm, one_mul]
  · rw [if_neg h, if_neg (fun e => h e.symm), zero_mul]
end Go.Proofs.Ytnfodhagfcjfpaa.Hyp

/- (*Code).parity. -/
namespace Go.Proofs.Ytnfodhagfcjfpaa
open Go.RowKit Go.Proofs.YtnfodhagfcjfpaaW.PrintWords Go.Proofs.YtnfodhagfcjfpaaW.PrintLast Go.Proofs.YtnfodhagfcjfpaaW.PrintMore
set_option linter.unusedVariables false
set_option linter.unusedSimpArgs false

theorem BK_F {w : World} {ok : Nat → Prop} {A : Option Addr} {n : Nat} {l : List Int} (h : Kd.F BK w ok A n l) (k : Nat) (hk : k < n) :
    ∃ ad, A = some ad ∧ w.cell? (ad.add k) = some (.int .u8 (l.getD k 0)) ∧ ok ad.block := by
  obtain ⟨ad, rfl, hc⟩ := BK_at (Kd.F_now h) k hk
  exact ⟨ad, rfl, hc, Kd.F_in h rfl (by omega) (by decide)⟩
theorem LK_F {w : World} {ok : Nat → Prop} {A : Option Addr} {n : Nat} {ll : List (List Int)} (h : Kd.F LK w ok A n ll) (k : Nat) (hk : k < n) :
    ∃ ad A0 c0, A = some ad ∧ w.cell? (ad.add k) = some (.slice A0 (ll.getD k []).length c0) ∧ (ll.getD k []).length ≤ c0 ∧ Kd.F BK w ok A0 (ll.getD k []).length (ll.getD k []) ∧ ok ad.block := by
  obtain ⟨ad, c, e, _, hK, hc, hin⟩ := Kd.F_get h [] (k : Int) (by omega) (by omega)
  obtain ⟨A0, c0, rfl, l0, g0⟩ := Kd.FK_slice_open hK
  have := hc 0 _ rfl
  simp only [Int.toNat_natCast] at this l0 g0
  exact ⟨ad, A0, c0, e, by rw [show k * LK.sz + 0 = k from by show k * 1 + 0 = k; omega] at this; exact this, l0, g0, hin (by decide)⟩

/-- shards -/
abbrev Shs := List (List UInt8)
def ll8 (L : Shs) : List (List Int) := L.map by8
theorem ll8_length (L : Shs) : (ll8 L).length = L.length := by simp [ll8]
theorem ll8_getD (L : Shs) (k : Nat) (hk : k < L.length) : (ll8 L).getD k [] = by8 (L.getD k []) := by
  unfold ll8
  simp [List.getD_eq_getElem?_getD, hk]
theorem ll8_append (a b : Shs) : ll8 (a ++ b) = ll8 a ++ ll8 b := by simp [ll8]

/-- a parity, when i shards are in, and of the next one q bytes -/
def parAt (xs ys : List UInt8) (j : Nat) (L : Shs) (i q n : Nat) : List UInt8 :=
  (List.range n).map fun at_ => Hyp.xsum i (fun s => Hyp.mul (coef xs ys j s) ((L.getD s []).getD at_ 0)) ^^^ (if at_ < q then Hyp.mul (coef xs ys j i) ((L.getD i []).getD at_ 0) else 0)
def par (xs ys : List UInt8) (j n : Nat) (L : Shs) : List UInt8 :=
  (List.range n).map fun at_ => Hyp.xsum L.length (fun s => Hyp.mul (coef xs ys j s) ((L.getD s []).getD at_ 0))

theorem parAt_length (xs ys : List UInt8) (j : Nat) (L : Shs) (i q n : Nat) : (parAt xs ys j L i q n).length = n := by simp [parAt]
theorem par_length (xs ys : List UInt8) (j n : Nat) (L : Shs) : (par xs ys j n L).length = n := by simp [par]
theorem parAt_getD (xs ys : List UInt8) (j : Nat) (L : Shs) (i q n k : Nat) (hk : k < n) :
    (parAt xs ys j L i q n).getD k 0 = Hyp.xsum i (fun s => Hyp.mul (coef xs ys j s) ((L.getD s []).getD k 0)) ^^^ (if k < q then Hyp.mul (coef xs ys j i) ((L.getD i []).getD k 0) else 0) := by
  simp [parAt, List.getD_eq_getElem?_getD, hk]
theorem parAt_start (xs ys : List UInt8) (j : Nat) (L : Shs) (n : Nat) : by8 (parAt xs ys j L 0 0 n) = List.replicate n 0 := by
  apply List.ext_getElem
  · simp [by8_length, parAt_length]
  · intro k h1 h2
    simp [by8, parAt, Hyp.xsum]
theorem parAt_next (xs ys : List UInt8) (j : Nat) (L : Shs) (i n : Nat) : parAt xs ys j L i n n = parAt xs ys j L (i + 1) 0 n := by
  apply List.ext_getElem
  · simp [parAt_length]
  · intro k h1 h2
    have hk : k < n := by simpa [parAt_length] using h1
    simp [parAt, Hyp.xsum, hk]
theorem parAt_done (xs ys : List UInt8) (j : Nat) (L : Shs) (n : Nat) : parAt xs ys j L L.length 0 n = par xs ys j n L := by
  simp [parAt, par]
theorem parAt_put (xs ys : List UInt8) (j : Nat) (L : Shs) (i q n : Nat) (hq : q < n) :
    (by8 (parAt xs ys j L i q n)).set q ((((parAt xs ys j L i q n).getD q 0) ^^^ Hyp.mul (coef xs ys j i) ((L.getD i []).getD q 0)).toNat : Int) = by8 (parAt xs ys j L i (q + 1) n) := by
  rw [parAt_getD _ _ _ _ _ _ _ _ hq, if_neg (Nat.lt_irrefl _), UInt8.xor_zero]
  apply List.ext_getElem
  · simp [by8_length, parAt_length]
  · intro k h1 h2
    have hk : k < n := by simpa [by8_length, parAt_length] using h1
    rw [List.getElem_set]
    by_cases h : q = k
    · subst h
      simp [by8, parAt]
    · rw [if_neg h]
      have e : (k < q + 1) ↔ (k < q) := by omega
      simp [by8, parAt, e]

/-- a row of the call's own stands when the field turns -/
theorem R_kf {α : Type} {d : Kd α} {e base f : Nat} {ok : Nat → Prop} {w1 w2 : World} {v : Value} {xs : List α} (h : d.R e w1 base ok v xs) (hk : Kf f w1 w2) (hf : f < base) : d.R e w2 base ok v xs :=
  Kd.R_mono (Kd.R_grown (Kd.R_bound h) hk (fun k hb e => by injection e with e; have := hb.2.1; omega)) (fun _ hk => hk.1)

theorem R_form8 {w : World} {base n : Nat} {ok : Nat → Prop} {v : Value} {l : List UInt8} (h : BK.R 5 w base ok v (by8 l)) (hl : l.length = n) (hn : 0 < n) :
    ∃ g cap, v = .slice (some ⟨g, 0, none⟩) n cap ∧ base ≤ g ∧ (∀ q, w.frozen? ⟨g, q, none⟩ = false) ∧ ∀ q, q < n → w.cell? ⟨g, q, none⟩ = some (.int .u8 ((l.getD q 0).toNat : Int)) := by
  obtain ⟨g, cap, rfl, hb, _, cells, hc⟩ := Kd.R_form h (by rw [by8_length]; omega)
  have hr := (Kd.R_reads' h).2.2
  rw [by8_length, hl] at *
  refine ⟨g, cap, rfl, hb, fun q => blk_free hc q, fun q hq => ?_⟩
  obtain ⟨ad, he, hcc⟩ := BK_at hr q hq
  injection he with he
  subst he
  rw [by8_getD] at hcc
  rw [← hcc]
  congr 1
  simp [Addr.add]
theorem Kf.put {f g i : Nat} {a w : World} (h : Kf f a w) (hg : a.heap.size ≤ g) (u : Value) : Kf f a (w.setCell ⟨g, i, none⟩ u) :=
  ⟨h.os, h.tape, h.output, by simpa [World.setCell] using h.size, fun k hk hn => (Below.heap_setCell w ⟨g, i, none⟩ u k (fun e => by simp at e; omega)).trans (h.block k hk hn)⟩
theorem Kf.frz {f : Nat} {a w : World} (h : Kf f a w) {p : Addr} {v : Value} (hp : p.block ≠ f) (hc : a.cell? p = some v) : w.frozen? p = a.frozen? p := by
  have := h.block p.block (World.block_lt_of_cell? a p hc) (fun e => hp (Option.some.inj e))
  simp [World.frozen?, this]
theorem Fld.put {f g i : Nat} {w : World} (h : Fld w f) (hg : f ≠ g) (u : Value) : Fld (w.setCell ⟨g, i, none⟩ u) f := by
  rcases h with h | h
  · exact .inl (blk_else h hg u)
  · exact .inr (blk_else h hg u)

set_option maxRecDepth 100000 in
set_option maxHeartbeats 4000000 in
theorem parity_any (f cp : Nat) (xs ys : List UInt8) (j n : Nat) (L : Shs) (A : Option Addr) (c : Nat) (w : World) (hc : CodeU w f cp xs ys) (hf : Fld w f) (hl : ys.length ≤ 255 ∧ xs.length ≤ 255) (hj : j < ys.length)
    (hL : L.length ≤ xs.length) (hlen : ∀ i, i < L.length → (L.getD i []).length = n) (hn : n ≤ 64) (hR : Kd.F LK w (· ≠ f) A L.length (ll8 L)) :
    Calls Try.prog 87 #[.pointer (some ⟨cp, 0, none⟩), .int .i64 (j : Int), .int .i64 (n : Int), .slice A L.length c] w fun e w' => ∃ v, e = .returned v ∧ BK.R 5 w' w.heap.size (fun _ => True) v (by8 (par xs ys j n L)) ∧ Kf f w w' ∧ Fld w' f := by
  have HLEN := Lib.hid hlen
  have HC := Lib.hid hc
  have HR := Lib.hid hR
  have HF := Lib.hid hf
  clear hlen hc hR hf
  go_enter Try.func87, Try.ntmps87
  go_wp2_with (first | ((with_reducible refine gate_dst (N := 16) rfl ?_); refine Kd.R_make BK (w0 := w) w.heap.size 5 rfl (N := 16) rfl 22 _ _ rfl (n : Int) rfl rfl Try.underlying22 (.int .u8 0) 1 infoB rfl (by decide) (by omega) 0 (ok := fun _ => True) (okp := fun _ => True) rfl (fun _ hk => hk) trivial (by omega) (by omega) (Below.refl _ _) (Nat.le_refl _) ?_; intro v1 w1 ho1 hb1 hg1 hown))
  have HO1 := Lib.hid (show BK.R 5 w1 w.heap.size (fun _ => True) v1 (by8 (parAt xs ys j L 0 0 n)) by rw [parAt_start]; exact ho1)
  have HK1 := Lib.hid ((Kf.refl f w).below hb1)
  have HF1 := Lib.hid (HF.out.below hb1)
  clear ho1 hb1 hg1 hown
  go_loopw [19] (fun i wr => ∃ k : Nat, k ≤ L.length ∧ i = .int .i64 k ∧ Hid (BK.R 5 wr w.heap.size (fun _ => True) v1 (by8 (parAt xs ys j L k 0 n))) ∧ Hid (Kf f w wr) ∧ Hid (Fld wr f)) (fun i _ => L.length - (intOf i).toNat)
  case atStart => exact ⟨0, Nat.zero_le _, rfl, HO1, HK1, HF1⟩
  case round =>
    obtain ⟨k, hk, rfl, HO, HK, HFR⟩ := hrel
    by_cases hlt : k < L.length
    · obtain ⟨ad, A0, c0, rfl, h0, hc0, hB0, hna⟩ := LK_F HR.out k (by omega)
      replace h0 := HK.out.cell h0 (by rw [add_block]; exact hna)
      have hkn := HLEN.out k hlt
      obtain ⟨d, hd⟩ : ∃ d, d = L.getD k [] := ⟨_, rfl⟩
      have hdl : d.length = n := by rw [hd]; exact hkn
      rw [ll8_getD L k hlt, by8_length, ← hd, hdl] at h0 hc0
      rw [ll8_getD L k hlt, by8_length, ← hd, hdl] at hB0
      have HD := Lib.hid hd
      have HB0 := Lib.hid hB0
      clear hd hdl hB0 hkn
      go_wp2_with (first | (go_at_call_of 26 (Value.pointer (some ⟨cp, 0, none⟩)); go_loud (refine (coef_num f cp xs ys j k _ _ rfl rfl hj (by omega) _ hl (HC.out.keep HK.out) HFR.out).mono ?_; rintro e w2 ⟨rfl, hk2, hf2⟩)))
      have HK2 := Lib.hid (HK.out.trans hk2)
      have HO2 := Lib.hid (R_kf HO.out hk2 HF.out.lt)
      have HF2 := Lib.hid hf2
      clear hk2 hf2
      go_loopw [30] (fun i wi => ∃ q : Nat, q ≤ n ∧ i = .int .i64 q ∧ Hid (BK.R 5 wi w.heap.size (fun _ => True) v1 (by8 (parAt xs ys j L k q n))) ∧ Hid (Kf f w wi) ∧ Hid (Fld wi f)) (fun i _ => n - (intOf i).toNat)
      case atStart => exact ⟨0, Nat.zero_le _, rfl, HO2, HK2, HF2⟩
      case round =>
        obtain ⟨q, hq, rfl, HOI, HKI, HFI⟩ := hrel
        by_cases hlq : q < n
        · obtain ⟨g, cap, rfl, hbg, hfr, hcell⟩ := R_form8 HOI.out (parAt_length xs ys j L k q n) (by omega)
          obtain ⟨ab, rfl, hb, hnb⟩ := BK_F (Kd.F_grown HB0.out HKI.out (fun k hk e => hk (Option.some.inj e))) q hlq
          rw [by8_getD] at hb
          obtain ⟨b, hbe⟩ : ∃ b, b = d.getD q 0 := ⟨_, rfl⟩
          rw [← hbe] at hb
          have HBE := Lib.hid hbe
          have hg := hcell q hlq
          have hz := hfr q
          obtain ⟨p, hpe⟩ : ∃ p, p = (parAt xs ys j L k q n).getD q 0 := ⟨_, rfl⟩
          rw [← hpe] at hg
          have HPE := Lib.hid hpe
          obtain ⟨AX, cX, AY, cY, hc0', _, _, _, _, hcpf⟩ := (HC.out.keep HKI.out).open_
          clear hbe hpe hcell hfr
          go_wp2
          have hgf : g ≠ f := fun e => by have := HF.out.lt; omega
          obtain ⟨m, hm⟩ : ∃ m, m = Hyp.mul (coef xs ys j k) b := ⟨_, rfl⟩
          have hbx := bxor p m
          have HM := Lib.hid hm
          clear hm
          refine start_ (n := 14) (S := fun w' => w'.cell? ⟨g, q, none⟩ = some (.int .u8 (p.toNat : Int)) ∧ w'.cell? ⟨cp, 0, none⟩ = some (.pointer (some ⟨f, 0, none⟩))) (ds := [13]) #[false, false, false, false, false, false, false, false, false, false, false, false, false, false] (by kernel_rfl) rfl rfl ?hS (fun hHeld => ?_)
          case hS => exact ⟨hg, hc0'⟩
          refine pure_ (i := 0) (N := some 35) (v := ?_) (a' := ?_) #[true, false, false, false, false, false, false, false, false, false, false, false, false, false] rfl rfl (by kernel_rfl) (fun _ _ _ h => h) (Or.inl ⟨by rfl, ?_⟩) ?_ ?_
          rotate_left
          · intro w'
            go_simp
            with_reducible rfl
          rotate_left
          · simp only [Act.put, List.setIfInBounds_toArray, List.set_cons_zero, List.set_cons_succ, i64_w, i32_w]
            rfl
          refine pure_ (i := 1) (N := some 36) (v := ?_) (a' := ?_) #[true, true, false, false, false, false, false, false, false, false, false, false, false, false] rfl rfl (by kernel_rfl) (fun _ _ _ h => h) (Or.inl ⟨by rfl, ?_⟩) ?_ ?_
          rotate_left
          · intro w'
            go_simp
            with_reducible rfl
          rotate_left
          · simp only [Act.put, List.setIfInBounds_toArray, List.set_cons_zero, List.set_cons_succ, i64_w, i32_w]
            rfl
          refine pure_ (i := 2) (N := some 37) (v := ?_) (a' := ?_) #[true, true, true, false, false, false, false, false, false, false, false, false, false, false] rfl rfl (by kernel_rfl) (fun _ _ _ h => h) (Or.inl ⟨by rfl, ?_⟩) ?_ ?_
          rotate_left
          · intro w'
            go_simp
            with_reducible rfl
          rotate_left
          · simp only [Act.put, List.setIfInBounds_toArray, List.set_cons_zero, List.set_cons_succ, i64_w, i32_w]
            rfl
          refine pure_ (i := 4) (N := some 39) (v := ?_) (a' := ?_) #[true, true, true, false, true, false, false, false, false, false, false, false, false, false] rfl rfl (by kernel_rfl) (fun _ _ _ h => h) (Or.inl ⟨by rfl, ?_⟩) ?_ ?_
          rotate_left
          · intro w'
            go_simp
            with_reducible rfl
          rotate_left
          · simp only [Act.put, List.setIfInBounds_toArray, List.set_cons_zero, List.set_cons_succ, i64_w, i32_w]
            rfl
          refine pure_ (i := 5) (N := some 40) (v := ?_) (a' := ?_) #[true, true, true, false, true, true, false, false, false, false, false, false, false, false] rfl rfl (by kernel_rfl) (fun _ _ _ h => h) (Or.inl ⟨by rfl, ?_⟩) ?_ ?_
          rotate_left
          · intro w'
            go_simp
            with_reducible rfl
          rotate_left
          · simp only [Act.put, List.setIfInBounds_toArray, List.set_cons_zero, List.set_cons_succ, i64_w, i32_w]
            rfl
          refine pure_ (i := 6) (N := some 41) (v := ?_) (a' := ?_) #[true, true, true, false, true, true, true, false, false, false, false, false, false, false] rfl rfl (by kernel_rfl) (fun _ _ _ h => h) (Or.inl ⟨by rfl, ?_⟩) ?_ ?_
          rotate_left
          · intro w'
            go_simp
            with_reducible rfl
          rotate_left
          · simp only [Act.put, List.setIfInBounds_toArray, List.set_cons_zero, List.set_cons_succ, i64_w, i32_w]
            rfl
          refine pure_ (i := 8) (N := some 43) (v := ?_) (a' := ?_) #[true, true, true, false, true, true, true, false, true, false, false, false, false, false] rfl rfl (by kernel_rfl) (fun _ _ _ h => h) (Or.inl ⟨by rfl, ?_⟩) ?_ ?_
          rotate_left
          · intro w'
            go_simp
            with_reducible rfl
          rotate_left
          · simp only [Act.put, List.setIfInBounds_toArray, List.set_cons_zero, List.set_cons_succ, i64_w, i32_w]
            rfl
          refine pure_ (i := 9) (N := some 44) (v := ?_) (a' := ?_) #[true, true, true, false, true, true, true, false, true, true, false, false, false, false] rfl rfl (by kernel_rfl) (fun _ _ _ h => h) (Or.inl ⟨by rfl, ?_⟩) ?_ ?_
          rotate_left
          · intro w'
            go_simp
            with_reducible rfl
          rotate_left
          · simp only [Act.put, List.setIfInBounds_toArray, List.set_cons_zero, List.set_cons_succ, i64_w, i32_w]
            rfl
          refine take_ (i := 3) (N := some 38) (v := ?_) (a' := ?_) #[true, true, true, true, true, true, true, false, true, true, false, false, false, false] rfl rfl (by kernel_rfl) (fun _ _ _ h => h) (Or.inl ⟨by rfl, ?_⟩) hHeld ?_ ?_
          rotate_left
          · rintro w' ⟨s0, s1⟩
            go_simp
            with_reducible rfl
          rotate_left
          · simp only [Act.put, List.setIfInBounds_toArray, List.set_cons_zero, List.set_cons_succ, i64_w, i32_w]
            rfl
          refine take_ (i := 7) (N := some 42) (v := ?_) (a' := ?_) #[true, true, true, true, true, true, true, true, true, true, false, false, false, false] rfl rfl (by kernel_rfl) (fun _ _ _ h => h) (Or.inl ⟨by rfl, ?_⟩) hHeld ?_ ?_
          rotate_left
          · rintro w' ⟨s0, s1⟩
            go_simp
            with_reducible rfl
          rotate_left
          · simp only [Act.put, List.setIfInBounds_toArray, List.set_cons_zero, List.set_cons_succ, i64_w, i32_w]
            rfl
          refine one_ (i := 10) (N := some 45) #[true, true, true, true, true, true, true, true, true, true, true, false, false, false] rfl rfl (by kernel_rfl) (by decide) (fun K hK => ?_)
          refine goes_ Try.func123 (by kernel_rfl) rfl #[.pointer (some ⟨f, 0, none⟩), .int .u8 ((coef xs ys j k).toNat : Int), .int .u8 (b.toNat : Int)] (by rfl) rfl rfl (by (try simp only [List.map_toArray, List.map_cons, List.map_nil]); first | done | rfl) ?_
          refine (mul_any f (coef xs ys j k) b _ (show Fld wr.drew f from HFI.out)).mono ?_
          rintro e w8 ⟨rfl, hk8, hf8⟩
          rw [← HM.out]
          have HK8 := Lib.hid (HKI.out.drew.trans hk8)
          have HF8 := Lib.hid hf8
          have HO8 := Lib.hid (R_kf (Kd.R_drew HOI.out) hk8 HF.out.lt)
          have HCK := Lib.hid hk8
          have hz8 : w8.frozen? ⟨g, q, none⟩ = false := (Kf.frz hk8 hgf hg).trans hz
          clear hk8 hf8
          refine ⟨_, rfl, ?_⟩
          refine hK.out _ _ (⟨HCK.out.cell hHeld.1 hgf, HCK.out.cell hHeld.2 hcpf⟩) (fun hHeld => ?_)
          clear hK K
          refine norm_ (a' := ?_) ?_ ?_
          rotate_left
          · show Act.put _ (some 45) _ = _
            simp only [Act.put, List.setIfInBounds_toArray, List.set_cons_zero, List.set_cons_succ, i64_w, i32_w]
            rfl
          refine pure_ (i := 11) (N := some 46) (v := ?_) (a' := ?_) #[true, true, true, true, true, true, true, true, true, true, true, true, false, false] rfl rfl (by kernel_rfl) (fun _ _ _ h => h) (Or.inl ⟨by rfl, ?_⟩) ?_ ?_
          rotate_left
          · intro w'
            go_simp
            with_reducible rfl
          rotate_left
          · simp only [Act.put, List.setIfInBounds_toArray, List.set_cons_zero, List.set_cons_succ, i64_w, i32_w]
            rfl
          refine pure_ (i := 12) (N := some 47) (v := ?_) (a' := ?_) #[true, true, true, true, true, true, true, true, true, true, true, true, true, false] rfl rfl (by kernel_rfl) (fun _ _ _ h => h) (Or.inl ⟨by rfl, ?_⟩) ?_ ?_
          rotate_left
          · intro w'
            go_simp
            with_reducible rfl
          rotate_left
          · simp only [Act.put, List.setIfInBounds_toArray, List.set_cons_zero, List.set_cons_succ, i64_w, i32_w]
            rfl
          refine last_ (i := 13) (N := none) #[true, true, true, true, true, true, true, true, true, true, true, true, true, true] rfl rfl (by kernel_rfl) (by decide) (fun K hK => ?_)
          refine skip_ (w1 := ?_) (by rfl) rfl ?_ ?_
          rotate_left
          · go_simp
            rfl
          refine hK.out _ _ ?_
          clear hK K
          refine done_ (by kernel_rfl) ?_
          go_wp2
          go_roundw
          case rel =>
            refine ⟨q + 1, by omega, by go_num, Lib.hid ?_, Lib.hid (HK8.out.put hbg _), Lib.hid (HF8.out.put (fun e => hgf e.symm) _)⟩
            have h1 := Kd.R_putn HO8.out ((q : Nat) : Int) ((p ^^^ m).toNat : Int)
            have h2 := parAt_put xs ys j L k q n hlq
            rw [← HPE.out, ← HD.out, ← HBE.out, ← HM.out] at h2
            rw [Int.toNat_natCast, h2] at h1
            exact h1
          case measure => simp [intOf]; omega
        · obtain rfl : q = n := by omega
          have HON := Lib.hid (show BK.R 5 wr w.heap.size (fun _ => True) v1 (by8 (parAt xs ys j L (k + 1) 0 q)) by rw [← parAt_next]; exact HOI.out)
          go_wp2
          go_roundw
          case rel => exact ⟨k + 1, by omega, by go_num, HON, HKI, HFI⟩
          case measure => simp [intOf]; omega
    · obtain rfl : k = L.length := by omega
      go_wp2
      go_ret
      exact ⟨_, rfl, by have := HO.out; rwa [parAt_done] at this, HK.out, HFR.out⟩
end Go.Proofs.Ytnfodhagfcjfpaa

/- (*Code).Encode. -/
namespace Go.Proofs.Ytnfodhagfcjfpaa
open Go.RowKit Go.Proofs.YtnfodhagfcjfpaaW.PrintWords Go.Proofs.YtnfodhagfcjfpaaW.PrintLast Go.Proofs.YtnfodhagfcjfpaaW.PrintMore
set_option linter.unusedVariables false
set_option linter.unusedSimpArgs false

/-- the first r parities -/
def enc (xs ys : List UInt8) (n : Nat) (L : Shs) (r : Nat) : Shs := (List.range r).map fun j => par xs ys j n L
theorem enc_length (xs ys : List UInt8) (n : Nat) (L : Shs) (r : Nat) : (enc xs ys n L r).length = r := by simp [enc]
theorem enc_succ (xs ys : List UInt8) (n : Nat) (L : Shs) (r : Nat) : ll8 (enc xs ys n L (r + 1)) = ll8 (enc xs ys n L r) ++ [by8 (par xs ys r n L)] := by
  simp [enc, ll8, List.range_succ]

theorem Kf.under {f : Nat} {a w w1 : World} (h : Kf f a w) (k : Below a.heap.size w w1) : Kf f a w1 :=
  ⟨k.os.trans h.os, k.tape.trans h.tape, k.output.trans h.output, Nat.le_trans h.size k.size, fun i hi hn => (k.block i hi).trans (h.block i hi hn)⟩
theorem Fld.under {f b : Nat} {w w1 : World} (h : Fld w f) (k : Below b w w1) (hf : f < b) : Fld w1 f := by
  rcases h with h | h
  · exact .inl ((k.block f hf).trans h)
  · exact .inr ((k.block f hf).trans h)

/-- what Encode leaves -/
def EncPost (f : Nat) (ll : Shs) (w : World) (e : Ending) (w' : World) : Prop :=
  ∃ v, e = .returned (.tuple #[v, .int .i64 0]) ∧ LK.R 22 w' w.heap.size (fun _ => True) v (ll8 ll) ∧ Kf f w w' ∧ Fld w' f
def EncNone (f : Nat) (w : World) (e : Ending) (w' : World) : Prop :=
  e = .returned (.tuple #[.slice none 0 0, .int .i64 1]) ∧ Kf f w w' ∧ Fld w' f

theorem encode_short (f cp : Nat) (xs ys : List UInt8) (A : Option Addr) (c m : Nat) (w : World) (hc : CodeU w f cp xs ys) (hf : Fld w f) (hm : m ≠ xs.length) :
    Calls Try.prog 33 #[.pointer (some ⟨cp, 0, none⟩), .slice A m c] w (EncNone f w) := by
  obtain ⟨AX, cX, AY, cY, h0, h1, h2, _, _, hcpf⟩ := hc.open_
  have b1 : ((m : Int) != (xs.length : Int)) = true := by rw [bne_iff_ne]; omega
  have HF := Lib.hid hf
  clear hm hc hf
  go_enter Try.func33, Try.ntmps33
  go_wp2
  go_ret2
  exact ⟨rfl, Kf.refl _ _, HF.out⟩

theorem containsL (K : FuncId) (hK : AsksLen K) (pl : Addr) (n : Nat) (A : Option Addr) (c : Nat) (L : Shs) (w : World) (hr : LK.C w A L.length (ll8 L)) (hc : w.cell? pl = some (.int .i64 (n : Int))) (b : Bool) (hb : (L.any fun l => decide (l.length ≠ n)) = b) :
    Calls Try.prog 81 #[.slice A L.length c, .func (.func K) #[] #[.pointer (some pl)]] w fun e w' => e = .returned (.bool b) ∧ w = w' := by
  have h := containsBB_any K hK pl n A c (ll8 L) w (by rw [ll8_length]; exact hr) hc
  rw [ll8_length] at h
  refine h.mono ?_
  rintro e w' ⟨rfl, rfl⟩
  refine ⟨?_, rfl⟩
  rw [← hb]
  unfold ll8
  rw [List.any_map]
  congr 3
  funext l
  simp [by8_length]
theorem any_none {L : Shs} {n : Nat} (h : ∀ i, i < L.length → (L.getD i []).length = n) : (L.any fun l => decide (l.length ≠ n)) = false := by
  rw [List.any_eq_false]
  intro l hl
  obtain ⟨i, hi, rfl⟩ := List.getElem_of_mem hl
  have := h i hi
  simp [List.getD_eq_getElem?_getD, hi] at this
  simp [this]

set_option maxRecDepth 100000 in
set_option maxHeartbeats 4000000 in
theorem encode_any (f cp : Nat) (xs ys : List UInt8) (n : Nat) (L : Shs) (A : Option Addr) (c : Nat) (w : World) (hc : CodeU w f cp xs ys) (hf : Fld w f) (hl : ys.length ≤ 255 ∧ xs.length ≤ 255)
    (hL : L.length = xs.length) (hx : 1 ≤ xs.length) (hlen : ∀ i, i < L.length → (L.getD i []).length = n) (hn : n ≤ 64) (hR : Kd.F LK w (· ≠ f) A L.length (ll8 L)) :
    Calls Try.prog 33 #[.pointer (some ⟨cp, 0, none⟩), .slice A L.length c] w (EncPost f (enc xs ys n L ys.length) w) := by
  obtain ⟨AX, cX, AY, cY, h0, h1, h2, _, _, hcpf⟩ := hc.open_
  have b1 : ((L.length : Int) != (xs.length : Int)) = false := by rw [bne_eq_false_iff_eq]; omega
  obtain ⟨ad, A0, c0, rfl, g0, hc0, hB0, hna⟩ := LK_F hR 0 (by omega)
  have hk0 := hlen 0 (by omega)
  rw [ll8_getD L 0 (by omega), by8_length, hk0] at g0 hc0
  rw [show ad.add 0 = ad from rfl] at g0
  have HF := Lib.hid hf
  have HC := Lib.hid hc
  have HR := Lib.hid hR
  have HL := Lib.hid hL
  have HLEN := Lib.hid hlen
  have hpos : 0 < L.length := by omega
  clear hc hf hB0 hk0 hL hlen hR
  go_enter Try.func33, Try.ntmps33
  have h64 : decide ((64 : Int) < n) = false := decide_eq_false (by omega)
  go_wp2_with (fail)
  obtain ⟨w1, hw1⟩ : ∃ w1, w1 = w.alloc (.cells #[.int .i64 (n : Int)] 3) := ⟨_, rfl⟩
  have hb1 : Below w.heap.size w w1 := by rw [hw1]; exact below_alloc (Below.refl _ _) _
  have hbox : w1.heap[w.heap.size]? = some (.cells #[.int .i64 (n : Int)] 3 (0, 0)) := by rw [hw1]; exact heap_alloc_new w _
  have hcb := blk_at hbox 0
  have HF1 := Lib.hid (HF.out.below hb1)
  have HC1 := Lib.hid (HC.out.below hb1)
  have HR1 := Lib.hid (Kd.F_below HR.out hb1)
  have HK1 := Lib.hid ((Kf.refl f w).below hb1)
  have hs1 := hb1.size
  have hfw : f < w.heap.size := HF.out.lt
  have hBF : w.heap.size ≠ f := by omega
  rw [← hw1]
  clear hb1 hw1 hbox h0 h1 h2
  replace hcb : w1.cell? ⟨w.heap.size, 0, none⟩ = some (.int .i64 (n : Int)) := hcb
  refine (containsL 86 asks_Encode1 ⟨w.heap.size, 0, none⟩ n (some ad) c L w1 (Kd.F_now HR1.out) hcb false (any_none HLEN.out)).mono ?_
  rintro e w2 ⟨rfl, rfl⟩
  obtain ⟨AX, cX, AY, cY, h0, h1, h2, _, _, hcpf⟩ := HC1.out.open_
  go_wp2
  go_loopw [7, 33] (fun v i wr => ∃ k : Nat, k ≤ ys.length ∧ i = .int .i64 k ∧ Hid (LK.R 22 wr w1.heap.size (fun _ => True) v (ll8 (enc xs ys n L k))) ∧ Hid (Kf f w1 wr) ∧ Hid (Fld wr f)) (fun _ i _ => ys.length - (intOf i).toNat)
  case atStart => exact ⟨0, Nat.zero_le _, rfl, Lib.hid (Kd.R_nil _ _ _ _ _), Lib.hid (Kf.refl _ _), HF1⟩
  case round =>
    obtain ⟨k, hk, rfl, HO, HK, HFR⟩ := hrel
    by_cases hlt : k < ys.length
    · have hcb2 := HK.out.cell hcb hBF
      have HRR := Lib.hid (Kd.F_grown HR1.out HK.out (fun k hk e => hk (Option.some.inj e)))
      go_wp2_with (first | (go_at_call 87; refine (parity_any f cp xs ys k n L (some ad) c _ (HC1.out.keep HK.out) HFR.out hl hlt (by have := HL.out; omega) HLEN.out hn HRR.out).mono ?_; rintro e w2 ⟨v2, rfl, hv2, hk2, hf2⟩; have HV2 := Lib.hid hv2; have HK2 := Lib.hid hk2; have HF2 := Lib.hid hf2; obtain ⟨A2, c2, rfl, _, _⟩ := Kd.R_reads hv2; clear hv2 hk2 hf2) | ((with_reducible refine gate_builtin (b := .append) (xs := #[.tmp 36, .tmp 42]) rfl ?_); at_builtin; refine Kd.R_append LK (w0 := w2) w1.heap.size rfl (.tmp 36) (.tmp 42) 56 22 (.slice none 0 0) 24 rfl Try.underlying56 infoBs rfl (by decide) (by omega) u7 (ll8 (enc xs ys n L k)) (by8 (par xs ys k n L)) [.slice A2 (by8 (par xs ys k n L)).length c2] (fun _ => True) (fun b => wr.heap.size ≤ b) rfl rfl ?aP ?aF ?aO ?aR ?aB ?aS ?aL ?_))
      case aP => exact Kd.M_row (Kd.R_mono (Kd.R_lower (Kd.R_bound HV2.out) HK.out.size) (fun b hb => hb.2.1))
      case aF => exact fun b hb => ⟨trivial, fun e => by have := Kd.R_lt HO.out b e.symm; omega⟩
      case aO => exact fun _ _ => trivial
      case aR => exact R_kf HO.out HK2.out (by omega)
      case aB => exact Below.refl _ _
      case aS => exact Nat.le_trans HK.out.size HK2.out.size
      case aL => rw [ll8_length, enc_length]; omega
      intro v3 w3 hv3 hb3 _ _
      have HV3 := Lib.hid (show LK.R 22 w3 w1.heap.size (fun _ => True) v3 (ll8 (enc xs ys n L (k + 1))) by rw [enc_succ]; exact hv3)
      have HK3 := Lib.hid ((HK.out.trans HK2.out).under hb3)
      have HF3 := Lib.hid (HF2.out.under hb3 (by omega))
      clear hv3 hb3
      go_wp2
      go_roundw
      case rel => exact ⟨k + 1, by omega, by go_num, HV3, HK3, HF3⟩
      case measure => simp [intOf]; omega
    · obtain rfl : k = ys.length := by omega
      go_wp2
      go_ret2
      exact ⟨_, rfl, Kd.R_lower HO.out hs1, HK1.out.trans HK.out, HFR.out⟩

set_option maxRecDepth 100000 in
set_option maxHeartbeats 4000000 in
theorem encode_long (f cp : Nat) (xs ys : List UInt8) (L : Shs) (A : Option Addr) (c : Nat) (w : World) (hc : CodeU w f cp xs ys) (hf : Fld w f)
    (hL : L.length = xs.length) (hx : 1 ≤ xs.length) (hn : 64 < (L.getD 0 []).length) (hR : LK.C w A L.length (ll8 L)) :
    Calls Try.prog 33 #[.pointer (some ⟨cp, 0, none⟩), .slice A L.length c] w (EncNone f w) := by
  obtain ⟨AX, cX, AY, cY, h0, h1, h2, _, _, hcpf⟩ := hc.open_
  have b1 : ((L.length : Int) != (xs.length : Int)) = false := by rw [bne_eq_false_iff_eq]; omega
  obtain ⟨ad, A0, c0, rfl, g0, hc0, hB0⟩ := LK_at hR 0 (by omega)
  rw [ll8_getD L 0 (by omega), by8_length] at g0 hc0
  rw [show ad.add 0 = ad from rfl] at g0
  obtain ⟨n, hne⟩ : ∃ n, n = (L.getD 0 []).length := ⟨_, rfl⟩
  rw [← hne] at g0 hc0 hn
  have HF := Lib.hid hf
  have hpos : 0 < L.length := by omega
  have h64 : decide ((64 : Int) < n) = true := decide_eq_true (by omega)
  clear hc hf hB0 hL hR hne
  go_enter Try.func33, Try.ntmps33
  go_wp2
  go_ret2
  exact ⟨rfl, (Kf.refl f w).below (below_alloc (Below.refl _ _) _), HF.out.below (below_alloc (Below.refl _ _) _)⟩
end Go.Proofs.Ytnfodhagfcjfpaa

/- conv.Split, conv.stripe. -/
namespace Go.Proofs.Ytnfodhagfcjfpaa
open Go.RowKit Go.Proofs.YtnfodhagfcjfpaaW.PrintWords Go.Proofs.YtnfodhagfcjfpaaW.PrintLast Go.Proofs.YtnfodhagfcjfpaaW.PrintMore
set_option linter.unusedVariables false
set_option linter.unusedSimpArgs false

theorem EncPost.elder {f : Nat} {ll : Shs} {w w1 : World} {e : Ending} {w' : World} (hb : Below w.heap.size w w1) (h : EncPost f ll w1 e w') : EncPost f ll w e w' := by
  obtain ⟨v, he, hr, hk, hf⟩ := h
  exact ⟨v, he, Kd.R_lower hr hb.size, ((Kf.refl f w).below hb).trans hk, hf⟩

set_option maxRecDepth 100000 in
set_option maxHeartbeats 4000000 in
theorem split_any (f t n : Nat) (T : Int) (hT : T = t) (ht : t < 3) (L : Shs) (A : Option Addr) (c : Nat) (w : World) (hf : Fld w f)
    (hL : L.length = 4) (hlen : ∀ i, i < L.length → (L.getD i []).length = n) (hn : n ≤ 64) (hR : Kd.F LK w (· ≠ f) A L.length (ll8 L)) :
    Calls Try.prog 30 #[.pointer (some ⟨f, 0, none⟩), .int .i64 T, .slice A L.length c] w (EncPost f (enc (nxs t) nys n L 2) w) := by
  have HT := Lib.hid hT
  have HLEN := Lib.hid hlen
  have HF := Lib.hid hf
  have HR := Lib.hid hR
  have HL := Lib.hid hL
  clear hT hlen hf hR hL
  go_enter Try.func30, Try.ntmps30
  go_wp2_with (first | (go_at_call 24; refine (narrow_num f t T HT.out ht _ HF.out.lt).mono ?_; rintro e w1 ⟨cp, rfl, hb1, hn1, hc1⟩; have HB1 := Lib.hid hb1; have HC1 := Lib.hid hc1; have HF1 := Lib.hid (HF.out.below hb1); have HR1 := Lib.hid (Kd.F_below HR.out hb1); clear hb1 hc1) | (go_at_call 33; refine (encode_any f cp (nxs t) nys n L A c _ HC1.out HF1.out (by rw [show (nxs t).length = 4 from rowU_length _ _]; decide) (by rw [show (nxs t).length = 4 from rowU_length _ _]; exact HL.out) (by rw [show (nxs t).length = 4 from rowU_length _ _]; decide) HLEN.out hn HR1.out).mono ?_; rintro e w2 hp; obtain ⟨v, rfl, hv, hk, hf2⟩ := EncPost.elder HB1.out hp; have HV := Lib.hid hv; clear hv hp))
  have HK := Lib.hid hk
  have HF2 := Lib.hid hf2
  clear hk hf2
  go_wp2
  go_ret2
  exact ⟨v, rfl, HV.out, HK.out, HF2.out⟩

theorem split_no (fp : Value) (T : Int) (ht : T < 0 ∨ 3 ≤ T) (A : Option Addr) (n c : Nat) (w : World) :
    Calls Try.prog 30 #[fp, .int .i64 T, .slice A n c] w fun e w' => e = .returned (.tuple #[.slice none 0 0, .int .i64 1]) ∧ w = w' := by
  have HT := Lib.hid ht
  clear ht
  go_enter Try.func30, Try.ntmps30
  go_wp2_with (first | (go_at_call 24; refine (narrow_no _ T HT.out _).mono ?_; rintro e w1 ⟨rfl, rfl⟩))
  go_ret2
  exact ⟨rfl, rfl⟩

/-- conv.stripe tells: six shards, all n long, 1 <= n <= 64; the world has one block more -/
theorem stripe_any (L : Shs) (n : Nat) (A : Option Addr) (c : Nat) (w : World) (hR : LK.C w A L.length (ll8 L)) (b : Bool) (hb : b = (decide (L.length = 6) && decide (1 ≤ n) && decide (n ≤ 64) && !(L.any fun l => decide (l.length ≠ n)))) :
    Calls Try.prog 84 #[.slice A L.length c, .int .i64 (n : Int)] w fun e w' => e = .returned (.bool b) ∧ w.alloc (.cells #[.int .i64 (n : Int)] 3) = w' := by
  have hcb : (w.alloc (.cells #[.int .i64 (n : Int)] 3)).cell? ⟨w.heap.size, 0, none⟩ = some (.int .i64 (n : Int)) := blk_at (heap_alloc_new w _) 0
  have HR := Lib.hid (Kd.C_below hR (below_alloc (Below.refl _ _) (.cells #[.int .i64 (n : Int)] 3)))
  have HB := Lib.hid hb
  clear hR hb
  by_cases h6 : L.length = 6
  · have c6 : ((L.length : Int) == 6) = true := by rw [beq_iff_eq]; omega
    have d6 := decide_eq_true h6
    by_cases h1 : 1 ≤ n
    · have c1 : decide ((1 : Int) ≤ n) = true := decide_eq_true (by omega)
      have d1 := decide_eq_true h1
      by_cases h64 : n ≤ 64
      · have c64 : decide ((n : Int) ≤ 64) = true := decide_eq_true (by omega)
        have d64 := decide_eq_true h64
        obtain ⟨x, hx⟩ : ∃ x, (L.any fun l => decide (l.length ≠ n)) = x := ⟨_, rfl⟩
        have HX := Lib.hid hx
        have HBX := Lib.hid (show b = !x by rw [HB.out, d6, d1, d64, hx]; simp)
        clear h6 d6 d1 d64 hx
        go_enter Try.func84, Try.ntmps84
        go_wp2_with (first | (go_at_call 81; refine (containsL 122 asks_stripe1 ⟨w.heap.size, 0, none⟩ n A c L _ HR.out hcb x HX.out).mono ?_; rintro e w2 ⟨rfl, rfl⟩))
        go_ret
        exact ⟨by rw [HBX.out]; first | rfl | simp, rfl⟩
      · have c64 : decide ((n : Int) ≤ 64) = false := decide_eq_false (by omega)
        have d64 := decide_eq_false h64
        have HBX := Lib.hid (show b = false by rw [HB.out, d64]; simp)
        clear h6 d6 d1 d64 h1 h64
        go_enter Try.func84, Try.ntmps84
        go_wp2
        go_ret
        exact ⟨by rw [HBX.out]; first | rfl | simp, rfl⟩
    · have c1 : decide ((1 : Int) ≤ n) = false := decide_eq_false (by omega)
      have d1 := decide_eq_false h1
      have HBX := Lib.hid (show b = false by rw [HB.out, d1]; simp)
      clear h6 d6 d1 h1
      go_enter Try.func84, Try.ntmps84
      go_wp2
      go_ret
      exact ⟨by rw [HBX.out]; first | rfl | simp, rfl⟩
  · have c6 : ((L.length : Int) == 6) = false := by rw [beq_eq_false_iff_ne]; omega
    have d6 := decide_eq_false h6
    have HBX := Lib.hid (show b = false by rw [HB.out, d6]; simp)
    clear h6 d6
    go_enter Try.func84, Try.ntmps84
    go_wp2
    go_ret
    exact ⟨by rw [HBX.out]; first | rfl | simp, rfl⟩
end Go.Proofs.Ytnfodhagfcjfpaa
