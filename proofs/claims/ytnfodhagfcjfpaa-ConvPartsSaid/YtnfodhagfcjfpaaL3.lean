/- slices.Compact at bytes: its length. -/
import Derived.Test.YtnfodhagfcjfpaaL2
import Derived.Lib.SliceRun
namespace Go.Proofs.Ytnfodhagfcjfpaa
open Go.RowKit Go.Proofs.YtnfodhagfcjfpaaW.PrintWords Go.Proofs.YtnfodhagfcjfpaaW.PrintLast Go.Proofs.YtnfodhagfcjfpaaW.PrintMore
set_option linter.unusedVariables false
set_option linter.unusedSimpArgs false

/-- block g holds n bytes f from its head on, none of them frozen -/
structure Row8 (w : World) (g n : Nat) (f : Nat → Int) : Prop where
  cell : ∀ j, j < n → w.cell? ⟨g, j, none⟩ = some (.int .u8 (f j))
  free : ∀ j, w.frozen? ⟨g, j, none⟩ = false

theorem Row8.set {w : World} {g n : Nat} {f : Nat → Int} (h : Row8 w g n f) (i : Nat) (x : Int) (hi : i < n) :
    Row8 (w.setCell ⟨g, i, none⟩ (.int .u8 x)) g n (fun j => if j = i then x else f j) := by
  refine ⟨fun j hj => ?_, fun j => ?_⟩
  · by_cases he : j = i
    · subst he
      rw [if_pos rfl]
      exact World.cell?_setCell_same _ _ _ (h.cell j hj)
    · rw [if_neg he]
      exact (World.cell?_setCell_other _ _ _ _ (fun e => he (by injection e with _ e; exact e.symm))).trans (h.cell j hj)
  · rw [World.frozen?_setCell]
    exact h.free j
theorem Row8.drewN {w : World} {g n : Nat} {f : Nat → Int} (h : Row8 w g n f) (m : Nat) : Row8 (w.drewN m) g n f := ⟨fun j hj => by rw [World.cell?_drewN]; exact h.cell j hj, fun j => by rw [World.frozen?_drewN]; exact h.free j⟩

def Neigh (f : Nat → Int) (n : Nat) : Prop := ∀ j, j + 1 < n → f j ≠ f (j + 1)

def CompactPost (f : Nat → Int) (g n : Nat) (w : World) (e : Ending) (w' : World) : Prop :=
  ∃ A' n' c', e = .returned (.slice A' n' c') ∧ w.grownBy w' (some g) ∧ (n' = n ↔ Neigh f n)

theorem gb_refl (w : World) (r : Option Nat) : w.grownBy w r := ⟨rfl, rfl, rfl, Nat.le_refl _, fun _ _ _ => rfl⟩
theorem gb_drewN {w w1 : World} {r : Option Nat} (h : w.grownBy w1 r) (m : Nat) : w.grownBy (w1.drewN m) r := ⟨h.os, h.tape, h.output, h.size, h.block⟩

theorem zero8 (w : World) : (zeroValue 5).run Try.prog w = .ok (.int .u8 0) w := by kernel_rfl

set_option maxRecDepth 100000 in
set_option maxHeartbeats 2000000 in
theorem compactB_any (g n c : Nat) (f : Nat → Int) (w : World) (hrow : Row8 w g n f) (hn : n ≤ big) (hnc : n ≤ c) (hcb : c ≤ 9223372036854775807) :
    Calls Try.prog 99 #[.slice (some ⟨g, 0, none⟩) n c] w (CompactPost f g n w) := by
  have HROW := Lib.hid hrow
  unfold big at hn
  clear hrow
  by_cases h2 : n < 2
  · have hb : decide ((n : Int) < 2) = true := decide_eq_true (by omega)
    go_enter Try.func99, Try.ntmps99
    go_wp2
    go_ret
    exact ⟨_, _, _, rfl, gb_refl _ _, ⟨fun _ j hj => by omega, fun _ => rfl⟩⟩
  · have hb : decide ((n : Int) < 2) = false := decide_eq_false (by omega)
    go_enter Try.func99, Try.ntmps99
    go_wp2
    go_loopw [3] (fun i wr => ∃ k m : Nat, 1 ≤ k ∧ k ≤ n ∧ i = .int .i64 k ∧ Hid (wr = w.drewN m) ∧ Hid (∀ j, j + 1 < k → f j ≠ f (j + 1))) (fun i _ => n - (intOf i).toNat)
    case atStart => exact ⟨1, 0, by omega, by omega, rfl, Lib.hid rfl, Lib.hid (fun j hj => by omega)⟩
    case round =>
      obtain ⟨k, m, hk1, hk, rfl, HW, HN⟩ := hrel
      by_cases hlt : k < n
      · have hr1 : Row8 wr g n f := by rw [HW.out]; exact HROW.out.drewN m
        have c1 := hr1.cell k hlt
        have c2 := hr1.cell (k - 1) (by omega)
        obtain ⟨x, hx⟩ : ∃ x, x = f k := ⟨_, rfl⟩
        obtain ⟨y, hy⟩ : ∃ y, y = f (k - 1) := ⟨_, rfl⟩
        rw [← hx] at c1
        rw [← hy] at c2
        have HX := Lib.hid hx
        have HY := Lib.hid hy
        have HR1 := Lib.hid hr1
        clear hx hy hr1
        by_cases hxy : x = y
        · have hxb : (x == y) = true := by simp [hxy]
          have HXY := Lib.hid hxy
          clear hxy
          go_wp2
          go_quiet (fail)
          go_wp2
          have HN0 := Lib.hid (show ¬ Neigh f n from fun hN => hN (k - 1) (by omega) (by rw [show k - 1 + 1 = k by omega, ← HX.out, ← HY.out, HXY.out]))
          clear HX HY hxb c1 c2 HN
          go_loopw [3, 5] (fun i i2 wq => ∃ (kk k2 : Nat) (f' : Nat → Int), 1 ≤ k2 ∧ k2 ≤ n - k ∧ kk + 1 ≤ k + k2 ∧ 1 ≤ kk ∧ i = .int .i64 kk ∧ i2 = .int .i64 k2 ∧ Hid (Row8 wq g n f') ∧ Hid (w.grownBy wq (some g))) (fun _ i2 _ => n - k - (intOf i2).toNat)
          case atStart => exact ⟨k, 1, f, by omega, by omega, by omega, by omega, rfl, rfl, Lib.hid (HR1.out.drewN _), Lib.hid (by rw [HW.out]; exact gb_drewN (gb_drewN (gb_refl _ _) _) _)⟩
          case round =>
            obtain ⟨kk, k2, f', h21, h22, hkk, hkk1, rfl, rfl, HQ, HG⟩ := hrel
            by_cases hl2 : k2 < n - k
            · have c1 := HQ.out.cell (k + k2) (by omega)
              have c2 := HQ.out.cell (k + (k2 - 1)) (by omega)
              have c3 := HQ.out.cell kk (by omega)
              have z3 := HQ.out.free kk
              obtain ⟨x', hx⟩ : ∃ x', x' = f' (k + k2) := ⟨_, rfl⟩
              obtain ⟨y', hy⟩ : ∃ y', y' = f' (k + (k2 - 1)) := ⟨_, rfl⟩
              rw [← hx] at c1
              rw [← hy] at c2
              clear hx hy
              go_wp2
              go_quiet (fail)
              go_wp2
              all_goals go_roundw
              case rel => exact ⟨kk + 1, k2 + 1, _, by omega, by omega, by omega, by omega, by go_num, by go_num, Lib.hid ((HQ.out.set kk x' (by omega)).drewN nq), Lib.hid ⟨HG.out.os, HG.out.tape, HG.out.output, by simpa [World.setCell] using HG.out.size, fun i hi hne => (Below.heap_setCell _ _ _ i (fun e => hne (by rw [e]))).trans (HG.out.block i hi hne)⟩⟩
              case measure => simp [intOf]; omega
              case rel => exact ⟨kk, k2 + 1, f', by omega, by omega, by omega, by omega, rfl, by go_num, Lib.hid (HQ.out.drewN nq), Lib.hid (gb_drewN HG.out nq)⟩
              case measure => simp [intOf]; omega
            · obtain rfl : k2 = n - k := by omega
              have hclr := Lib.run_clear_slice (P := Try.prog) wr 22 5 0 (.int .u8 0) Try.underlying22 zero8 rfl rfl g kk (n - kk) (c - kk) (by omega) (fun j hj => by rw [HQ.out.cell (kk + j) (by omega)]; rfl) (fun j _ => HQ.out.free _)
              go_wp2
              go_ret
              refine ⟨_, _, _, rfl, ?_, ⟨fun h => absurd h (by omega), fun h => absurd h HN0.out⟩⟩
              obtain ⟨s1, s2, s3, s4⟩ := setCells_same g (List.replicate (n - kk) (Value.int .u8 0)) kk wr
              exact ⟨s1.trans HG.out.os, s2.trans HG.out.tape, s3.trans HG.out.output, by rw [s4]; exact HG.out.size, fun i hi hne => (setCells_far _ _ i (fun e => hne (by rw [e]))).trans (HG.out.block i hi hne)⟩
        · have hxb : (x == y) = false := by simp [hxy]
          have HXY := Lib.hid hxy
          clear hxy
          go_wp2
          go_quiet (fail)
          go_wp2
          go_roundw
          case rel =>
            refine ⟨k + 1, m + nq, by omega, by omega, by go_num, Lib.hid ?_, Lib.hid ?_⟩
            · rw [HW.out, World.drewN_drewN]
            · intro j hj
              by_cases hjk : j + 1 < k
              · exact HN.out j hjk
              · obtain rfl : j = k - 1 := by omega
                rw [show k - 1 + 1 = k by omega, ← HX.out, ← HY.out]
                exact fun e => HXY.out e.symm
          case measure => simp [intOf]; omega
      · obtain rfl : k = n := by omega
        go_wp2
        go_ret
        refine ⟨_, _, _, rfl, ?_, ⟨fun _ => HN.out, fun _ => rfl⟩⟩
        rw [HW.out]
        exact gb_drewN (gb_refl _ _) _
end Go.Proofs.Ytnfodhagfcjfpaa
