/- code.New: what it makes, and what it refuses. -/
import Derived.Test.YtnfodhagfcjfpaaL3
import Derived.Test.YtnfodhagfcjfpaaSrtE
namespace Go.Proofs.Ytnfodhagfcjfpaa
open Go.RowKit Go.Proofs.YtnfodhagfcjfpaaW.PrintWords Go.Proofs.YtnfodhagfcjfpaaW.PrintLast Go.Proofs.YtnfodhagfcjfpaaW.PrintMore
set_option linter.unusedVariables false
set_option linter.unusedSimpArgs false

theorem neigh_nodup (L : List Int) : Neigh (fun j => (L.mergeSort fun x y => decide (x ≤ y)).getD j 0) L.length ↔ L.Nodup := by
  have hp := List.mergeSort_perm L (fun x y => decide (x ≤ y))
  have hs := List.pairwise_mergeSort (le := fun x y : Int => decide (x ≤ y)) (fun a b c h1 h2 => by simp at h1 h2 ⊢; omega) (fun a b => by simp; omega) L
  generalize hS : (L.mergeSort fun x y => decide (x ≤ y)) = S at hp hs
  rw [← hp.nodup_iff, ← hp.length_eq]
  have hle : ∀ i j (hi : i < S.length) (hj : j < S.length), i < j → S[i] ≤ S[j] := fun i j hi hj hij => by
    have := List.pairwise_iff_getElem.1 hs i j hi hj hij
    simpa using this
  constructor
  · intro hN
    rw [List.Nodup, List.pairwise_iff_getElem]
    intro i j hi hj hij
    have h1 := hN i (by omega)
    simp only at h1
    rw [getD_lt _ _ _ hi, getD_lt _ _ _ (by omega)] at h1
    have h2 := hle i (i + 1) hi (by omega) (by omega)
    have h3 : S[i + 1] ≤ S[j] := by
      by_cases e : i + 1 = j
      · subst e; exact Int.le_refl _
      · exact hle (i + 1) j (by omega) hj (by omega)
    omega
  · intro hN j hj
    simp only
    rw [getD_lt _ _ _ (by omega), getD_lt _ _ _ hj]
    exact List.pairwise_iff_getElem.1 hN j (j + 1) (by omega) hj (by omega)

def sorted (L : List Int) : List Int := L.mergeSort fun x y => decide (x ≤ y)
theorem sorted_length (L : List Int) : (sorted L).length = L.length := (List.mergeSort_perm L _).length_eq

def SortPost (g : Nat) (L : List Int) (w : World) (e : Ending) (w' : World) : Prop := e = .returned (.tuple #[]) ∧ w.grownBy w' (some g) ∧ Row8 w' g L.length (fun j => (sorted L).getD j 0)

theorem sortB_any (g cap : Nat) (L : List Int) (w : World) (hrow : Row8 w g L.length (fun j => L.getD j 0)) (hg : g < w.heap.size) (hn : L.length ≤ big) :
    Calls Try.prog 98 #[.slice (some ⟨g, 0, none⟩) L.length cap] w (SortPost g L w) := by
  have hH : Go.Sort.Holds (Value.int .u8) w g 0 L.toArray := by
    intro j hj
    have hj' : j < L.length := by simpa using hj
    refine ⟨?_, hrow.free _⟩
    rw [Nat.zero_add, hrow.cell j hj']
    simp [getD_lt L j 0 hj', hj']
  refine (SB.slices_Sort_int g 0 cap L w hH hg (by unfold big at hn; omega)).mono ?_
  rintro e w' ⟨rfl, n, os, rfl⟩
  have hH1 := Go.Sort.holds_putRow (Value.int .u8) (Go.Sort.ahead w n) g 0 L.toArray (sorted L).toArray (Go.Sort.holds_ahead _ _ _ _ _ _ hH) (by simp [sorted_length])
  have hg1 : g < (Go.Sort.putRow (Value.int .u8) (Go.Sort.ahead w n) g 0 (sorted L).toArray).heap.size := by simpa [Go.Sort.putRow, Go.Sort.mapBlock, Go.Sort.ahead] using hg
  have hH2 := Go.Sort.holds_grow (Value.int .u8) _ os g 0 _ hg1 hH1
  refine ⟨rfl, ⟨rfl, rfl, rfl, ?_, fun i hi hne => ?_⟩, ⟨fun j hj => ?_, fun j => ?_⟩⟩
  · simp [Go.Sort.grow, Go.Sort.putRow, Go.Sort.mapBlock, Go.Sort.ahead]
  · have hi2 : i < (Go.Sort.putRow (Value.int .u8) (Go.Sort.ahead w n) g 0 (sorted L).toArray).heap.size := by simpa [Go.Sort.putRow, Go.Sort.mapBlock, Go.Sort.ahead] using hi
    refine (Go.Sort.heap_grow_old _ os hi2).trans ?_
    have hgi : g ≠ i := fun e => hne (by rw [e])
    simp [Go.Sort.putRow, Go.Sort.mapBlock, Go.Sort.ahead, Array.getElem?_modify, hgi]
  · have h := (hH2 j (by simpa [sorted_length] using hj)).1
    rw [Nat.zero_add] at h
    have hjs : j < (sorted L).length := by rw [sorted_length]; exact hj
    refine Eq.trans h ?_
    simp [getD_lt _ j 0 hjs, hjs]
  · rw [Go.Sort.frozen?_grow _ _ _ hg1]
    unfold Go.Sort.putRow
    rw [Go.Sort.frozen?_mapBlock]
    exact hrow.free j

/-- At cp lies a code over the field f: of X and Y. -/
def CodeIs (w : World) (f cp : Nat) (X Y : List Int) : Prop :=
  ∃ AX cX AY cY, w.heap[cp]? = some (.cells #[.pointer (some ⟨f, 0, none⟩), .slice AX X.length cX, .slice AY Y.length cY] 155 (0, 0)) ∧ cp ≠ f ∧ X.length ≤ cX ∧ Y.length ≤ cY ∧
    Kd.F BK w (· ≠ f) AX X.length X ∧ Kd.F BK w (· ≠ f) AY Y.length Y

theorem CodeIs.keep {w w1 : World} {f cp : Nat} {X Y : List Int} (h : CodeIs w f cp X Y) (hk : Kf f w w1) : CodeIs w1 f cp X Y := by
  obtain ⟨AX, cX, AY, cY, hb, hne, h1, h2, hX, hY⟩ := h
  exact ⟨AX, cX, AY, cY, hk.heap hb hne, hne, h1, h2, Kd.F_grown hX hk (fun k hk e => hk (Option.some.inj e)), Kd.F_grown hY hk (fun k hk e => hk (Option.some.inj e))⟩
end Go.Proofs.Ytnfodhagfcjfpaa
