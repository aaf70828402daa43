/- The field's block: without tables, or with them; what stays read beside it; what sync.Once, the closure that makes the tables, and the methods tables, Mul and Inv do to it. -/
import Derived.Test.YtnfodhagfcjfpaaProg
import Derived.Test.YtnfodhagfcjfpaaGf
import Derived.WalkKit
import Derived.WalkSpells
import Derived.WalkLawsBesides
import Derived.Lib.Hide
import Derived.Deep.QuietTactic
import Derived.Deep.LoopGhost
import Derived.BigQuiet
import Derived.BigRegion
import Derived.Tactics2
import Derived.Defers
import Derived.Laws.Pointers
import Derived.Laws.LoneSync
import Derived.RegionTactic
import Derived.RegionCalls
import Derived.ChangeAlike
namespace Go.Proofs.Ytnfodhagfcjfpaa
open Go.RowKit

/-! ### the frame: block f alone may have turned -/
/-- w' is w but for new blocks and for what block f holds. -/
abbrev Kf (f : Nat) (w w' : World) : Prop := w.grownBy w' (some f)

theorem Kf.refl (f : Nat) (w : World) : Kf f w w := ⟨rfl, rfl, rfl, Nat.le_refl _, fun _ _ _ => rfl⟩
theorem Kf.trans {f : Nat} {a b c : World} (h : Kf f a b) (k : Kf f b c) : Kf f a c :=
  ⟨k.os.trans h.os, k.tape.trans h.tape, k.output.trans h.output, Nat.le_trans h.size k.size, fun i hi hn => (k.block i (Nat.lt_of_lt_of_le hi h.size) hn).trans (h.block i hi hn)⟩
theorem Kf.drew {f : Nat} {a w : World} (h : Kf f a w) : Kf f a w.drew := ⟨h.os, h.tape, h.output, h.size, h.block⟩
theorem Kf.drewN {f : Nat} {a w : World} (h : Kf f a w) (n : Nat) : Kf f a (w.drewN n) := ⟨h.os, h.tape, h.output, h.size, h.block⟩
theorem Kf.alloc {f : Nat} {a w : World} (h : Kf f a w) (o : Obj) : Kf f a (w.alloc o) := h.trans (World.grownBy_alloc w o _)
theorem Kf.set {f : Nat} {a w : World} (h : Kf f a w) (j : Nat) (u : Value) : Kf f a (w.setCell ⟨f, j, none⟩ u) :=
  ⟨h.os, h.tape, h.output, by simpa [World.setCell] using h.size, fun i hi hn => (Below.heap_setCell w ⟨f, j, none⟩ u i (fun e => hn (by rw [e]))).trans (h.block i hi hn)⟩
theorem Kf.below {f : Nat} {a w w1 : World} (h : Kf f a w) (k : Below w.heap.size w w1) : Kf f a w1 :=
  h.trans ⟨k.os, k.tape, k.output, k.size, fun i hi _ => k.block i hi⟩
theorem Kf.heap {f : Nat} {a w : World} (h : Kf f a w) {g : Nat} {o : Obj} (hg : a.heap[g]? = some o) (hne : g ≠ f) : w.heap[g]? = some o :=
  (h.block g (Array.getElem?_eq_some_iff.1 hg).1 (fun e => hne (Option.some.inj e))).trans hg
theorem Kf.cell {f : Nat} {a w : World} (h : Kf f a w) {p : Addr} {v : Value} (hc : a.cell? p = some v) (hne : p.block ≠ f) : w.cell? p = some v :=
  World.grownBy.cell h hc (fun e => hne (Option.some.inj e))

/-! ### the field's cells -/
/-- cell i: o done, m the lock, q how often made; k exponents, l logarithms are laid -/
def fcell (o m q : Int) (k l i : Nat) : Value :=
  if i = 0 then .int .u32 o else if i = 1 then .int .i32 m else if i = 2 then .int .u32 0 else if i = 3 then .int .i64 q else
  if i < 514 then .int .u8 (if (i - 4) % 255 < k then ((Hyp.gexp ((i - 4) % 255)).toNat : Int) else 0) else
  .int .i64 (if i ≠ 514 ∧ Hyp.glog (UInt8.ofNat (i - 514)) < l then (Hyp.glog (UInt8.ofNat (i - 514)) : Int) else 0)
def fcells (o m q : Int) (k l : Nat) : Array Value := Array.ofFn (n := 770) fun i => fcell o m q k l i

theorem fcells_get (o m q : Int) (k l i : Nat) (h : i < 770) : (fcells o m q k l)[i]? = some (fcell o m q k l i) := by
  simp [fcells, h]
theorem fcells_size (o m q : Int) (k l : Nat) : (fcells o m q k l).size = 770 := by simp [fcells]

/-- the block f is a field's: without tables -/
def FFresh (w : World) (f : Nat) : Prop := w.heap[f]? = some (.cells (fcells 0 0 0 0 0) 152 (0, 0))
/-- .. with them -/
def FMade (w : World) (f : Nat) : Prop := w.heap[f]? = some (.cells (fcells 1 0 1 255 255) 152 (0, 0))
def Fld (w : World) (f : Nat) : Prop := FFresh w f ∨ FMade w f

theorem Fld.lt {w : World} {f : Nat} (h : Fld w f) : f < w.heap.size := by
  rcases h with h | h <;> exact (Array.getElem?_eq_some_iff.1 h).1
theorem FMade.drewN {w : World} {f : Nat} (h : FMade w f) (n : Nat) : FMade (w.drewN n) f := h
theorem Fld.drewN {w : World} {f : Nat} (h : Fld w f) (n : Nat) : Fld (w.drewN n) f := h
theorem Fld.below {w w1 : World} {f : Nat} (h : Fld w f) (hb : Below w.heap.size w w1) : Fld w1 f := by
  have hl := h.lt
  rcases h with h | h
  · exact .inl ((hb.block f hl).trans h)
  · exact .inr ((hb.block f hl).trans h)
theorem Fld.alloc {w : World} {f : Nat} (h : Fld w f) (o : Obj) : Fld (w.alloc o) f := h.below ((Below.refl _ _).alloc (Nat.le_refl _) o)
theorem FMade.fld {w : World} {f : Nat} (h : FMade w f) : Fld w f := .inr h

theorem blk_at {w : World} {g : Nat} {t : TypeId} {cs : Array Value} {fr : Nat × Nat} (h : w.heap[g]? = some (.cells cs t fr)) (i : Nat) : w.cell? ⟨g, i, none⟩ = cs[i]? := cell_of_row w g i cs t fr h
theorem blk_free {w : World} {g : Nat} {t : TypeId} {cs : Array Value} (h : w.heap[g]? = some (.cells cs t (0, 0))) (i : Nat) : w.frozen? ⟨g, i, none⟩ = false := by simp [World.frozen?, h]
theorem blk_put {w : World} {g : Nat} {t : TypeId} {cs : Array Value} {fr : Nat × Nat} (h : w.heap[g]? = some (.cells cs t fr)) (i : Nat) (u : Value) : (w.setCell ⟨g, i, none⟩ u).heap[g]? = some (.cells (cs.setIfInBounds i u) t fr) := by
  simp [World.setCell, Array.getElem?_modify, h]
theorem blk_else {w : World} {g : Nat} {o : Obj} (h : w.heap[g]? = some o) {p : Addr} (hp : g ≠ p.block) (u : Value) : (w.setCell p u).heap[g]? = some o := (Below.heap_setCell w p u g hp).trans h

/-- a store into the field's cells is the cells of another state -/
theorem fcells_set {o m q o' m' q' : Int} {k l k' l' i : Nat} {u : Value} (hi : i < 770) (hu : u = fcell o' m' q' k' l' i) (h : ∀ j, j < 770 → j ≠ i → fcell o m q k l j = fcell o' m' q' k' l' j) :
    (fcells o m q k l).setIfInBounds i u = fcells o' m' q' k' l' := by
  apply Array.ext_getElem?
  intro j
  rw [Array.getElem?_setIfInBounds]
  by_cases hj : j < 770
  · by_cases hij : i = j
    · subst hij
      rw [if_pos rfl, if_pos (by rw [fcells_size]; exact hi), fcells_get _ _ _ _ _ _ hi, hu]
    · rw [if_neg hij, fcells_get _ _ _ _ _ _ hj, fcells_get _ _ _ _ _ _ hj, h j hj (fun e => hij e.symm)]
  · rw [if_neg (by omega)]
    rw [Array.getElem?_eq_none (by rw [fcells_size]; omega), Array.getElem?_eq_none (by rw [fcells_size]; omega)]

/-! ### sync.Once -/
theorem disable (w : World) : (callFunc 250 #[]).run Try.prog w = .ok (.value (.tuple #[])) w := run_call_mark0 Try.func250 (by kernel_rfl) (by kernel_rfl) (by kernel_rfl) .disable (by kernel_rfl) w
theorem enable (w : World) : (callFunc 252 #[]).run Try.prog w = .ok (.value (.tuple #[])) w := run_call_mark0 Try.func252 (by kernel_rfl) (by kernel_rfl) (by kernel_rfl) .enable (by kernel_rfl) w
theorem acquire (a : Addr) (w : World) : (callFunc 253 #[.pointer (some a)]).run Try.prog w = .ok (.value (.tuple #[])) w := run_call_marked Try.func253 (by kernel_rfl) (by kernel_rfl) (by kernel_rfl) .acquire (by kernel_rfl) a w
theorem releaseMerge (a : Addr) (w : World) : (callFunc 255 #[.pointer (some a)]).run Try.prog w = .ok (.value (.tuple #[])) w := run_call_marked Try.func255 (by kernel_rfl) (by kernel_rfl) (by kernel_rfl) .releaseMerge (by kernel_rfl) a w

theorem store_deferred (a : Addr) (x : Value) (u : FrameMode) (w : World) (hc : w.cell? a = some x) (hz : w.frozen? a = false) :
    CallsD Try.prog 234 #[.pointer (some a), .bool true] u w fun e u' w' => u' = u ∧ (e = .returned (.tuple #[]) ∧ w' = w.drew.setCell a (.int .u32 1)) := by
  have hc' : w.drew.cell? a = some x := by go_simp
  have hz' : w.drew.frozen? a = false := by go_simp
  have hst := run_call_store (P := Try.prog) Try.func246 (by kernel_rfl) (by kernel_rfl) (by kernel_rfl) (by kernel_rfl) (k := .u32) (y := 1) hc' hz'
  go_enter_d Try.func234, Try.ntmps234
  go_wp2
  go_region_calls
  all_goals (go_end0; exact ⟨rfl, rfl⟩)

set_option maxRecDepth 100000 in
theorem unlock_deferred (a : Addr) (u : FrameMode) (w : World) (hc : w.cell? a = some (.int .i32 1)) (hz : w.frozen? a = false) :
    CallsD Try.prog 233 #[.pointer (some a)] u w fun e u' w' => u' = u ∧ (e = .returned (.tuple #[]) ∧ w' = w.setCell a (.int .i32 0)) := by
  have hd := disable
  have he := enable
  have hr := releaseMerge
  have hadd := run_call_add (P := Try.prog) Try.func256 (by kernel_rfl) (by kernel_rfl) (by kernel_rfl) .i32 (by kernel_rfl) (y := -1) (s := 0) hc hz (by simp [go_sem]; rfl)
  have hcv := run_convert_to_unsafe (P := Try.prog) (src := 309) (dst := 313) Try.underlying309 Try.underlying313 (by kernel_rfl) hc
  go_enter_d Try.func233, Try.ntmps233
  go_wp2
  go_end0
  go_wp2
  go_end0
  exact ⟨rfl, rfl⟩

set_option maxRecDepth 100000 in
theorem lock_free (a : Addr) (w : World) (hc : w.cell? a = some (.int .i32 0)) (hz : w.frozen? a = false) :
    Calls Try.prog 232 #[.pointer (some a)] w fun e w' => e = .returned (.tuple #[]) ∧ w' = w.setCell a (.int .i32 1) := by
  have hd := disable
  have he := enable
  have ha := acquire
  have hcas := run_call_cas_hit (P := Try.prog) Try.func251 (by kernel_rfl) (by kernel_rfl) (by kernel_rfl) .i32 (by kernel_rfl) (y := 1) hc hz
  have hc' : (w.setCell a (.int .i32 1)).cell? a = some (.int .i32 1) := World.cell?_setCell_same w a _ hc
  have hcv := run_convert_to_unsafe (P := Try.prog) (src := 309) (dst := 313) Try.underlying309 Try.underlying313 (by kernel_rfl) hc'
  go_enter Try.func232, Try.ntmps232
  go_wp2
  first | go_end0 | (simp only [Exit.inBlock, Exit.then]; refine bodyPost_ret (results_none rfl _ _ _) rfl ?_) | refine bodyPost_ret (results_none rfl _ _ _) rfl ?_
  go_wp2
  go_end0
  exact ⟨rfl, rfl⟩
end Go.Proofs.Ytnfodhagfcjfpaa
