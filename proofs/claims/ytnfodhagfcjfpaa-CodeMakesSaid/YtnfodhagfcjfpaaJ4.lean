/- J4: M1, M2, M3, M4, M5, one behind the other. -/
import Derived.Test.YtnfodhagfcjfpaaJ3
import Derived.BigQuiet
/- Matrices in memory: row, At. -/
namespace Go.Proofs.Ytnfodhagfcjfpaa
open Go.RowKit Go.Proofs.YtnfodhagfcjfpaaW.PrintWords Go.Proofs.YtnfodhagfcjfpaaW.PrintLast Go.Proofs.YtnfodhagfcjfpaaW.PrintMore
set_option linter.unusedVariables false
set_option linter.unusedSimpArgs false

/-- w' is w but for the field's block, block g, and new ones -/
structure K2 (f g : Nat) (w w' : World) : Prop where
  os : w'.os = w.os
  tape : w'.tape = w.tape
  output : w'.output = w.output
  size : w.heap.size ≤ w'.heap.size
  block : ∀ i, i < w.heap.size → i ≠ f → i ≠ g → w'.heap[i]? = w.heap[i]?
theorem K2.refl (f g : Nat) (w : World) : K2 f g w w := ⟨rfl, rfl, rfl, Nat.le_refl _, fun _ _ _ _ => rfl⟩
theorem K2.trans {f g : Nat} {a b c : World} (h : K2 f g a b) (k : K2 f g b c) : K2 f g a c :=
  ⟨k.os.trans h.os, k.tape.trans h.tape, k.output.trans h.output, Nat.le_trans h.size k.size, fun i hi hf hg => (k.block i (Nat.lt_of_lt_of_le hi h.size) hf hg).trans (h.block i hi hf hg)⟩
theorem K2.drewN {f g : Nat} {a w : World} (h : K2 f g a w) (n : Nat) : K2 f g a (w.drewN n) := ⟨h.os, h.tape, h.output, h.size, h.block⟩
theorem K2.drew {f g : Nat} {a w : World} (h : K2 f g a w) : K2 f g a w.drew := ⟨h.os, h.tape, h.output, h.size, h.block⟩
theorem K2.of_kf {f g : Nat} {a w : World} (h : Kf f a w) : K2 f g a w := ⟨h.os, h.tape, h.output, h.size, fun i hi hf _ => h.block i hi (fun e => hf (Option.some.inj e))⟩
theorem K2.put {f g i : Nat} {a w : World} (h : K2 f g a w) (u : Value) : K2 f g a (w.setCell ⟨g, i, none⟩ u) :=
  ⟨h.os, h.tape, h.output, by simpa [World.setCell] using h.size, fun k hk hf hg => (Below.heap_setCell w ⟨g, i, none⟩ u k (fun e => hg e)).trans (h.block k hk hf hg)⟩
/-- block g is new -/
theorem K2.kf {f g : Nat} {a w w1 : World} (h : K2 f g w w1) (ha : Kf f a w) (hg : a.heap.size ≤ g) : Kf f a w1 :=
  ⟨h.os.trans ha.os, h.tape.trans ha.tape, h.output.trans ha.output, Nat.le_trans ha.size h.size, fun i hi hn => (h.block i (Nat.lt_of_lt_of_le hi ha.size) (fun e => hn (e ▸ rfl)) (by omega)).trans (ha.block i hi hn)⟩
theorem K2.heap {f g k : Nat} {a w : World} (h : K2 f g a w) {o : Obj} (hb : a.heap[k]? = some o) (hf : k ≠ f) (hg : k ≠ g) : w.heap[k]? = some o :=
  (h.block k (Array.getElem?_eq_some_iff.1 hb).1 hf hg).trans hb

/-- the matrix at mp, its cells in block g -/
structure MatAt (w : World) (f mp g n : Nat) (A : Hyp.Mat) : Prop where
  head : ∃ cap, n * n ≤ cap ∧ w.heap[mp]? = some (.cells #[.pointer (some ⟨f, 0, none⟩), .int .i64 (n : Int), .int .i64 (n : Int), .slice (some ⟨g, 0, none⟩) (n * n) cap] 258 (0, 0)) ∧
    BK.R 5 w 0 (fun k => k = g) (.slice (some ⟨g, 0, none⟩) (n * n) cap) (by8 (Hyp.cellsOf n A))
  ne1 : mp ≠ f
  ne2 : mp ≠ g
  ne3 : g ≠ f
theorem MatAt.keep {w w1 : World} {f mp g g2 n : Nat} {A : Hyp.Mat} (h : MatAt w f mp g n A) (k : K2 f g2 w w1) (h1 : mp ≠ g2) (h2 : g ≠ g2) : MatAt w1 f mp g n A := by
  obtain ⟨⟨cap, hc, hb, hr⟩, a, b, c⟩ := h
  exact ⟨⟨cap, hc, k.heap hb a h1, Kd.R_step hr (fun i hi hlt => k.block i hlt (by omega) (by omega))⟩, a, b, c⟩
theorem MatAt.kf {w w1 : World} {f mp g n : Nat} {A : Hyp.Mat} (h : MatAt w f mp g n A) (k : Kf f w w1) : MatAt w1 f mp g n A := by
  obtain ⟨⟨cap, hc, hb, hr⟩, a, b, c⟩ := h
  exact ⟨⟨cap, hc, k.heap hb a, Kd.R_step hr (fun i hi hlt => k.block i hlt (fun e => by injection e; omega))⟩, a, b, c⟩

/-- what a walk reads of a matrix -/
theorem MatAt.open_ {w : World} {f mp g n : Nat} {A : Hyp.Mat} (h : MatAt w f mp g n A) :
    ∃ cap, n * n ≤ cap ∧ w.cell? ⟨mp, 0, none⟩ = some (.pointer (some ⟨f, 0, none⟩)) ∧ w.cell? ⟨mp, 1, none⟩ = some (.int .i64 (n : Int)) ∧ w.cell? ⟨mp, 2, none⟩ = some (.int .i64 (n : Int)) ∧ w.cell? ⟨mp, 3, none⟩ = some (.slice (some ⟨g, 0, none⟩) (n * n) cap) ∧
      (∀ t, t < n * n → w.cell? ⟨g, t, none⟩ = some (.int .u8 (((Hyp.cellsOf n A).getD t 0).toNat : Int))) ∧ (∀ t, 0 < n → w.frozen? ⟨g, t, none⟩ = false) ∧ BK.R 5 w 0 (fun k => k = g) (.slice (some ⟨g, 0, none⟩) (n * n) cap) (by8 (Hyp.cellsOf n A)) := by
  obtain ⟨⟨cap, hc, hb, hr⟩, a, b, c⟩ := h
  refine ⟨cap, hc, (blk_at hb 0).trans rfl, (blk_at hb 1).trans rfl, (blk_at hb 2).trans rfl, (blk_at hb 3).trans rfl, fun t ht => ?_, fun t hn => ?_, hr⟩
  · obtain ⟨_, _, he, _, _, h4⟩ := R_form8 hr (Hyp.cellsOf_length n A) (by omega)
    injection he with he
    injection he with he
    injection he with he
    subst he
    exact h4 t ht
  · have hp : 0 < n * n := Nat.mul_pos hn hn
    obtain ⟨_, _, he, _, h3, _⟩ := R_form8 hr (Hyp.cellsOf_length n A) hp
    injection he with he
    injection he with he
    injection he with he
    subst he
    exact h3 t

set_option maxRecDepth 100000 in
set_option maxHeartbeats 2000000 in
theorem matRow_core (mp g nn cap lo hi : Nat) (I N I1 : Int) (w : World) (e1 : IntKind.i64.wrap (I * N) = (lo : Int)) (e2 : IntKind.i64.wrap (I + 1) = I1) (e3 : IntKind.i64.wrap (I1 * N) = (hi : Int)) (h01 : lo < hi) (h02 : hi ≤ cap)
    (h2 : w.cell? ⟨mp, 2, none⟩ = some (.int .i64 N)) (h3 : w.cell? ⟨mp, 3, none⟩ = some (.slice (some ⟨g, 0, none⟩) nn cap)) :
    Calls Try.prog 228 #[.pointer (some ⟨mp, 0, none⟩), .int .i64 I] w fun e w' => e = .returned (.slice (some ⟨g, lo, none⟩) (hi - lo) (cap - lo)) ∧ ∃ m, w.drewN m = w' := by
  have h03 : ¬ cap = lo := by omega
  have h04 : lo ≤ hi := by omega
  go_enter Try.func228, Try.ntmps228
  go_wp2
  go_quiet (fail)
  go_wp2
  go_ret
  exact ⟨rfl, _, rfl⟩

theorem mul_i64 {i n : Nat} {I N : Int} (hI : I = i) (hN : N = n) (hi : i ≤ 32) (hn : n ≤ 32) : IntKind.i64.wrap (I * N) = ((i * n : Nat) : Int) := by
  subst hI
  subst hN
  have h : i * n ≤ 32 * 32 := Nat.mul_le_mul hi hn
  rw [← Int.natCast_mul, IntWalk.i64_in _ ⟨by omega, by omega⟩]

theorem matRow_any {f mp g n : Nat} {A : Hyp.Mat} {w : World} (hm : MatAt w f mp g n A) (i : Nat) (I : Int) (hI : I = i) (hi : i < n) (hn : n ≤ 32) :
    ∃ c, Calls Try.prog 228 #[.pointer (some ⟨mp, 0, none⟩), .int .i64 I] w fun e w' => e = .returned (.slice (some ⟨g, i * n, none⟩) n c) ∧ ∃ m, w.drewN m = w' := by
  obtain ⟨cap, hc, _, _, h2, h3, _⟩ := hm.open_
  have hlt : i * n + n ≤ n * n := by
    have h : (i + 1) * n ≤ n * n := Nat.mul_le_mul_right n hi
    rwa [Nat.add_mul, Nat.one_mul] at h
  refine ⟨cap - i * n, ?_⟩
  have h := matRow_core mp g (n * n) cap (i * n) (i * n + n) I n (I + 1) w (mul_i64 hI rfl (by omega) hn) (by rw [IntWalk.i64_in _ ⟨by omega, by omega⟩]) (by rw [mul_i64 (i := i + 1) (n := n) (by omega) rfl (by omega) hn, Nat.add_mul, Nat.one_mul]) (by omega) (by omega) h2 h3
  rwa [Nat.add_sub_cancel_left] at h

set_option maxRecDepth 100000 in
set_option maxHeartbeats 2000000 in
theorem matAt_core (mp g nn cap ix : Nat) (I J N IN : Int) (u : UInt8) (w : World) (h01 : decide (I < 0) = false) (h02 : decide (N ≤ I) = false) (h03 : decide (J < 0) = false) (h04 : decide (N ≤ J) = false)
    (e1 : IntKind.i64.wrap (I * N) = IN) (e2 : IntKind.i64.wrap (IN + J) = (ix : Int)) (hix : ix < nn)
    (h1 : w.cell? ⟨mp, 1, none⟩ = some (.int .i64 N)) (h2 : w.cell? ⟨mp, 2, none⟩ = some (.int .i64 N)) (h3 : w.cell? ⟨mp, 3, none⟩ = some (.slice (some ⟨g, 0, none⟩) nn cap)) (h4 : w.cell? ⟨g, ix, none⟩ = some (.int .u8 (u.toNat : Int))) :
    Calls Try.prog 155 #[.pointer (some ⟨mp, 0, none⟩), .int .i64 I, .int .i64 J] w fun e w' => e = .returned (.int .u8 (u.toNat : Int)) ∧ ∃ m, w.drewN m = w' := by
  go_enter Try.func155, Try.ntmps155
  go_wp2
  go_quiet (fail)
  go_wp2
  go_ret
  exact ⟨rfl, _, rfl⟩

theorem matAt_any {f mp g n : Nat} {A : Hyp.Mat} {w : World} (hm : MatAt w f mp g n A) (i j : Nat) (I J : Int) (hI : I = i) (hJ : J = j) (hi : i < n) (hj : j < n) (hn : n ≤ 32) :
    Calls Try.prog 155 #[.pointer (some ⟨mp, 0, none⟩), .int .i64 I, .int .i64 J] w fun e w' => e = .returned (.int .u8 ((A i j).toNat : Int)) ∧ ∃ m, w.drewN m = w' := by
  obtain ⟨cap, hc, _, h1, h2, h3, h4, _⟩ := hm.open_
  have hlt := Hyp.cell_lt hi hj
  have hsm : i * n + j ≤ 32 * 32 := by
    have h : n * n ≤ 32 * 32 := Nat.mul_le_mul hn hn
    omega
  have hc4 := h4 _ hlt
  rw [Hyp.cellsOf_getD n A hi hj] at hc4
  subst hJ
  exact matAt_core mp g (n * n) cap (i * n + j) I j n ((i * n : Nat) : Int) (A i j) w (decide_eq_false (by omega)) (decide_eq_false (by omega)) (decide_eq_false (by omega)) (decide_eq_false (by omega)) (mul_i64 hI rfl (by omega) hn)
    (by rw [IntWalk.i64_in _ ⟨by omega, by omega⟩]; omega) hlt h1 h2 h3 hc4
end Go.Proofs.Ytnfodhagfcjfpaa

/- Matrices in memory: swap, scale, add. -/
namespace Go.Proofs.Ytnfodhagfcjfpaa
open Go.RowKit Go.Proofs.YtnfodhagfcjfpaaW.PrintWords Go.Proofs.YtnfodhagfcjfpaaW.PrintLast Go.Proofs.YtnfodhagfcjfpaaW.PrintMore
set_option linter.unusedVariables false
set_option linter.unusedSimpArgs false

theorem MatAt.put {w : World} {f mp g n i j : Nat} {A : Hyp.Mat} (h : MatAt w f mp g n A) (hi : i < n) (hj : j < n) (u : UInt8) : MatAt (w.setCell ⟨g, i * n + j, none⟩ (.int .u8 (u.toNat : Int))) f mp g n (Hyp.put A i j u) := by
  obtain ⟨⟨cap, hc, hb, hr⟩, a, b, c⟩ := h
  refine ⟨⟨cap, hc, blk_else hb b _, ?_⟩, a, b, c⟩
  have h1 := Kd.R_putn hr ((i * n + j : Nat) : Int) (u.toNat : Int)
  rw [Int.toNat_natCast] at h1
  rw [← Hyp.cellsOf_put n A hi hj u]
  have e : by8 ((Hyp.cellsOf n A).set (i * n + j) u) = (by8 (Hyp.cellsOf n A)).set (i * n + j) (u.toNat : Int) := by simp [by8, List.map_set]
  rw [e]
  exact h1
theorem MatAt.congr {w : World} {f mp g n : Nat} {A B : Hyp.Mat} (h : MatAt w f mp g n A) (he : ∀ i j, i < n → j < n → A i j = B i j) : MatAt w f mp g n B := by
  obtain ⟨⟨cap, hc, hb, hr⟩, a, b, c⟩ := h
  exact ⟨⟨cap, hc, hb, by rw [← Hyp.cellsOf_congr he]; exact hr⟩, a, b, c⟩
theorem MatAt.cell {w : World} {f mp g n i j : Nat} {A : Hyp.Mat} (h : MatAt w f mp g n A) (hi : i < n) (hj : j < n) : w.cell? ⟨g, i * n + j, none⟩ = some (.int .u8 ((A i j).toNat : Int)) := by
  obtain ⟨cap, hc, _, _, _, _, h4, _⟩ := h.open_
  have := h4 _ (Hyp.cell_lt hi hj)
  rwa [Hyp.cellsOf_getD n A hi hj] at this
theorem MatAt.free {w : World} {f mp g n : Nat} {A : Hyp.Mat} (h : MatAt w f mp g n A) (hn : 0 < n) (t : Nat) : w.frozen? ⟨g, t, none⟩ = false := by
  obtain ⟨cap, hc, _, _, _, _, _, h5, _⟩ := h.open_
  exact h5 t hn

/-- swapped in the first k columns -/
def swUp (A : Hyp.Mat) (p c k : Nat) : Hyp.Mat := fun i j => if j < k then Hyp.rswap A p c i j else A i j
theorem swUp_step (A : Hyp.Mat) (p c k i j : Nat) : Hyp.put (Hyp.put (swUp A p c k) p k (swUp A p c k c k)) c k (swUp A p c k p k) i j = swUp A p c (k + 1) i j := by
  unfold Hyp.put swUp Hyp.rswap
  by_cases hj : j = k
  · subst hj
    simp only [Nat.lt_irrefl, if_false, Nat.lt_succ_self, if_true, and_true]
    by_cases h1 : i = c
    · by_cases h2 : i = p
      · rw [if_pos h1, if_pos h2, ← h1, ← h2]
      · rw [if_pos h1, if_neg h2, if_pos h1]
    · rw [if_neg h1]
      by_cases h2 : i = p
      · rw [if_pos h2, if_pos h2]
      · rw [if_neg h2, if_neg h2, if_neg h1]
  · simp only [hj, and_false, if_false]
    by_cases h : j < k
    · simp only [h, show j < k + 1 by omega, if_true]
    · simp only [h, show ¬ j < k + 1 by omega, if_false]

theorem K2.weak {f g : Nat} {w w1 : World} (h : K2 g g w w1) : K2 f g w w1 := ⟨h.os, h.tape, h.output, h.size, fun i hi _ hg => h.block i hi hg hg⟩
theorem K2.fld {f g : Nat} {w w1 : World} (k : K2 g g w w1) (hne : f ≠ g) (hf : Fld w f) : Fld w1 f := by
  have h := k.block f hf.lt hne hne
  rcases hf with hf | hf
  · exact .inl (h.trans hf)
  · exact .inr (h.trans hf)

/-- what a change of a matrix leaves -/
def MatPost (f mp g n : Nat) (A : Hyp.Mat) (w : World) (e : Ending) (w' : World) : Prop :=
  e = .returned (.tuple #[]) ∧ MatAt w' f mp g n A ∧ K2 g g w w'

set_option maxRecDepth 100000 in
set_option maxHeartbeats 4000000 in
theorem matSwap_any {f mp g n : Nat} {A : Hyp.Mat} {w : World} (hm : MatAt w f mp g n A) (p c : Nat) (hp : p < n) (hc : c < n) (hn : n ≤ 32) :
    Calls Try.prog 190 #[.pointer (some ⟨mp, 0, none⟩), .int .i64 (p : Int), .int .i64 (c : Int)] w (MatPost f mp g n (Hyp.rswap A p c) w) := by
  obtain ⟨cap, _, _, _, h2, _⟩ := hm.open_
  have HM := Lib.hid hm
  clear hm
  go_enter Try.func190, Try.ntmps190
  go_wp2
  go_loopw [11] (fun i wr => ∃ k : Nat, k ≤ n ∧ i = .int .i64 k ∧ Hid (MatAt wr f mp g n (swUp A p c k)) ∧ Hid (K2 g g w wr)) (fun i _ => n - (intOf i).toNat)
  case atStart => exact ⟨0, Nat.zero_le _, rfl, Lib.hid (HM.out.congr fun i j _ _ => by simp [swUp]), Lib.hid (K2.refl _ _ _)⟩
  case round =>
    obtain ⟨k, hk, rfl, HMR, HK⟩ := hrel
    by_cases hlt : k < n
    · obtain ⟨x, hx⟩ : ∃ x, x = swUp A p c k c k := ⟨_, rfl⟩
      obtain ⟨y, hy⟩ : ∃ y, y = swUp A p c k p k := ⟨_, rfl⟩
      have hcx := HMR.out.cell hc hlt
      have hcy := HMR.out.cell hp hlt
      rw [← hx] at hcx
      rw [← hy] at hcy
      have HX := Lib.hid hx
      have HY := Lib.hid hy
      have hzw : ∀ t, wr.frozen? ⟨g, t, none⟩ = false := fun t => HMR.out.free (by omega) t
      clear hx hy
      go_wp2
      refine start_ (n := 24) (S := fun w' => MatAt w' f mp g n (swUp A p c k) ∧ K2 g g w w' ∧ w'.cell? ⟨g, c * n + k, none⟩ = some (.int .u8 (x.toNat : Int)) ∧ w'.cell? ⟨g, p * n + k, none⟩ = some (.int .u8 (y.toNat : Int)) ∧ ∀ t, w'.frozen? ⟨g, t, none⟩ = false) (ds := [21, 23]) #[false, false, false, false, false, false, false, false, false, false, false, false, false, false, false, false, false, false, false, false, false, false, false, false] (by kernel_rfl) rfl rfl ?hS (fun hHeld => ?_)
      case hS => exact ⟨HMR.out.kf (Kf.refl f wr).drew, HK.out.drew, hcx, hcy, fun t => HMR.out.free (by omega) t⟩
      refine pure_ (i := 0) (N := some 14) (v := ?_) (a' := ?_) #[true, false, false, false, false, false, false, false, false, false, false, false, false, false, false, false, false, false, false, false, false, false, false, false] rfl rfl (by kernel_rfl) (fun _ _ _ h => h) (Or.inl ⟨by rfl, ?_⟩) ?_ ?_
      rotate_left
      · intro w'
        go_simp
        with_reducible rfl
      rotate_left
      · simp only [Act.put, List.setIfInBounds_toArray, List.set_cons_zero, List.set_cons_succ, i64_w, i32_w]
        rfl
      refine pure_ (i := 1) (N := some 15) (v := ?_) (a' := ?_) #[true, true, false, false, false, false, false, false, false, false, false, false, false, false, false, false, false, false, false, false, false, false, false, false] rfl rfl (by kernel_rfl) (fun _ _ _ h => h) (Or.inl ⟨by rfl, ?_⟩) ?_ ?_
      rotate_left
      · intro w'
        go_simp
        with_reducible rfl
      rotate_left
      · simp only [Act.put, List.setIfInBounds_toArray, List.set_cons_zero, List.set_cons_succ, i64_w, i32_w]
        rfl
      refine pure_ (i := 3) (N := some 17) (v := ?_) (a' := ?_) #[true, true, false, true, false, false, false, false, false, false, false, false, false, false, false, false, false, false, false, false, false, false, false, false] rfl rfl (by kernel_rfl) (fun _ _ _ h => h) (Or.inl ⟨by rfl, ?_⟩) ?_ ?_
      rotate_left
      · intro w'
        go_simp
        with_reducible rfl
      rotate_left
      · simp only [Act.put, List.setIfInBounds_toArray, List.set_cons_zero, List.set_cons_succ, i64_w, i32_w]
        rfl
      refine pure_ (i := 4) (N := some 18) (v := ?_) (a' := ?_) #[true, true, false, true, true, false, false, false, false, false, false, false, false, false, false, false, false, false, false, false, false, false, false, false] rfl rfl (by kernel_rfl) (fun _ _ _ h => h) (Or.inl ⟨by rfl, ?_⟩) ?_ ?_
      rotate_left
      · intro w'
        go_simp
        with_reducible rfl
      rotate_left
      · simp only [Act.put, List.setIfInBounds_toArray, List.set_cons_zero, List.set_cons_succ, i64_w, i32_w]
        rfl
      refine pure_ (i := 5) (N := some 19) (v := ?_) (a' := ?_) #[true, true, false, true, true, true, false, false, false, false, false, false, false, false, false, false, false, false, false, false, false, false, false, false] rfl rfl (by kernel_rfl) (fun _ _ _ h => h) (Or.inl ⟨by rfl, ?_⟩) ?_ ?_
      rotate_left
      · intro w'
        go_simp
        with_reducible rfl
      rotate_left
      · simp only [Act.put, List.setIfInBounds_toArray, List.set_cons_zero, List.set_cons_succ, i64_w, i32_w]
        rfl
      refine pure_ (i := 7) (N := some 21) (v := ?_) (a' := ?_) #[true, true, false, true, true, true, false, true, false, false, false, false, false, false, false, false, false, false, false, false, false, false, false, false] rfl rfl (by kernel_rfl) (fun _ _ _ h => h) (Or.inl ⟨by rfl, ?_⟩) ?_ ?_
      rotate_left
      · intro w'
        go_simp
        with_reducible rfl
      rotate_left
      · simp only [Act.put, List.setIfInBounds_toArray, List.set_cons_zero, List.set_cons_succ, i64_w, i32_w]
        rfl
      refine pure_ (i := 8) (N := some 22) (v := ?_) (a' := ?_) #[true, true, false, true, true, true, false, true, true, false, false, false, false, false, false, false, false, false, false, false, false, false, false, false] rfl rfl (by kernel_rfl) (fun _ _ _ h => h) (Or.inl ⟨by rfl, ?_⟩) ?_ ?_
      rotate_left
      · intro w'
        go_simp
        with_reducible rfl
      rotate_left
      · simp only [Act.put, List.setIfInBounds_toArray, List.set_cons_zero, List.set_cons_succ, i64_w, i32_w]
        rfl
      refine pure_ (i := 9) (N := some 23) (v := ?_) (a' := ?_) #[true, true, false, true, true, true, false, true, true, true, false, false, false, false, false, false, false, false, false, false, false, false, false, false] rfl rfl (by kernel_rfl) (fun _ _ _ h => h) (Or.inl ⟨by rfl, ?_⟩) ?_ ?_
      rotate_left
      · intro w'
        go_simp
        with_reducible rfl
      rotate_left
      · simp only [Act.put, List.setIfInBounds_toArray, List.set_cons_zero, List.set_cons_succ, i64_w, i32_w]
        rfl
      refine pure_ (i := 11) (N := some 25) (v := ?_) (a' := ?_) #[true, true, false, true, true, true, false, true, true, true, false, true, false, false, false, false, false, false, false, false, false, false, false, false] rfl rfl (by kernel_rfl) (fun _ _ _ h => h) (Or.inl ⟨by rfl, ?_⟩) ?_ ?_
      rotate_left
      · intro w'
        go_simp
        with_reducible rfl
      rotate_left
      · simp only [Act.put, List.setIfInBounds_toArray, List.set_cons_zero, List.set_cons_succ, i64_w, i32_w]
        rfl
      refine pure_ (i := 14) (N := some 28) (v := ?_) (a' := ?_) #[true, true, false, true, true, true, false, true, true, true, false, true, false, false, true, false, false, false, false, false, false, false, false, false] rfl rfl (by kernel_rfl) (fun _ _ _ h => h) (Or.inl ⟨by rfl, ?_⟩) ?_ ?_
      rotate_left
      · intro w'
        go_simp
        with_reducible rfl
      rotate_left
      · simp only [Act.put, List.setIfInBounds_toArray, List.set_cons_zero, List.set_cons_succ, i64_w, i32_w]
        rfl
      refine pure_ (i := 15) (N := some 29) (v := ?_) (a' := ?_) #[true, true, false, true, true, true, false, true, true, true, false, true, false, false, true, true, false, false, false, false, false, false, false, false] rfl rfl (by kernel_rfl) (fun _ _ _ h => h) (Or.inl ⟨by rfl, ?_⟩) ?_ ?_
      rotate_left
      · intro w'
        go_simp
        with_reducible rfl
      rotate_left
      · simp only [Act.put, List.setIfInBounds_toArray, List.set_cons_zero, List.set_cons_succ, i64_w, i32_w]
        rfl
      refine pure_ (i := 17) (N := some 31) (v := ?_) (a' := ?_) #[true, true, false, true, true, true, false, true, true, true, false, true, false, false, true, true, false, true, false, false, false, false, false, false] rfl rfl (by kernel_rfl) (fun _ _ _ h => h) (Or.inl ⟨by rfl, ?_⟩) ?_ ?_
      rotate_left
      · intro w'
        go_simp
        with_reducible rfl
      rotate_left
      · simp only [Act.put, List.setIfInBounds_toArray, List.set_cons_zero, List.set_cons_succ, i64_w, i32_w]
        rfl
      refine one_ (i := 2) (N := some 16) #[true, true, true, true, true, true, false, true, true, true, false, true, false, false, true, true, false, true, false, false, false, false, false, false] rfl rfl (by kernel_rfl) (by decide) (fun K hK => ?_)
      refine goes_ Try.func228 (by kernel_rfl) rfl #[.pointer (some ⟨mp, 0, none⟩), .int .i64 (p : Int)] (by rfl) rfl rfl (by (try simp only [List.map_toArray, List.map_cons, List.map_nil]); first | done | rfl) ?_
      obtain ⟨c2, hc2⟩ := matRow_any hHeld.1 p _ rfl hp hn
      refine hc2.mono ?_
      rintro e w8 ⟨rfl, m2, rfl⟩
      refine ⟨_, rfl, ?_⟩
      refine hK.out _ _ (⟨hHeld.1.kf ((Kf.refl f _).drewN m2), hHeld.2.1.drewN m2, hHeld.2.2.1, hHeld.2.2.2.1, hHeld.2.2.2.2⟩) (fun hHeld => ?_)
      clear hK K
      refine norm_ (a' := ?_) ?_ ?_
      rotate_left
      · show Act.put _ (some 16) _ = _
        simp only [Act.put, List.setIfInBounds_toArray, List.set_cons_zero, List.set_cons_succ, i64_w, i32_w]
        rfl
      refine one_ (i := 6) (N := some 20) #[true, true, true, true, true, true, true, true, true, true, false, true, false, false, true, true, false, true, false, false, false, false, false, false] rfl rfl (by kernel_rfl) (by decide) (fun K hK => ?_)
      refine goes_ Try.func228 (by kernel_rfl) rfl #[.pointer (some ⟨mp, 0, none⟩), .int .i64 (c : Int)] (by rfl) rfl rfl (by (try simp only [List.map_toArray, List.map_cons, List.map_nil]); first | done | rfl) ?_
      obtain ⟨c6, hc6⟩ := matRow_any hHeld.1 c _ rfl hc hn
      refine hc6.mono ?_
      rintro e w8 ⟨rfl, m6, rfl⟩
      refine ⟨_, rfl, ?_⟩
      refine hK.out _ _ (⟨hHeld.1.kf ((Kf.refl f _).drewN m6), hHeld.2.1.drewN m6, hHeld.2.2.1, hHeld.2.2.2.1, hHeld.2.2.2.2⟩) (fun hHeld => ?_)
      clear hK K
      refine norm_ (a' := ?_) ?_ ?_
      rotate_left
      · show Act.put _ (some 20) _ = _
        simp only [Act.put, List.setIfInBounds_toArray, List.set_cons_zero, List.set_cons_succ, i64_w, i32_w]
        rfl
      refine one_ (i := 10) (N := some 24) #[true, true, true, true, true, true, true, true, true, true, true, true, false, false, true, true, false, true, false, false, false, false, false, false] rfl rfl (by kernel_rfl) (by decide) (fun K hK => ?_)
      refine goes_ Try.func228 (by kernel_rfl) rfl #[.pointer (some ⟨mp, 0, none⟩), .int .i64 (c : Int)] (by rfl) rfl rfl (by (try simp only [List.map_toArray, List.map_cons, List.map_nil]); first | done | rfl) ?_
      obtain ⟨c10, hc10⟩ := matRow_any hHeld.1 c _ rfl hc hn
      refine hc10.mono ?_
      rintro e w8 ⟨rfl, m10, rfl⟩
      refine ⟨_, rfl, ?_⟩
      refine hK.out _ _ (⟨hHeld.1.kf ((Kf.refl f _).drewN m10), hHeld.2.1.drewN m10, hHeld.2.2.1, hHeld.2.2.2.1, hHeld.2.2.2.2⟩) (fun hHeld => ?_)
      clear hK K
      refine norm_ (a' := ?_) ?_ ?_
      rotate_left
      · show Act.put _ (some 24) _ = _
        simp only [Act.put, List.setIfInBounds_toArray, List.set_cons_zero, List.set_cons_succ, i64_w, i32_w]
        rfl
      refine pure_ (i := 12) (N := some 26) (v := ?_) (a' := ?_) #[true, true, true, true, true, true, true, true, true, true, true, true, true, false, true, true, false, true, false, false, false, false, false, false] rfl rfl (by kernel_rfl) (fun _ _ _ h => h) (Or.inl ⟨by rfl, ?_⟩) ?_ ?_
      rotate_left
      · intro w'
        go_simp
        with_reducible rfl
      rotate_left
      · simp only [Act.put, List.setIfInBounds_toArray, List.set_cons_zero, List.set_cons_succ, i64_w, i32_w]
        rfl
      refine take_ (i := 13) (N := some 27) (v := ?_) (a' := ?_) #[true, true, true, true, true, true, true, true, true, true, true, true, true, true, true, true, false, true, false, false, false, false, false, false] rfl rfl (by kernel_rfl) (fun _ _ _ h => h) (Or.inl ⟨by rfl, ?_⟩) hHeld ?_ ?_
      rotate_left
      · rintro w' ⟨s0, s1, s2, s3, s4⟩
        go_simp
        with_reducible rfl
      rotate_left
      · simp only [Act.put, List.setIfInBounds_toArray, List.set_cons_zero, List.set_cons_succ, i64_w, i32_w]
        rfl
      refine one_ (i := 16) (N := some 30) #[true, true, true, true, true, true, true, true, true, true, true, true, true, true, true, true, true, true, false, false, false, false, false, false] rfl rfl (by kernel_rfl) (by decide) (fun K hK => ?_)
      refine goes_ Try.func228 (by kernel_rfl) rfl #[.pointer (some ⟨mp, 0, none⟩), .int .i64 (p : Int)] (by rfl) rfl rfl (by (try simp only [List.map_toArray, List.map_cons, List.map_nil]); first | done | rfl) ?_
      obtain ⟨c16, hc16⟩ := matRow_any hHeld.1 p _ rfl hp hn
      refine hc16.mono ?_
      rintro e w8 ⟨rfl, m16, rfl⟩
      refine ⟨_, rfl, ?_⟩
      refine hK.out _ _ (⟨hHeld.1.kf ((Kf.refl f _).drewN m16), hHeld.2.1.drewN m16, hHeld.2.2.1, hHeld.2.2.2.1, hHeld.2.2.2.2⟩) (fun hHeld => ?_)
      clear hK K
      refine norm_ (a' := ?_) ?_ ?_
      rotate_left
      · show Act.put _ (some 30) _ = _
        simp only [Act.put, List.setIfInBounds_toArray, List.set_cons_zero, List.set_cons_succ, i64_w, i32_w]
        rfl
      refine pure_ (i := 18) (N := some 32) (v := ?_) (a' := ?_) #[true, true, true, true, true, true, true, true, true, true, true, true, true, true, true, true, true, true, true, false, false, false, false, false] rfl rfl (by kernel_rfl) (fun _ _ _ h => h) (Or.inl ⟨by rfl, ?_⟩) ?_ ?_
      rotate_left
      · intro w'
        go_simp
        with_reducible rfl
      rotate_left
      · simp only [Act.put, List.setIfInBounds_toArray, List.set_cons_zero, List.set_cons_succ, i64_w, i32_w]
        rfl
      refine take_ (i := 19) (N := some 33) (v := ?_) (a' := ?_) #[true, true, true, true, true, true, true, true, true, true, true, true, true, true, true, true, true, true, true, true, false, false, false, false] rfl rfl (by kernel_rfl) (fun _ _ _ h => h) (Or.inl ⟨by rfl, ?_⟩) hHeld ?_ ?_
      rotate_left
      · rintro w' ⟨s0, s1, s2, s3, s4⟩
        go_simp
        with_reducible rfl
      rotate_left
      · simp only [Act.put, List.setIfInBounds_toArray, List.set_cons_zero, List.set_cons_succ, i64_w, i32_w]
        rfl
      refine pure_ (i := 20) (N := some 34) (v := ?_) (a' := ?_) #[true, true, true, true, true, true, true, true, true, true, true, true, true, true, true, true, true, true, true, true, true, false, false, false] rfl rfl (by kernel_rfl) (fun _ _ _ h => h) (Or.inl ⟨by rfl, ?_⟩) ?_ ?_
      rotate_left
      · intro w'
        go_simp
        with_reducible rfl
      rotate_left
      · simp only [Act.put, List.setIfInBounds_toArray, List.set_cons_zero, List.set_cons_succ, i64_w, i32_w]
        rfl
      obtain ⟨hMM, hKK, hx1, hx2, hzz⟩ := hHeld
      have HMM := Lib.hid hMM
      have HKK := Lib.hid hKK
      clear hMM hKK
      refine last_ (i := 21) (N := none) #[true, true, true, true, true, true, true, true, true, true, true, true, true, true, true, true, true, true, true, true, true, true, false, false] rfl rfl (by kernel_rfl) (by decide) (fun K hK => ?_)
      refine skip_ (w1 := ?_) (by rfl) rfl ?_ ?_
      rotate_left
      · go_simp
        rfl
      refine hK.out _ _ ?_
      clear hK K
      refine pure_ (i := 22) (N := some 35) (v := ?_) (a' := ?_) #[true, true, true, true, true, true, true, true, true, true, true, true, true, true, true, true, true, true, true, true, true, true, true, false] rfl rfl (by kernel_rfl) (fun _ _ _ h => h) (Or.inl ⟨by rfl, ?_⟩) ?_ ?_
      rotate_left
      · intro w'
        go_simp
        with_reducible rfl
      rotate_left
      · simp only [Act.put, List.setIfInBounds_toArray, List.set_cons_zero, List.set_cons_succ, i64_w, i32_w]
        rfl
      have hst := (MatAt.put (MatAt.kf HMR.out ((Kf.refl f wr).drewN (1 + m2 + m6 + m10 + m16))) hp hlt x).cell hc hlt
      obtain ⟨z, hz⟩ : ∃ z, z = Hyp.put (swUp A p c k) p k x c k := ⟨_, rfl⟩
      rw [← hz] at hst
      clear hz
      refine last_ (i := 23) (N := none) #[true, true, true, true, true, true, true, true, true, true, true, true, true, true, true, true, true, true, true, true, true, true, true, true] rfl rfl (by kernel_rfl) (by decide) (fun K hK => ?_)
      refine skip_ (w1 := ?_) (by rfl) rfl ?_ ?_
      rotate_left
      · go_simp
        rfl
      refine hK.out _ _ ?_
      clear hK K
      refine done_ (by kernel_rfl) ?_
      go_wp2
      go_roundw
      case rel =>
        refine ⟨k + 1, by omega, by go_num, Lib.hid ?_, Lib.hid (((HK.out.drewN (1 + m2 + m6 + m10 + m16)).put _).put _)⟩
        have h1 := ((MatAt.put (MatAt.kf HMR.out ((Kf.refl f wr).drewN (1 + m2 + m6 + m10 + m16))) hp hlt x).put hc hlt y)
        rw [HX.out, HY.out] at h1
        refine MatAt.congr ?_ (fun i j _ _ => swUp_step A p c k i j)
        rw [HX.out, HY.out]
        exact h1
      case measure => simp [intOf]; omega
    · obtain rfl : k = n := by omega
      go_wp2
      go_end0
      exact ⟨rfl, HMR.out.congr fun i j _ hj => by simp [swUp, hj], HK.out⟩
end Go.Proofs.Ytnfodhagfcjfpaa

/- Matrices in memory: scale, add. -/
namespace Go.Proofs.Ytnfodhagfcjfpaa
open Go.RowKit Go.Proofs.YtnfodhagfcjfpaaW.PrintWords Go.Proofs.YtnfodhagfcjfpaaW.PrintLast Go.Proofs.YtnfodhagfcjfpaaW.PrintMore
set_option linter.unusedVariables false
set_option linter.unusedSimpArgs false

/-- scaled in the first k columns -/
def scUp (A : Hyp.Mat) (c : Nat) (s : UInt8) (k : Nat) : Hyp.Mat := fun i j => if j < k then Hyp.rscale A c s i j else A i j
theorem scUp_step (A : Hyp.Mat) (c : Nat) (s : UInt8) (k i j : Nat) : Hyp.put (scUp A c s k) c k (Hyp.mul (scUp A c s k c k) s) i j = scUp A c s (k + 1) i j := by
  unfold Hyp.put scUp Hyp.rscale
  by_cases hj : j = k
  · subst hj
    simp only [Nat.lt_irrefl, if_false, Nat.lt_succ_self, if_true, and_true]
    by_cases h1 : i = c
    · rw [if_pos h1, if_pos h1, h1]
    · rw [if_neg h1, if_neg h1]
  · simp only [hj, and_false, if_false]
    by_cases h : j < k
    · simp only [h, show j < k + 1 by omega, if_true]
    · simp only [h, show ¬ j < k + 1 by omega, if_false]
/-- added in the first k columns -/
def adUp (A : Hyp.Mat) (c i0 : Nat) (s : UInt8) (k : Nat) : Hyp.Mat := fun i j => if j < k then Hyp.radd A c i0 s i j else A i j
theorem adUp_c (A : Hyp.Mat) (c i0 : Nat) (s : UInt8) (k j : Nat) (h : i0 ≠ c) : adUp A c i0 s k c j = A c j := by
  unfold adUp Hyp.radd
  have h2 : ¬ c = i0 := fun e => h e.symm
  simp [h2]
theorem adUp_step (A : Hyp.Mat) (c i0 : Nat) (s : UInt8) (k i j : Nat) (hne : i0 ≠ c) : Hyp.put (adUp A c i0 s k) i0 k (adUp A c i0 s k i0 k ^^^ Hyp.mul (adUp A c i0 s k c k) s) i j = adUp A c i0 s (k + 1) i j := by
  rw [adUp_c A c i0 s k k hne]
  unfold Hyp.put adUp Hyp.radd
  by_cases hj : j = k
  · subst hj
    simp only [Nat.lt_irrefl, if_false, Nat.lt_succ_self, if_true, and_true]
    by_cases h1 : i = i0
    · rw [if_pos h1, if_pos h1, h1]
    · rw [if_neg h1, if_neg h1]
  · simp only [hj, and_false, if_false]
    by_cases h : j < k
    · simp only [h, show j < k + 1 by omega, if_true]
    · simp only [h, show ¬ j < k + 1 by omega, if_false]

/-- what a change of a matrix leaves, the field in use -/
def MatPostF (f mp g n : Nat) (A : Hyp.Mat) (w : World) (e : Ending) (w' : World) : Prop :=
  e = .returned (.tuple #[]) ∧ MatAt w' f mp g n A ∧ K2 f g w w' ∧ Fld w' f
/-- what stands while a matrix turns -/
def MatS (f mp g n : Nat) (A : Hyp.Mat) (w w' : World) : Prop := MatAt w' f mp g n A ∧ K2 f g w w' ∧ Fld w' f
theorem MatS.kf {f mp g n : Nat} {A : Hyp.Mat} {w w1 w2 : World} (h : MatS f mp g n A w w1) (k : Kf f w1 w2) (hf : Fld w2 f) : MatS f mp g n A w w2 := ⟨h.1.kf k, h.2.1.trans (K2.of_kf k), hf⟩
theorem MatS.drewN {f mp g n : Nat} {A : Hyp.Mat} {w w1 : World} (h : MatS f mp g n A w w1) (m : Nat) : MatS f mp g n A w (w1.drewN m) := h.kf ((Kf.refl f _).drewN m) (h.2.2.drewN m)
theorem MatS.drew {f mp g n : Nat} {A : Hyp.Mat} {w w1 : World} (h : MatS f mp g n A w w1) : MatS f mp g n A w w1.drew := h.kf (Kf.refl f _).drew h.2.2
theorem MatAt.fp {w : World} {f mp g n : Nat} {A : Hyp.Mat} (h : MatAt w f mp g n A) : w.cell? ⟨mp, 0, none⟩ = some (.pointer (some ⟨f, 0, none⟩)) := by
  obtain ⟨cap, _, h0, _⟩ := h.open_
  exact h0

set_option maxRecDepth 100000 in
set_option maxHeartbeats 4000000 in
theorem matScale_any {f mp g n : Nat} {A : Hyp.Mat} {w : World} (hm : MatAt w f mp g n A) (hf : Fld w f) (c : Nat) (s : UInt8) (hc : c < n) (hn : n ≤ 32) :
    Calls Try.prog 191 #[.pointer (some ⟨mp, 0, none⟩), .int .i64 (c : Int), .int .u8 (s.toNat : Int)] w (MatPostF f mp g n (Hyp.rscale A c s) w) := by
  have HM := Lib.hid hm
  have HF := Lib.hid hf
  clear hm hf
  go_enter Try.func191, Try.ntmps191
  obtain ⟨c1, hc1⟩ := matRow_any HM.out c _ rfl hc hn
  have HC1 := Lib.hid hc1
  clear hc1
  go_wp2_with (first | (go_at_call 228; refine HC1.out.mono ?_; rintro e w1 ⟨rfl, m1, rfl⟩))
  go_loopw [12] (fun i wr => ∃ k : Nat, k ≤ n ∧ i = .int .i64 k ∧ Hid (MatS f mp g n (scUp A c s k) w wr)) (fun i _ => n - (intOf i).toNat)
  case atStart => exact ⟨0, Nat.zero_le _, rfl, Lib.hid ⟨(HM.out.congr fun i j _ _ => by simp [scUp]).kf ((Kf.refl f w).drewN m1), (K2.refl _ _ _).drewN m1, HF.out.drewN m1⟩⟩
  case round =>
    obtain ⟨k, hk, rfl, HS⟩ := hrel
    by_cases hlt : k < n
    · obtain ⟨x, hx⟩ : ∃ x, x = scUp A c s k c k := ⟨_, rfl⟩
      have hcx := HS.out.1.cell hc hlt
      rw [← hx] at hcx
      have HX := Lib.hid hx
      have hfp := HS.out.1.fp
      clear hx
      go_wp2
      refine start_ (n := 13) (S := fun w' => MatS f mp g n (scUp A c s k) w w' ∧ w'.cell? ⟨mp, 0, none⟩ = some (.pointer (some ⟨f, 0, none⟩)) ∧ w'.cell? ⟨g, c * n + k, none⟩ = some (.int .u8 (x.toNat : Int)) ∧ ∀ t, w'.frozen? ⟨g, t, none⟩ = false) (ds := [12]) #[false, false, false, false, false, false, false, false, false, false, false, false, false] (by kernel_rfl) rfl rfl ?hS (fun hHeld => ?_)
      case hS => exact ⟨HS.out.drew, hfp, hcx, fun t => HS.out.1.free (by omega) t⟩
      refine pure_ (i := 0) (N := some 17) (v := ?_) (a' := ?_) #[true, false, false, false, false, false, false, false, false, false, false, false, false] rfl rfl (by kernel_rfl) (fun _ _ _ h => h) (Or.inl ⟨by rfl, ?_⟩) ?_ ?_
      rotate_left
      · intro w'
        go_simp
        with_reducible rfl
      rotate_left
      · simp only [Act.put, List.setIfInBounds_toArray, List.set_cons_zero, List.set_cons_succ, i64_w, i32_w]
        rfl
      refine pure_ (i := 1) (N := some 18) (v := ?_) (a' := ?_) #[true, true, false, false, false, false, false, false, false, false, false, false, false] rfl rfl (by kernel_rfl) (fun _ _ _ h => h) (Or.inl ⟨by rfl, ?_⟩) ?_ ?_
      rotate_left
      · intro w'
        go_simp
        with_reducible rfl
      rotate_left
      · simp only [Act.put, List.setIfInBounds_toArray, List.set_cons_zero, List.set_cons_succ, i64_w, i32_w]
        rfl
      refine pure_ (i := 3) (N := some 20) (v := ?_) (a' := ?_) #[true, true, false, true, false, false, false, false, false, false, false, false, false] rfl rfl (by kernel_rfl) (fun _ _ _ h => h) (Or.inl ⟨by rfl, ?_⟩) ?_ ?_
      rotate_left
      · intro w'
        go_simp
        with_reducible rfl
      rotate_left
      · simp only [Act.put, List.setIfInBounds_toArray, List.set_cons_zero, List.set_cons_succ, i64_w, i32_w]
        rfl
      refine pure_ (i := 4) (N := some 21) (v := ?_) (a' := ?_) #[true, true, false, true, true, false, false, false, false, false, false, false, false] rfl rfl (by kernel_rfl) (fun _ _ _ h => h) (Or.inl ⟨by rfl, ?_⟩) ?_ ?_
      rotate_left
      · intro w'
        go_simp
        with_reducible rfl
      rotate_left
      · simp only [Act.put, List.setIfInBounds_toArray, List.set_cons_zero, List.set_cons_succ, i64_w, i32_w]
        rfl
      refine pure_ (i := 5) (N := some 22) (v := ?_) (a' := ?_) #[true, true, false, true, true, true, false, false, false, false, false, false, false] rfl rfl (by kernel_rfl) (fun _ _ _ h => h) (Or.inl ⟨by rfl, ?_⟩) ?_ ?_
      rotate_left
      · intro w'
        go_simp
        with_reducible rfl
      rotate_left
      · simp only [Act.put, List.setIfInBounds_toArray, List.set_cons_zero, List.set_cons_succ, i64_w, i32_w]
        rfl
      refine pure_ (i := 6) (N := some 23) (v := ?_) (a' := ?_) #[true, true, false, true, true, true, true, false, false, false, false, false, false] rfl rfl (by kernel_rfl) (fun _ _ _ h => h) (Or.inl ⟨by rfl, ?_⟩) ?_ ?_
      rotate_left
      · intro w'
        go_simp
        with_reducible rfl
      rotate_left
      · simp only [Act.put, List.setIfInBounds_toArray, List.set_cons_zero, List.set_cons_succ, i64_w, i32_w]
        rfl
      refine pure_ (i := 8) (N := some 25) (v := ?_) (a' := ?_) #[true, true, false, true, true, true, true, false, true, false, false, false, false] rfl rfl (by kernel_rfl) (fun _ _ _ h => h) (Or.inl ⟨by rfl, ?_⟩) ?_ ?_
      rotate_left
      · intro w'
        go_simp
        with_reducible rfl
      rotate_left
      · simp only [Act.put, List.setIfInBounds_toArray, List.set_cons_zero, List.set_cons_succ, i64_w, i32_w]
        rfl
      refine pure_ (i := 9) (N := some 26) (v := ?_) (a' := ?_) #[true, true, false, true, true, true, true, false, true, true, false, false, false] rfl rfl (by kernel_rfl) (fun _ _ _ h => h) (Or.inl ⟨by rfl, ?_⟩) ?_ ?_
      rotate_left
      · intro w'
        go_simp
        with_reducible rfl
      rotate_left
      · simp only [Act.put, List.setIfInBounds_toArray, List.set_cons_zero, List.set_cons_succ, i64_w, i32_w]
        rfl
      refine take_ (i := 7) (N := some 24) (v := ?_) (a' := ?_) #[true, true, false, true, true, true, true, true, true, true, false, false, false] rfl rfl (by kernel_rfl) (fun _ _ _ h => h) (Or.inl ⟨by rfl, ?_⟩) hHeld ?_ ?_
      rotate_left
      · rintro w' ⟨s0, s1, s2, s3⟩
        go_simp
        with_reducible rfl
      rotate_left
      · simp only [Act.put, List.setIfInBounds_toArray, List.set_cons_zero, List.set_cons_succ, i64_w, i32_w]
        rfl
      refine one_ (i := 2) (N := some 19) #[true, true, true, true, true, true, true, true, true, true, false, false, false] rfl rfl (by kernel_rfl) (by decide) (fun K hK => ?_)
      refine goes_ Try.func228 (by kernel_rfl) rfl #[.pointer (some ⟨mp, 0, none⟩), .int .i64 (c : Int)] (by rfl) rfl rfl (by (try simp only [List.map_toArray, List.map_cons, List.map_nil]); first | done | rfl) ?_
      obtain ⟨c2, hc2⟩ := matRow_any hHeld.1.1 c _ rfl hc hn
      refine hc2.mono ?_
      rintro e w8 ⟨rfl, m2, rfl⟩
      refine ⟨_, rfl, ?_⟩
      refine hK.out _ _ (⟨hHeld.1.drewN m2, hHeld.2.1, hHeld.2.2.1, hHeld.2.2.2⟩) (fun hHeld => ?_)
      clear hK K
      refine norm_ (a' := ?_) ?_ ?_
      rotate_left
      · show Act.put _ (some 19) _ = _
        simp only [Act.put, List.setIfInBounds_toArray, List.set_cons_zero, List.set_cons_succ, i64_w, i32_w]
        rfl
      refine one_ (i := 10) (N := some 27) #[true, true, true, true, true, true, true, true, true, true, true, false, false] rfl rfl (by kernel_rfl) (by decide) (fun K hK => ?_)
      refine goes_ Try.func123 (by kernel_rfl) rfl #[.pointer (some ⟨f, 0, none⟩), .int .u8 (x.toNat : Int), .int .u8 (s.toNat : Int)] (by rfl) rfl rfl (by (try simp only [List.map_toArray, List.map_cons, List.map_nil]); first | done | rfl) ?_
      have HOLD := Lib.hid hHeld.1
      refine (mul_any f x s _ hHeld.1.2.2).mono ?_
      rintro e w8 ⟨rfl, hk8, hf8⟩
      have HS8 := Lib.hid (HOLD.out.kf hk8 hf8)
      clear hk8 hf8
      refine ⟨_, rfl, ?_⟩
      refine hK.out _ _ (⟨HS8.out, HS8.out.1.fp, (HS8.out.1.cell hc hlt).trans (by rw [← HX.out]), fun t => HS8.out.1.free (by omega) t⟩) (fun hHeld => ?_)
      clear hK K
      refine norm_ (a' := ?_) ?_ ?_
      rotate_left
      · show Act.put _ (some 27) _ = _
        simp only [Act.put, List.setIfInBounds_toArray, List.set_cons_zero, List.set_cons_succ, i64_w, i32_w]
        rfl
      refine pure_ (i := 11) (N := some 28) (v := ?_) (a' := ?_) #[true, true, true, true, true, true, true, true, true, true, true, true, false] rfl rfl (by kernel_rfl) (fun _ _ _ h => h) (Or.inl ⟨by rfl, ?_⟩) ?_ ?_
      rotate_left
      · intro w'
        go_simp
        with_reducible rfl
      rotate_left
      · simp only [Act.put, List.setIfInBounds_toArray, List.set_cons_zero, List.set_cons_succ, i64_w, i32_w]
        rfl
      obtain ⟨hMS, hx0, hx1, hzz⟩ := hHeld
      clear hMS
      refine last_ (i := 12) (N := none) #[true, true, true, true, true, true, true, true, true, true, true, true, true] rfl rfl (by kernel_rfl) (by decide) (fun K hK => ?_)
      refine skip_ (w1 := ?_) (by rfl) rfl ?_ ?_
      rotate_left
      · go_simp
        rfl
      refine hK.out _ _ ?_
      clear hK K
      refine done_ (by kernel_rfl) ?_
      go_wp2
      go_roundw
      case rel =>
        refine ⟨k + 1, by omega, by go_num, Lib.hid ⟨?_, HS8.out.2.1.put _, HS8.out.2.2.put (fun e => HS8.out.1.ne3 e.symm) _⟩⟩
        have h1 := HS8.out.1.put hc hlt (Hyp.mul x s)
        rw [HX.out] at h1
        refine MatAt.congr ?_ (fun i j _ _ => scUp_step A c s k i j)
        rw [HX.out]
        exact h1
      case measure => simp [intOf]; omega
    · obtain rfl : k = n := by omega
      go_wp2
      go_end0
      exact ⟨rfl, HS.out.1.congr fun i j _ hj => by simp [scUp, hj], HS.out.2.1, HS.out.2.2⟩

set_option maxRecDepth 100000 in
set_option maxHeartbeats 4000000 in
theorem matAdd_any {f mp g n : Nat} {A : Hyp.Mat} {w : World} (hm : MatAt w f mp g n A) (hf : Fld w f) (c i0 : Nat) (s : UInt8) (hc : c < n) (hi : i0 < n) (hne : i0 ≠ c) (hn : n ≤ 32) :
    Calls Try.prog 192 #[.pointer (some ⟨mp, 0, none⟩), .int .i64 (c : Int), .int .i64 (i0 : Int), .int .u8 (s.toNat : Int)] w (MatPostF f mp g n (Hyp.radd A c i0 s) w) := by
  have HM := Lib.hid hm
  have HF := Lib.hid hf
  clear hm hf
  go_enter Try.func192, Try.ntmps192
  obtain ⟨c1, hc1⟩ := matRow_any HM.out c _ rfl hc hn
  have HC1 := Lib.hid hc1
  clear hc1
  go_wp2_with (first | (go_at_call 228; refine HC1.out.mono ?_; rintro e w1 ⟨rfl, m1, rfl⟩))
  go_loopw [14] (fun i wr => ∃ k : Nat, k ≤ n ∧ i = .int .i64 k ∧ Hid (MatS f mp g n (adUp A c i0 s k) w wr)) (fun i _ => n - (intOf i).toNat)
  case atStart => exact ⟨0, Nat.zero_le _, rfl, Lib.hid ⟨(HM.out.congr fun i j _ _ => by simp [adUp]).kf ((Kf.refl f w).drewN m1), (K2.refl _ _ _).drewN m1, HF.out.drewN m1⟩⟩
  case round =>
    obtain ⟨k, hk, rfl, HS⟩ := hrel
    by_cases hlt : k < n
    · obtain ⟨x, hx⟩ : ∃ x, x = adUp A c i0 s k c k := ⟨_, rfl⟩
      obtain ⟨y, hy⟩ : ∃ y, y = adUp A c i0 s k i0 k := ⟨_, rfl⟩
      have hcx := HS.out.1.cell hc hlt
      have hcy := HS.out.1.cell hi hlt
      rw [← hx] at hcx
      rw [← hy] at hcy
      have HX := Lib.hid hx
      have HY := Lib.hid hy
      have hfp := HS.out.1.fp
      obtain ⟨m, hm⟩ : ∃ m, m = Hyp.mul x s := ⟨_, rfl⟩
      have hbx := bxor y m
      have HMM := Lib.hid hm
      clear hx hy hm
      go_wp2
      refine start_ (n := 16) (S := fun w' => MatS f mp g n (adUp A c i0 s k) w w' ∧ w'.cell? ⟨mp, 0, none⟩ = some (.pointer (some ⟨f, 0, none⟩)) ∧ w'.cell? ⟨g, i0 * n + k, none⟩ = some (.int .u8 (y.toNat : Int)) ∧ ∀ t, w'.frozen? ⟨g, t, none⟩ = false) (ds := [15]) #[false, false, false, false, false, false, false, false, false, false, false, false, false, false, false, false] (by kernel_rfl) rfl rfl ?hS (fun hHeld => ?_)
      case hS => exact ⟨HS.out.drew, hfp, hcy, fun t => HS.out.1.free (by omega) t⟩
      refine pure_ (i := 0) (N := some 19) (v := ?_) (a' := ?_) #[true, false, false, false, false, false, false, false, false, false, false, false, false, false, false, false] rfl rfl (by kernel_rfl) (fun _ _ _ h => h) (Or.inl ⟨by rfl, ?_⟩) ?_ ?_
      rotate_left
      · intro w'
        go_simp
        with_reducible rfl
      rotate_left
      · simp only [Act.put, List.setIfInBounds_toArray, List.set_cons_zero, List.set_cons_succ, i64_w, i32_w]
        rfl
      refine pure_ (i := 1) (N := some 20) (v := ?_) (a' := ?_) #[true, true, false, false, false, false, false, false, false, false, false, false, false, false, false, false] rfl rfl (by kernel_rfl) (fun _ _ _ h => h) (Or.inl ⟨by rfl, ?_⟩) ?_ ?_
      rotate_left
      · intro w'
        go_simp
        with_reducible rfl
      rotate_left
      · simp only [Act.put, List.setIfInBounds_toArray, List.set_cons_zero, List.set_cons_succ, i64_w, i32_w]
        rfl
      refine pure_ (i := 3) (N := some 22) (v := ?_) (a' := ?_) #[true, true, false, true, false, false, false, false, false, false, false, false, false, false, false, false] rfl rfl (by kernel_rfl) (fun _ _ _ h => h) (Or.inl ⟨by rfl, ?_⟩) ?_ ?_
      rotate_left
      · intro w'
        go_simp
        with_reducible rfl
      rotate_left
      · simp only [Act.put, List.setIfInBounds_toArray, List.set_cons_zero, List.set_cons_succ, i64_w, i32_w]
        rfl
      refine pure_ (i := 6) (N := some 25) (v := ?_) (a' := ?_) #[true, true, false, true, false, false, true, false, false, false, false, false, false, false, false, false] rfl rfl (by kernel_rfl) (fun _ _ _ h => h) (Or.inl ⟨by rfl, ?_⟩) ?_ ?_
      rotate_left
      · intro w'
        go_simp
        with_reducible rfl
      rotate_left
      · simp only [Act.put, List.setIfInBounds_toArray, List.set_cons_zero, List.set_cons_succ, i64_w, i32_w]
        rfl
      refine pure_ (i := 7) (N := some 26) (v := ?_) (a' := ?_) #[true, true, false, true, false, false, true, true, false, false, false, false, false, false, false, false] rfl rfl (by kernel_rfl) (fun _ _ _ h => h) (Or.inl ⟨by rfl, ?_⟩) ?_ ?_
      rotate_left
      · intro w'
        go_simp
        with_reducible rfl
      rotate_left
      · simp only [Act.put, List.setIfInBounds_toArray, List.set_cons_zero, List.set_cons_succ, i64_w, i32_w]
        rfl
      refine pure_ (i := 8) (N := some 27) (v := ?_) (a' := ?_) #[true, true, false, true, false, false, true, true, true, false, false, false, false, false, false, false] rfl rfl (by kernel_rfl) (fun _ _ _ h => h) (Or.inl ⟨by rfl, ?_⟩) ?_ ?_
      rotate_left
      · intro w'
        go_simp
        with_reducible rfl
      rotate_left
      · simp only [Act.put, List.setIfInBounds_toArray, List.set_cons_zero, List.set_cons_succ, i64_w, i32_w]
        rfl
      refine pure_ (i := 10) (N := some 29) (v := ?_) (a' := ?_) #[true, true, false, true, false, false, true, true, true, false, true, false, false, false, false, false] rfl rfl (by kernel_rfl) (fun _ _ _ h => h) (Or.inl ⟨by rfl, ?_⟩) ?_ ?_
      rotate_left
      · intro w'
        go_simp
        with_reducible rfl
      rotate_left
      · simp only [Act.put, List.setIfInBounds_toArray, List.set_cons_zero, List.set_cons_succ, i64_w, i32_w]
        rfl
      refine pure_ (i := 11) (N := some 30) (v := ?_) (a' := ?_) #[true, true, false, true, false, false, true, true, true, false, true, true, false, false, false, false] rfl rfl (by kernel_rfl) (fun _ _ _ h => h) (Or.inl ⟨by rfl, ?_⟩) ?_ ?_
      rotate_left
      · intro w'
        go_simp
        with_reducible rfl
      rotate_left
      · simp only [Act.put, List.setIfInBounds_toArray, List.set_cons_zero, List.set_cons_succ, i64_w, i32_w]
        rfl
      refine take_ (i := 9) (N := some 28) (v := ?_) (a' := ?_) #[true, true, false, true, false, false, true, true, true, true, true, true, false, false, false, false] rfl rfl (by kernel_rfl) (fun _ _ _ h => h) (Or.inl ⟨by rfl, ?_⟩) hHeld ?_ ?_
      rotate_left
      · rintro w' ⟨s0, s1, s2, s3⟩
        go_simp
        with_reducible rfl
      rotate_left
      · simp only [Act.put, List.setIfInBounds_toArray, List.set_cons_zero, List.set_cons_succ, i64_w, i32_w]
        rfl
      refine one_ (i := 2) (N := some 21) #[true, true, true, true, false, false, true, true, true, true, true, true, false, false, false, false] rfl rfl (by kernel_rfl) (by decide) (fun K hK => ?_)
      refine goes_ Try.func228 (by kernel_rfl) rfl #[.pointer (some ⟨mp, 0, none⟩), .int .i64 (i0 : Int)] (by rfl) rfl rfl (by (try simp only [List.map_toArray, List.map_cons, List.map_nil]); first | done | rfl) ?_
      obtain ⟨c2, hc2⟩ := matRow_any hHeld.1.1 i0 _ rfl hi hn
      refine hc2.mono ?_
      rintro e w8 ⟨rfl, m2, rfl⟩
      refine ⟨_, rfl, ?_⟩
      refine hK.out _ _ (⟨hHeld.1.drewN m2, hHeld.2.1, hHeld.2.2.1, hHeld.2.2.2⟩) (fun hHeld => ?_)
      clear hK K
      refine norm_ (a' := ?_) ?_ ?_
      rotate_left
      · show Act.put _ (some 21) _ = _
        simp only [Act.put, List.setIfInBounds_toArray, List.set_cons_zero, List.set_cons_succ, i64_w, i32_w]
        rfl
      refine pure_ (i := 4) (N := some 23) (v := ?_) (a' := ?_) #[true, true, true, true, true, false, true, true, true, true, true, true, false, false, false, false] rfl rfl (by kernel_rfl) (fun _ _ _ h => h) (Or.inl ⟨by rfl, ?_⟩) ?_ ?_
      rotate_left
      · intro w'
        go_simp
        with_reducible rfl
      rotate_left
      · simp only [Act.put, List.setIfInBounds_toArray, List.set_cons_zero, List.set_cons_succ, i64_w, i32_w]
        rfl
      refine take_ (i := 5) (N := some 24) (v := ?_) (a' := ?_) #[true, true, true, true, true, true, true, true, true, true, true, true, false, false, false, false] rfl rfl (by kernel_rfl) (fun _ _ _ h => h) (Or.inl ⟨by rfl, ?_⟩) hHeld ?_ ?_
      rotate_left
      · rintro w' ⟨s0, s1, s2, s3⟩
        go_simp
        with_reducible rfl
      rotate_left
      · simp only [Act.put, List.setIfInBounds_toArray, List.set_cons_zero, List.set_cons_succ, i64_w, i32_w]
        rfl
      refine one_ (i := 12) (N := some 31) #[true, true, true, true, true, true, true, true, true, true, true, true, true, false, false, false] rfl rfl (by kernel_rfl) (by decide) (fun K hK => ?_)
      refine goes_ Try.func123 (by kernel_rfl) rfl #[.pointer (some ⟨f, 0, none⟩), .int .u8 (x.toNat : Int), .int .u8 (s.toNat : Int)] (by rfl) rfl rfl (by (try simp only [List.map_toArray, List.map_cons, List.map_nil]); first | done | rfl) ?_
      have HOLD := Lib.hid hHeld.1
      refine (mul_any f x s _ hHeld.1.2.2).mono ?_
      rintro e w8 ⟨rfl, hk8, hf8⟩
      rw [← HMM.out]
      have HS8 := Lib.hid (HOLD.out.kf hk8 hf8)
      clear hk8 hf8
      refine ⟨_, rfl, ?_⟩
      refine hK.out _ _ (⟨HS8.out, HS8.out.1.fp, (HS8.out.1.cell hi hlt).trans (by rw [← HY.out]), fun t => HS8.out.1.free (by omega) t⟩) (fun hHeld => ?_)
      clear hK K
      refine norm_ (a' := ?_) ?_ ?_
      rotate_left
      · show Act.put _ (some 31) _ = _
        simp only [Act.put, List.setIfInBounds_toArray, List.set_cons_zero, List.set_cons_succ, i64_w, i32_w]
        rfl
      refine pure_ (i := 13) (N := some 32) (v := ?_) (a' := ?_) #[true, true, true, true, true, true, true, true, true, true, true, true, true, true, false, false] rfl rfl (by kernel_rfl) (fun _ _ _ h => h) (Or.inl ⟨by rfl, ?_⟩) ?_ ?_
      rotate_left
      · intro w'
        go_simp
        with_reducible rfl
      rotate_left
      · simp only [Act.put, List.setIfInBounds_toArray, List.set_cons_zero, List.set_cons_succ, i64_w, i32_w]
        rfl
      refine pure_ (i := 14) (N := some 33) (v := ?_) (a' := ?_) #[true, true, true, true, true, true, true, true, true, true, true, true, true, true, true, false] rfl rfl (by kernel_rfl) (fun _ _ _ h => h) (Or.inl ⟨by rfl, ?_⟩) ?_ ?_
      rotate_left
      · intro w'
        go_simp
        with_reducible rfl
      rotate_left
      · simp only [Act.put, List.setIfInBounds_toArray, List.set_cons_zero, List.set_cons_succ, i64_w, i32_w]
        rfl
      obtain ⟨hMS, hx0, hx1, hzz⟩ := hHeld
      clear hMS
      refine last_ (i := 15) (N := none) #[true, true, true, true, true, true, true, true, true, true, true, true, true, true, true, true] rfl rfl (by kernel_rfl) (by decide) (fun K hK => ?_)
      refine skip_ (w1 := ?_) (by rfl) rfl ?_ ?_
      rotate_left
      · go_simp
        rfl
      refine hK.out _ _ ?_
      clear hK K
      refine done_ (by kernel_rfl) ?_
      go_wp2
      go_roundw
      case rel =>
        refine ⟨k + 1, by omega, by go_num, Lib.hid ⟨?_, HS8.out.2.1.put _, HS8.out.2.2.put (fun e => HS8.out.1.ne3 e.symm) _⟩⟩
        have h1 := HS8.out.1.put hi hlt (y ^^^ m)
        rw [HMM.out, HX.out, HY.out] at h1
        refine MatAt.congr ?_ (fun i j _ _ => adUp_step A c i0 s k i j hne)
        rw [← HX.out, ← HY.out, ← HMM.out] at h1 ⊢
        exact h1
      case measure => simp [intOf]; omega
    · obtain rfl : k = n := by omega
      go_wp2
      go_end0
      exact ⟨rfl, HS.out.1.congr fun i j _ hj => by simp [adUp, hj], HS.out.2.1, HS.out.2.2⟩
end Go.Proofs.Ytnfodhagfcjfpaa

/- mat.New, mat.Unit. -/
namespace Go.Proofs.Ytnfodhagfcjfpaa
open Go.RowKit Go.Proofs.YtnfodhagfcjfpaaW.PrintWords Go.Proofs.YtnfodhagfcjfpaaW.PrintLast Go.Proofs.YtnfodhagfcjfpaaW.PrintMore
set_option linter.unusedVariables false
set_option linter.unusedSimpArgs false

theorem mat_box {w : World} {f base n : Nat} {v : Value} {A : Hyp.Mat} (h : BK.R 5 w base (fun _ => True) v (by8 (Hyp.cellsOf n A))) (hn : 0 < n) (hf : f < base) :
    ∃ g cap, v = .slice (some ⟨g, 0, none⟩) (n * n) cap ∧ base ≤ g ∧ g < w.heap.size ∧
      MatAt (w.alloc (.cells #[.pointer (some ⟨f, 0, none⟩), .int .i64 (n : Int), .int .i64 (n : Int), v] 258)) f w.heap.size g n A := by
  obtain ⟨g, cap, rfl, hb, _⟩ := R_form8 h (Hyp.cellsOf_length n A) (Nat.mul_pos hn hn)
  have hlt := Kd.R_lt h g rfl
  have hr := (Kd.R_reads' h).2.1
  refine ⟨g, cap, rfl, hb, hlt, ⟨⟨cap, hr, heap_alloc_new w _, ?_⟩, by omega, by omega, by omega⟩⟩
  have h1 : BK.R 5 w base (fun k => k = g) (.slice (some ⟨g, 0, none⟩) (n * n) cap) (by8 (Hyp.cellsOf n A)) := by
    have ho := Kd.own_of_R h
    exact Kd.R_of_own ho (fun k hk => by simp [Value.ownBlock] at hk; exact hk.symm)
  exact Kd.R_lower (Kd.R_below h1 (below_alloc (Below.refl _ _) _)) (Nat.zero_le _)

theorem matIn_any (n : Nat) (hn1 : 1 ≤ n) (hn : n ≤ 32) (w : World) : Calls Try.prog 188 #[.int .i64 (n : Int)] w fun e w' => e = .returned (.bool true) ∧ w = w' := by
  have b1 : decide ((1 : Int) ≤ n) = true := decide_eq_true (by omega)
  have b2 : decide ((n : Int) ≤ 32) = true := decide_eq_true (by omega)
  go_enter Try.func188, Try.ntmps188
  go_wp2
  go_ret
  exact ⟨rfl, rfl⟩

/-- a new matrix -/
def MatMade (f n : Nat) (A : Hyp.Mat) (w : World) (e : Ending) (w' : World) : Prop :=
  ∃ mp g, e = .returned (.tuple #[.pointer (some ⟨mp, 0, none⟩), .int .i64 0]) ∧ MatAt w' f mp g n A ∧ w.heap.size ≤ mp ∧ w.heap.size ≤ g ∧ Below w.heap.size w w'

set_option maxRecDepth 100000 in
set_option maxHeartbeats 4000000 in
theorem matNew_any (f n : Nat) (A : Hyp.Mat) (AX : Option Addr) (c : Nat) (w : World) (hn1 : 1 ≤ n) (hn : n ≤ 32) (hf : f < w.heap.size) (hX : BK.C w AX (n * n) (by8 (Hyp.cellsOf n A))) :
    Calls Try.prog 153 #[.pointer (some ⟨f, 0, none⟩), .int .i64 (n : Int), .int .i64 (n : Int), .slice AX (n * n) c] w (MatMade f n A w) := by
  have hl : (by8 (Hyp.cellsOf n A)).length = n * n := by rw [by8_length, Hyp.cellsOf_length]
  have hle : n * n ≤ 32 * 32 := Nat.mul_le_mul hn hn
  have e1 := mul_i64 (i := n) (n := n) rfl rfl hn hn
  have hcl := cloneB_any AX c (by8 (Hyp.cellsOf n A)) w (by rw [hl]; exact hX) (by rw [hl]; unfold big; omega)
  rw [hl] at hcl
  have HCL := Lib.hid hcl
  obtain ⟨nn, hnn⟩ : ∃ nn, nn = n * n := ⟨_, rfl⟩
  rw [← hnn] at e1
  rw [← hnn] at HCL
  rw [← hnn]
  have HNN := Lib.hid hnn
  clear hcl hl hX hnn hle
  go_enter Try.func153, Try.ntmps153
  go_wp2_with (first | (go_at_call 188; refine (matIn_any n hn1 hn _).mono ?_; rintro e w1 ⟨rfl, rfl⟩) | (go_at_call 83; refine HCL.out.mono ?_; rintro e w1 ⟨v1, rfl, hv1, hb1, _⟩; have HV1 := Lib.hid hv1; have HB1 := Lib.hid hb1; obtain ⟨g, cap, rfl, hg1, hg2, hma⟩ := mat_box hv1 hn1 hf; have HMA := Lib.hid hma; clear hv1 hb1 hma))
  go_ret2
  exact ⟨_, _, rfl, HMA.out, HB1.out.size, hg1, HB1.out.alloc HB1.out.size _⟩

/-- the unit's first k ones -/
def unUp (k : Nat) : Hyp.Mat := fun i j => if i = j ∧ i < k then 1 else 0
theorem unUp_start (n : Nat) : by8 (Hyp.cellsOf n (unUp 0)) = List.replicate (n * n) 0 := by
  apply List.ext_getElem
  · simp [by8_length, Hyp.cellsOf_length]
  · intro t h1 h2
    simp [by8, Hyp.cellsOf, unUp]
theorem unUp_step (k i j : Nat) : Hyp.put (unUp k) k k 1 i j = unUp (k + 1) i j := by
  unfold Hyp.put unUp
  by_cases h : i = k ∧ j = k
  · rw [if_pos h, if_pos ⟨by omega, by omega⟩]
  · rw [if_neg h]
    by_cases h2 : i = j ∧ i < k
    · rw [if_pos h2, if_pos ⟨h2.1, by omega⟩]
    · rw [if_neg h2, if_neg (fun h3 => h2 ⟨h3.1, by omega⟩)]

set_option maxRecDepth 100000 in
set_option maxHeartbeats 4000000 in
theorem matUnit_any (f n : Nat) (w : World) (hn1 : 1 ≤ n) (hn : n ≤ 32) (hf : f < w.heap.size) :
    Calls Try.prog 189 #[.pointer (some ⟨f, 0, none⟩), .int .i64 (n : Int)] w (MatMade f n Hyp.unitM w) := by
  have hle : n * n ≤ 32 * 32 := Nat.mul_le_mul hn hn
  have e1 := mul_i64 (i := n) (n := n) rfl rfl hn hn
  obtain ⟨nn, hnn⟩ : ∃ nn, nn = n * n := ⟨_, rfl⟩
  rw [← hnn] at e1 hle
  have HNN := Lib.hid hnn
  have hz := Lib.hid (unUp_start n)
  clear hnn
  go_enter Try.func189, Try.ntmps189
  go_wp2_with (first | (go_at_call 188; refine (matIn_any n hn1 hn _).mono ?_; rintro e w1 ⟨rfl, rfl⟩) | ((with_reducible refine gate_dst (N := 21) rfl ?_); refine Kd.R_make BK (w0 := w) w.heap.size 5 rfl (N := 21) rfl 22 _ _ rfl (nn : Int) rfl rfl Try.underlying22 (.int .u8 0) 1 infoB rfl (by decide) (by omega) 0 (ok := fun _ => True) (okp := fun _ => True) rfl (fun _ hk => hk) trivial (by omega) (by omega) (Below.refl _ _) (Nat.le_refl _) ?_; intro v1 w1 ho1 hb1 hg1 hown; have ho2 : BK.R 5 w1 w.heap.size (fun _ => True) v1 (by8 (Hyp.cellsOf n (unUp 0))) := (by rw [hz.out, ← HNN.out]; exact ho1); have HB1 := Lib.hid hb1; obtain ⟨g, cap, rfl, hg1, hg2, hma⟩ := mat_box ho2 hn1 hf; have HMA := Lib.hid hma; rw [← HNN.out]; clear ho1 hb1 hma ho2 hown))
  go_loopw [25] (fun i wr => ∃ k : Nat, k ≤ n ∧ i = .int .i64 k ∧ Hid (MatAt wr f w1.heap.size g n (unUp k)) ∧ Hid (Below w.heap.size w wr)) (fun i _ => n - (intOf i).toNat)
  case atStart => exact ⟨0, Nat.zero_le _, rfl, Lib.hid (by have h := HMA.out; rwa [← HNN.out] at h), Lib.hid (HB1.out.alloc HB1.out.size _)⟩
  case round =>
    obtain ⟨k, hk, rfl, HM, HB⟩ := hrel
    by_cases hlt : k < n
    · have e2 := mul_i64 (i := k) (n := n) rfl rfl (by omega) hn
      have hcell := HM.out.cell hlt hlt
      have hfz := HM.out.free hn1 (k * n + k)
      have hlt2 := Hyp.cell_lt hlt hlt
      obtain ⟨cap2, hc2, _, _, _, h3, _⟩ := HM.out.open_
      have HP := Lib.hid (HM.out.put hlt hlt 1)
      rw [← HNN.out] at hlt2 h3
      obtain ⟨lk, hlk⟩ : ∃ lk, lk = k * n := ⟨_, rfl⟩
      rw [← hlk] at e2 hcell hfz hlt2 HP
      have HLK := Lib.hid hlk
      clear hlk hc2
      go_wp2
      go_roundw
      case rel => exact ⟨k + 1, by omega, by go_num, Lib.hid (HP.out.congr fun i j _ _ => unUp_step k i j), Lib.hid (HB.out.setCell (show w.heap.size ≤ g from hg1) _)⟩
      case measure => simp [intOf]; omega
    · obtain rfl : k = n := by omega
      go_wp2
      go_ret2
      exact ⟨_, _, rfl, HM.out.congr fun i j hi _ => by simp [unUp, Hyp.unitM, hi], HB1.out.size, hg1, HB.out⟩
end Go.Proofs.Ytnfodhagfcjfpaa

/- (*Matrix).Invert. -/
namespace Go.Proofs.Ytnfodhagfcjfpaa
open Go.RowKit Go.Proofs.YtnfodhagfcjfpaaW.PrintWords Go.Proofs.YtnfodhagfcjfpaaW.PrintLast Go.Proofs.YtnfodhagfcjfpaaW.PrintMore
set_option linter.unusedVariables false
set_option linter.unusedSimpArgs false

/-- while Invert runs: left and out; the blocks made are new -/
structure InvS (f n ml gl mo go : Nat) (A R : Hyp.Mat) (w w' : World) : Prop where
  left : MatAt w' f ml gl n A
  right : MatAt w' f mo go n R
  fld : Fld w' f
  kf : Kf f w w'
/-- the blocks -/
structure InvB (ml gl mo go : Nat) (w : World) : Prop where
  a : w.heap.size ≤ ml
  b : w.heap.size ≤ gl
  c : w.heap.size ≤ mo
  d : w.heap.size ≤ go
  n1 : ml ≠ mo
  n2 : ml ≠ go
  n3 : gl ≠ mo
  n4 : gl ≠ go
theorem InvS.next {f n ml gl mo go : Nat} {A R : Hyp.Mat} {w w1 w2 : World} (h : InvS f n ml gl mo go A R w w1) (k : Kf f w1 w2) (hf : Fld w2 f) : InvS f n ml gl mo go A R w w2 :=
  ⟨h.left.kf k, h.right.kf k, hf, h.kf.trans k⟩
theorem InvS.drewN {f n ml gl mo go : Nat} {A R : Hyp.Mat} {w w1 : World} (h : InvS f n ml gl mo go A R w w1) (m : Nat) : InvS f n ml gl mo go A R w (w1.drewN m) := h.next ((Kf.refl f _).drewN m) (h.fld.drewN m)
theorem InvS.drew {f n ml gl mo go : Nat} {A R : Hyp.Mat} {w w1 : World} (h : InvS f n ml gl mo go A R w w1) : InvS f n ml gl mo go A R w w1.drew := h.next (Kf.refl f _).drew h.fld
theorem InvS.inLeft {f n ml gl mo go : Nat} {A R B : Hyp.Mat} {w w1 w2 : World} (h : InvS f n ml gl mo go A R w w1) (hb : InvB ml gl mo go w) (hm : MatAt w2 f ml gl n B) (k : K2 f gl w1 w2) (hf : Fld w2 f) : InvS f n ml gl mo go B R w w2 :=
  ⟨hm, h.right.keep k (fun e => hb.n3 e.symm) (fun e => hb.n4 e.symm), hf, k.kf h.kf hb.b⟩
theorem InvS.inRight {f n ml gl mo go : Nat} {A R B : Hyp.Mat} {w w1 w2 : World} (h : InvS f n ml gl mo go A R w w1) (hb : InvB ml gl mo go w) (hm : MatAt w2 f mo go n B) (k : K2 f go w1 w2) (hf : Fld w2 f) : InvS f n ml gl mo go A B w w2 :=
  ⟨h.left.keep k hb.n2 hb.n4, hm, hf, k.kf h.kf hb.d⟩
theorem MatAt.lt {w : World} {f mp g n : Nat} {A : Hyp.Mat} (h : MatAt w f mp g n A) (hn : 1 ≤ n) : g < w.heap.size := by
  obtain ⟨cap, _, _, hr⟩ := h.head
  exact Kd.R_lt hr g rfl
theorem MatAt.fg {w : World} {f mp g n : Nat} {A : Hyp.Mat} (h : MatAt w f mp g n A) : f ≠ g := fun e => h.ne3 e.symm
theorem cloneCells {n c : Nat} {A : Option Addr} {M : Hyp.Mat} {W : World} (hn : n ≤ 32) (h : BK.C W A (n * n) (by8 (Hyp.cellsOf n M))) :
    Calls Try.prog 83 #[.slice A (n * n) c] W fun e w' => ∃ v, e = .returned v ∧ BK.R 5 w' W.heap.size (fun _ => True) v (by8 (Hyp.cellsOf n M)) ∧ Below W.heap.size W w' := by
  have hl : (by8 (Hyp.cellsOf n M)).length = n * n := by rw [by8_length, Hyp.cellsOf_length]
  have hle : n * n ≤ 32 * 32 := Nat.mul_le_mul hn hn
  have hcl := cloneB_any A c (by8 (Hyp.cellsOf n M)) W (by rw [hl]; exact h) (by rw [hl]; unfold big; omega)
  rw [hl] at hcl
  refine hcl.mono ?_
  rintro e w' ⟨v, he, hv, hb, _⟩
  exact ⟨v, he, hv, hb⟩

/-- what Invert leaves -/
def InvPost (f n : Nat) (M : Hyp.Mat) (w : World) (e : Ending) (w' : World) : Prop :=
  ∃ mo go R, e = .returned (.tuple #[.pointer (some ⟨mo, 0, none⟩), .int .i64 0]) ∧ MatAt w' f mo go n R ∧ Fld w' f ∧ Kf f w w' ∧ ∀ v i, i < n → Hyp.mv n R (Hyp.mv n M v) i = v i

set_option maxRecDepth 100000 in
set_option maxHeartbeats 8000000 in
theorem invert_any (f mp g n : Nat) (M : Hyp.Mat) (w : World) (hm : MatAt w f mp g n M) (hf : Fld w f) (hn1 : 1 ≤ n) (hn : n ≤ 32) (hker : Hyp.trivKer n M) :
    Calls Try.prog 154 #[.pointer (some ⟨mp, 0, none⟩)] w (InvPost f n M w) := by
  obtain ⟨cap, hcap, h0, h1, h2, h3, _, _, hr⟩ := hm.open_
  have hfw := hf.lt
  have HM := Lib.hid hm
  have HF := Lib.hid hf
  have HKER := Lib.hid hker
  have hX : BK.C w (some ⟨g, 0, none⟩) (n * n) (by8 (Hyp.cellsOf n M)) := by
    have h := (Kd.R_reads' hr).2.2
    rwa [by8_length, Hyp.cellsOf_length] at h
  have HX := Lib.hid hX
  clear hm hf hker hr hX
  go_enter Try.func154, Try.ntmps154
  go_wp2
  go_quiet (fail)
  go_wp2
  have hmf : mp ≠ f := HM.out.ne1
  obtain ⟨nn, hnn⟩ : ∃ nn, nn = n * n := ⟨_, rfl⟩
  rw [← hnn] at h3
  have HNN := Lib.hid hnn
  clear hnn
  refine start_ (n := 20) (S := fun w' => w'.cell? ⟨mp, 0, none⟩ = some (.pointer (some ⟨f, 0, none⟩)) ∧ w'.cell? ⟨mp, 1, none⟩ = some (.int .i64 (n : Int)) ∧ w'.cell? ⟨mp, 2, none⟩ = some (.int .i64 (n : Int)) ∧ w'.cell? ⟨mp, 3, none⟩ = some (.slice (some ⟨g, 0, none⟩) nn cap)) (ds := [18]) #[false, false, false, false, false, false, false, false, false, false, false, false, false, false, false, false, false, false, false, false] (by kernel_rfl) rfl rfl ?hS (fun hHeld => ?_)
  case hS => exact ⟨h0, h1, h2, h3⟩
  refine pure_ (i := 0) (N := some 24) (v := ?_) (a' := ?_) #[true, false, false, false, false, false, false, false, false, false, false, false, false, false, false, false, false, false, false, false] rfl rfl (by kernel_rfl) (fun _ _ _ h => h) (Or.inl ⟨by rfl, ?_⟩) ?_ ?_
  rotate_left
  · intro w'
    go_simp
    with_reducible rfl
  rotate_left
  · simp only [Act.put, List.setIfInBounds_toArray, List.set_cons_zero, List.set_cons_succ, i64_w, i32_w]
    rfl
  refine pure_ (i := 1) (N := some 25) (v := ?_) (a' := ?_) #[true, true, false, false, false, false, false, false, false, false, false, false, false, false, false, false, false, false, false, false] rfl rfl (by kernel_rfl) (fun _ _ _ h => h) (Or.inl ⟨by rfl, ?_⟩) ?_ ?_
  rotate_left
  · intro w'
    go_simp
    with_reducible rfl
  rotate_left
  · simp only [Act.put, List.setIfInBounds_toArray, List.set_cons_zero, List.set_cons_succ, i64_w, i32_w]
    rfl
  refine pure_ (i := 2) (N := some 26) (v := ?_) (a' := ?_) #[true, true, true, false, false, false, false, false, false, false, false, false, false, false, false, false, false, false, false, false] rfl rfl (by kernel_rfl) (fun _ _ _ h => h) (Or.inl ⟨by rfl, ?_⟩) ?_ ?_
  rotate_left
  · intro w'
    go_simp
    with_reducible rfl
  rotate_left
  · simp only [Act.put, List.setIfInBounds_toArray, List.set_cons_zero, List.set_cons_succ, i64_w, i32_w]
    rfl
  refine pure_ (i := 4) (N := some 28) (v := ?_) (a' := ?_) #[true, true, true, false, true, false, false, false, false, false, false, false, false, false, false, false, false, false, false, false] rfl rfl (by kernel_rfl) (fun _ _ _ h => h) (Or.inl ⟨by rfl, ?_⟩) ?_ ?_
  rotate_left
  · intro w'
    go_simp
    with_reducible rfl
  rotate_left
  · simp only [Act.put, List.setIfInBounds_toArray, List.set_cons_zero, List.set_cons_succ, i64_w, i32_w]
    rfl
  refine pure_ (i := 5) (N := some 29) (v := ?_) (a' := ?_) #[true, true, true, false, true, true, false, false, false, false, false, false, false, false, false, false, false, false, false, false] rfl rfl (by kernel_rfl) (fun _ _ _ h => h) (Or.inl ⟨by rfl, ?_⟩) ?_ ?_
  rotate_left
  · intro w'
    go_simp
    with_reducible rfl
  rotate_left
  · simp only [Act.put, List.setIfInBounds_toArray, List.set_cons_zero, List.set_cons_succ, i64_w, i32_w]
    rfl
  refine pure_ (i := 6) (N := some 30) (v := ?_) (a' := ?_) #[true, true, true, false, true, true, true, false, false, false, false, false, false, false, false, false, false, false, false, false] rfl rfl (by kernel_rfl) (fun _ _ _ h => h) (Or.inl ⟨by rfl, ?_⟩) ?_ ?_
  rotate_left
  · intro w'
    go_simp
    with_reducible rfl
  rotate_left
  · simp only [Act.put, List.setIfInBounds_toArray, List.set_cons_zero, List.set_cons_succ, i64_w, i32_w]
    rfl
  refine pure_ (i := 8) (N := some 32) (v := ?_) (a' := ?_) #[true, true, true, false, true, true, true, false, true, false, false, false, false, false, false, false, false, false, false, false] rfl rfl (by kernel_rfl) (fun _ _ _ h => h) (Or.inl ⟨by rfl, ?_⟩) ?_ ?_
  rotate_left
  · intro w'
    go_simp
    with_reducible rfl
  rotate_left
  · simp only [Act.put, List.setIfInBounds_toArray, List.set_cons_zero, List.set_cons_succ, i64_w, i32_w]
    rfl
  refine pure_ (i := 9) (N := some 33) (v := ?_) (a' := ?_) #[true, true, true, false, true, true, true, false, true, true, false, false, false, false, false, false, false, false, false, false] rfl rfl (by kernel_rfl) (fun _ _ _ h => h) (Or.inl ⟨by rfl, ?_⟩) ?_ ?_
  rotate_left
  · intro w'
    go_simp
    with_reducible rfl
  rotate_left
  · simp only [Act.put, List.setIfInBounds_toArray, List.set_cons_zero, List.set_cons_succ, i64_w, i32_w]
    rfl
  refine pure_ (i := 10) (N := some 34) (v := ?_) (a' := ?_) #[true, true, true, false, true, true, true, false, true, true, true, false, false, false, false, false, false, false, false, false] rfl rfl (by kernel_rfl) (fun _ _ _ h => h) (Or.inl ⟨by rfl, ?_⟩) ?_ ?_
  rotate_left
  · intro w'
    go_simp
    with_reducible rfl
  rotate_left
  · simp only [Act.put, List.setIfInBounds_toArray, List.set_cons_zero, List.set_cons_succ, i64_w, i32_w]
    rfl
  refine pure_ (i := 12) (N := some 36) (v := ?_) (a' := ?_) #[true, true, true, false, true, true, true, false, true, true, true, false, true, false, false, false, false, false, false, false] rfl rfl (by kernel_rfl) (fun _ _ _ h => h) (Or.inl ⟨by rfl, ?_⟩) ?_ ?_
  rotate_left
  · intro w'
    go_simp
    with_reducible rfl
  rotate_left
  · simp only [Act.put, List.setIfInBounds_toArray, List.set_cons_zero, List.set_cons_succ, i64_w, i32_w]
    rfl
  refine pure_ (i := 13) (N := some 37) (v := ?_) (a' := ?_) #[true, true, true, false, true, true, true, false, true, true, true, false, true, true, false, false, false, false, false, false] rfl rfl (by kernel_rfl) (fun _ _ _ h => h) (Or.inl ⟨by rfl, ?_⟩) ?_ ?_
  rotate_left
  · intro w'
    go_simp
    with_reducible rfl
  rotate_left
  · simp only [Act.put, List.setIfInBounds_toArray, List.set_cons_zero, List.set_cons_succ, i64_w, i32_w]
    rfl
  refine pure_ (i := 14) (N := some 38) (v := ?_) (a' := ?_) #[true, true, true, false, true, true, true, false, true, true, true, false, true, true, true, false, false, false, false, false] rfl rfl (by kernel_rfl) (fun _ _ _ h => h) (Or.inl ⟨by rfl, ?_⟩) ?_ ?_
  rotate_left
  · intro w'
    go_simp
    with_reducible rfl
  rotate_left
  · simp only [Act.put, List.setIfInBounds_toArray, List.set_cons_zero, List.set_cons_succ, i64_w, i32_w]
    rfl
  refine take_ (i := 3) (N := some 27) (v := ?_) (a' := ?_) #[true, true, true, true, true, true, true, false, true, true, true, false, true, true, true, false, false, false, false, false] rfl rfl (by kernel_rfl) (fun _ _ _ h => h) (Or.inl ⟨by rfl, ?_⟩) hHeld ?_ ?_
  rotate_left
  · rintro w' ⟨s0, s1, s2, s3⟩
    go_simp
    with_reducible rfl
  rotate_left
  · simp only [Act.put, List.setIfInBounds_toArray, List.set_cons_zero, List.set_cons_succ, i64_w, i32_w]
    rfl
  refine take_ (i := 7) (N := some 31) (v := ?_) (a' := ?_) #[true, true, true, true, true, true, true, true, true, true, true, false, true, true, true, false, false, false, false, false] rfl rfl (by kernel_rfl) (fun _ _ _ h => h) (Or.inl ⟨by rfl, ?_⟩) hHeld ?_ ?_
  rotate_left
  · rintro w' ⟨s0, s1, s2, s3⟩
    go_simp
    with_reducible rfl
  rotate_left
  · simp only [Act.put, List.setIfInBounds_toArray, List.set_cons_zero, List.set_cons_succ, i64_w, i32_w]
    rfl
  refine take_ (i := 11) (N := some 35) (v := ?_) (a' := ?_) #[true, true, true, true, true, true, true, true, true, true, true, true, true, true, true, false, false, false, false, false] rfl rfl (by kernel_rfl) (fun _ _ _ h => h) (Or.inl ⟨by rfl, ?_⟩) hHeld ?_ ?_
  rotate_left
  · rintro w' ⟨s0, s1, s2, s3⟩
    go_simp
    with_reducible rfl
  rotate_left
  · simp only [Act.put, List.setIfInBounds_toArray, List.set_cons_zero, List.set_cons_succ, i64_w, i32_w]
    rfl
  refine take_ (i := 15) (N := some 39) (v := ?_) (a' := ?_) #[true, true, true, true, true, true, true, true, true, true, true, true, true, true, true, true, false, false, false, false] rfl rfl (by kernel_rfl) (fun _ _ _ h => h) (Or.inl ⟨by rfl, ?_⟩) hHeld ?_ ?_
  rotate_left
  · rintro w' ⟨s0, s1, s2, s3⟩
    go_simp
    with_reducible rfl
  rotate_left
  · simp only [Act.put, List.setIfInBounds_toArray, List.set_cons_zero, List.set_cons_succ, i64_w, i32_w]
    rfl
  refine one_ (i := 16) (N := some 40) #[true, true, true, true, true, true, true, true, true, true, true, true, true, true, true, true, true, false, false, false] rfl rfl (by kernel_rfl) (by decide) (fun K hK => ?_)
  refine goes_ Try.func83 (by kernel_rfl) rfl #[.slice (some ⟨g, 0, none⟩) nn cap] (by rfl) rfl rfl (by (try simp only [List.map_toArray, List.map_cons, List.map_nil]); first | done | rfl) ?_
  rw [HNN.out]
  refine (cloneCells hn (Kd.C_below HX.out (below_drew (pw_below_drewN (Below.refl _ _) _)))).mono ?_
  rintro e w1 ⟨v1, rfl, hv1, hb1⟩
  have HV1 := Lib.hid hv1
  have HK1 := Lib.hid (((Kf.refl f w).drewN (nq + 1)).below hb1)
  have HFL1 := Lib.hid (Fld.below (show Fld (w.drewN nq).drew f from HF.out) hb1)
  obtain ⟨gl, cl, rfl, hg1, hg2, hma⟩ := mat_box hv1 hn1 hfw
  have HMA := Lib.hid hma
  clear hv1 hb1 hma
  refine ⟨_, rfl, ?_⟩
  refine hK.out _ _ (⟨HK1.out.cell h0 hmf, HK1.out.cell h1 hmf, HK1.out.cell h2 hmf, HK1.out.cell h3 hmf⟩) (fun hHeld => ?_)
  clear hK K
  refine norm_ (a' := ?_) ?_ ?_
  rotate_left
  · show Act.put _ (some 40) _ = _
    simp only [Act.put, List.setIfInBounds_toArray, List.set_cons_zero, List.set_cons_succ, i64_w, i32_w]
    rfl
  refine pure_ (i := 17) (N := some 41) (v := ?_) (a' := ?_) #[true, true, true, true, true, true, true, true, true, true, true, true, true, true, true, true, true, true, false, false] rfl rfl (by kernel_rfl) (fun _ _ _ h => h) (Or.inl ⟨by rfl, ?_⟩) ?_ ?_
  rotate_left
  · intro w'
    go_simp
    with_reducible rfl
  rotate_left
  · simp only [Act.put, List.setIfInBounds_toArray, List.set_cons_zero, List.set_cons_succ, i64_w, i32_w]
    rfl
  refine last_ (i := 18) (N := some 42) #[true, true, true, true, true, true, true, true, true, true, true, true, true, true, true, true, true, true, true, false] rfl rfl (by kernel_rfl) (by decide) (fun K hK => ?_)
  refine value_ (w1 := ?_) (v := ?_) (by rfl) rfl ?_ ?_
  rotate_left 2
  · go_simp
    first | (refine And.intro ?_ ?_ <;> rfl) | rfl
  refine hK.out _ _ ?_
  clear hK K
  refine norm_ (a' := ?_) ?_ ?_
  rotate_left
  · show Act.put _ (some 42) _ = _
    simp only [Act.put, List.setIfInBounds_toArray, List.set_cons_zero, List.set_cons_succ, i64_w, i32_w]
    rfl
  refine pure_ (i := 19) (N := some 4) (v := ?_) (a' := ?_) #[true, true, true, true, true, true, true, true, true, true, true, true, true, true, true, true, true, true, true, true] rfl rfl (by kernel_rfl) (fun _ _ _ h => h) (Or.inl ⟨by rfl, ?_⟩) ?_ ?_
  rotate_left
  · intro w'
    go_simp
    with_reducible rfl
  rotate_left
  · simp only [Act.put, List.setIfInBounds_toArray, List.set_cons_zero, List.set_cons_succ, i64_w, i32_w]
    rfl
  refine done_ (by kernel_rfl) ?_
  go_wp2
  obtain ⟨w2, hw2⟩ : ∃ w2, w2 = w1.alloc (.cells #[.pointer (some ⟨f, 0, none⟩), .int .i64 (n : Int), .int .i64 (n : Int), .slice (some ⟨gl, 0, none⟩) (n * n) cl] 258) := ⟨_, rfl⟩
  have HK2 := Lib.hid (show Kf f w w2 by rw [hw2]; exact HK1.out.alloc _)
  have HMA2 := Lib.hid (show MatAt w2 f w1.heap.size gl n M by rw [hw2]; exact HMA.out)
  have hs2 : w1.heap.size < w2.heap.size := (Array.getElem?_eq_some_iff.1 HMA2.out.head.choose_spec.2.1).1
  have HF2 := Lib.hid (show Fld w2 f by rw [hw2]; exact HFL1.out.alloc _)
  rw [← hw2]
  obtain ⟨ml, hml⟩ : ∃ ml, ml = w1.heap.size := ⟨_, rfl⟩
  rw [← hml] at HMA2 hs2
  rw [← hml]
  have hml1 : w.heap.size ≤ ml := by rw [hml]; exact HK1.out.size
  have hgl1 : w.heap.size ≤ gl := hg1
  have hgl2 : gl < w2.heap.size := by omega
  clear hml hw2 h3 HMA HV1 hg1 hg2
  have g0 := HK2.out.cell h0 hmf
  have g1 := HK2.out.cell h1 hmf
  have g2 := HK2.out.cell h2 hmf
  refine start_ (n := 14) (S := fun w' => w'.cell? ⟨mp, 0, none⟩ = some (.pointer (some ⟨f, 0, none⟩)) ∧ w'.cell? ⟨mp, 1, none⟩ = some (.int .i64 (n : Int))) (ds := []) #[false, false, false, false, false, false, false, false, false, false, false, false, false, false] (by kernel_rfl) rfl rfl ?hS (fun hHeld => ?_)
  case hS => exact ⟨g0, g1⟩
  refine pure_ (i := 0) (N := some 44) (v := ?_) (a' := ?_) #[true, false, false, false, false, false, false, false, false, false, false, false, false, false] rfl rfl (by kernel_rfl) (fun _ _ _ h => h) (Or.inl ⟨by rfl, ?_⟩) ?_ ?_
  rotate_left
  · intro w'
    go_simp
    with_reducible rfl
  rotate_left
  · simp only [Act.put, List.setIfInBounds_toArray, List.set_cons_zero, List.set_cons_succ, i64_w, i32_w]
    rfl
  refine pure_ (i := 1) (N := some 45) (v := ?_) (a' := ?_) #[true, true, false, false, false, false, false, false, false, false, false, false, false, false] rfl rfl (by kernel_rfl) (fun _ _ _ h => h) (Or.inl ⟨by rfl, ?_⟩) ?_ ?_
  rotate_left
  · intro w'
    go_simp
    with_reducible rfl
  rotate_left
  · simp only [Act.put, List.setIfInBounds_toArray, List.set_cons_zero, List.set_cons_succ, i64_w, i32_w]
    rfl
  refine pure_ (i := 2) (N := some 46) (v := ?_) (a' := ?_) #[true, true, true, false, false, false, false, false, false, false, false, false, false, false] rfl rfl (by kernel_rfl) (fun _ _ _ h => h) (Or.inl ⟨by rfl, ?_⟩) ?_ ?_
  rotate_left
  · intro w'
    go_simp
    with_reducible rfl
  rotate_left
  · simp only [Act.put, List.setIfInBounds_toArray, List.set_cons_zero, List.set_cons_succ, i64_w, i32_w]
    rfl
  refine pure_ (i := 4) (N := some 48) (v := ?_) (a' := ?_) #[true, true, true, false, true, false, false, false, false, false, false, false, false, false] rfl rfl (by kernel_rfl) (fun _ _ _ h => h) (Or.inl ⟨by rfl, ?_⟩) ?_ ?_
  rotate_left
  · intro w'
    go_simp
    with_reducible rfl
  rotate_left
  · simp only [Act.put, List.setIfInBounds_toArray, List.set_cons_zero, List.set_cons_succ, i64_w, i32_w]
    rfl
  refine pure_ (i := 5) (N := some 49) (v := ?_) (a' := ?_) #[true, true, true, false, true, true, false, false, false, false, false, false, false, false] rfl rfl (by kernel_rfl) (fun _ _ _ h => h) (Or.inl ⟨by rfl, ?_⟩) ?_ ?_
  rotate_left
  · intro w'
    go_simp
    with_reducible rfl
  rotate_left
  · simp only [Act.put, List.setIfInBounds_toArray, List.set_cons_zero, List.set_cons_succ, i64_w, i32_w]
    rfl
  refine pure_ (i := 6) (N := some 50) (v := ?_) (a' := ?_) #[true, true, true, false, true, true, true, false, false, false, false, false, false, false] rfl rfl (by kernel_rfl) (fun _ _ _ h => h) (Or.inl ⟨by rfl, ?_⟩) ?_ ?_
  rotate_left
  · intro w'
    go_simp
    with_reducible rfl
  rotate_left
  · simp only [Act.put, List.setIfInBounds_toArray, List.set_cons_zero, List.set_cons_succ, i64_w, i32_w]
    rfl
  refine take_ (i := 3) (N := some 47) (v := ?_) (a' := ?_) #[true, true, true, true, true, true, true, false, false, false, false, false, false, false] rfl rfl (by kernel_rfl) (fun _ _ _ h => h) (Or.inl ⟨by rfl, ?_⟩) hHeld ?_ ?_
  rotate_left
  · rintro w' ⟨s0, s1⟩
    go_simp
    with_reducible rfl
  rotate_left
  · simp only [Act.put, List.setIfInBounds_toArray, List.set_cons_zero, List.set_cons_succ, i64_w, i32_w]
    rfl
  refine take_ (i := 7) (N := some 51) (v := ?_) (a' := ?_) #[true, true, true, true, true, true, true, true, false, false, false, false, false, false] rfl rfl (by kernel_rfl) (fun _ _ _ h => h) (Or.inl ⟨by rfl, ?_⟩) hHeld ?_ ?_
  rotate_left
  · rintro w' ⟨s0, s1⟩
    go_simp
    with_reducible rfl
  rotate_left
  · simp only [Act.put, List.setIfInBounds_toArray, List.set_cons_zero, List.set_cons_succ, i64_w, i32_w]
    rfl
  refine one_ (i := 8) (N := some 52) #[true, true, true, true, true, true, true, true, true, false, false, false, false, false] rfl rfl (by kernel_rfl) (by decide) (fun K hK => ?_)
  refine goes_ Try.func189 (by kernel_rfl) rfl #[.pointer (some ⟨f, 0, none⟩), .int .i64 (n : Int)] (by rfl) rfl rfl (by (try simp only [List.map_toArray, List.map_cons, List.map_nil]); first | done | rfl) ?_
  refine (matUnit_any f n _ hn1 hn (show f < w2.drew.heap.size from Nat.lt_of_lt_of_le hfw HK2.out.size)).mono ?_
  rintro e w3 ⟨mo, go, rfl, hmo, ho1, ho2, hb3⟩
  have HMO := Lib.hid hmo
  have HK23 := Lib.hid (((Kf.refl f w2).drew).below hb3)
  have HF3 := Lib.hid (Fld.below (show Fld w2.drew f from HF2.out) hb3)
  have ho3 : w2.heap.size ≤ mo := ho1
  have ho4 : w2.heap.size ≤ go := ho2
  clear hmo hb3 ho1 ho2
  refine ⟨_, rfl, ?_⟩
  refine hK.out _ _ (⟨HK23.out.cell g0 hmf, HK23.out.cell g1 hmf⟩) (fun hHeld => ?_)
  clear hK K
  refine norm_ (a' := ?_) ?_ ?_
  rotate_left
  · show Act.put _ (some 52) _ = _
    simp only [Act.put, List.setIfInBounds_toArray, List.set_cons_zero, List.set_cons_succ, i64_w, i32_w]
    rfl
  refine pure_ (i := 9) (N := some 43) (v := ?_) (a' := ?_) #[true, true, true, true, true, true, true, true, true, true, false, false, false, false] rfl rfl (by kernel_rfl) (fun _ _ _ h => h) (Or.inl ⟨by rfl, ?_⟩) ?_ ?_
  rotate_left
  · intro w'
    go_simp
    with_reducible rfl
  rotate_left
  · simp only [Act.put, List.setIfInBounds_toArray, List.set_cons_zero, List.set_cons_succ, i64_w, i32_w]
    rfl
  refine pure_ (i := 10) (N := some 53) (v := ?_) (a' := ?_) #[true, true, true, true, true, true, true, true, true, true, true, false, false, false] rfl rfl (by kernel_rfl) (fun _ _ _ h => h) (Or.inl ⟨by rfl, ?_⟩) ?_ ?_
  rotate_left
  · intro w'
    go_simp
    with_reducible rfl
  rotate_left
  · simp only [Act.put, List.setIfInBounds_toArray, List.set_cons_zero, List.set_cons_succ, i64_w, i32_w]
    rfl
  refine pure_ (i := 11) (N := some 54) (v := ?_) (a' := ?_) #[true, true, true, true, true, true, true, true, true, true, true, true, false, false] rfl rfl (by kernel_rfl) (fun _ _ _ h => h) (Or.inl ⟨by rfl, ?_⟩) ?_ ?_
  rotate_left
  · intro w'
    go_simp
    with_reducible rfl
  rotate_left
  · simp only [Act.put, List.setIfInBounds_toArray, List.set_cons_zero, List.set_cons_succ, i64_w, i32_w]
    rfl
  refine pure_ (i := 12) (N := some 5) (v := ?_) (a' := ?_) #[true, true, true, true, true, true, true, true, true, true, true, true, true, false] rfl rfl (by kernel_rfl) (fun _ _ _ h => h) (Or.inl ⟨by rfl, ?_⟩) ?_ ?_
  rotate_left
  · intro w'
    go_simp
    with_reducible rfl
  rotate_left
  · simp only [Act.put, List.setIfInBounds_toArray, List.set_cons_zero, List.set_cons_succ, i64_w, i32_w]
    rfl
  refine pure_ (i := 13) (N := some 6) (v := ?_) (a' := ?_) #[true, true, true, true, true, true, true, true, true, true, true, true, true, true] rfl rfl (by kernel_rfl) (fun _ _ _ h => h) (Or.inl ⟨by rfl, ?_⟩) ?_ ?_
  rotate_left
  · intro w'
    go_simp
    with_reducible rfl
  rotate_left
  · simp only [Act.put, List.setIfInBounds_toArray, List.set_cons_zero, List.set_cons_succ, i64_w, i32_w]
    rfl
  refine done_ (by kernel_rfl) ?_
  have HB := Lib.hid (show InvB ml gl mo go w from ⟨hml1, hgl1, by have := HK2.out.size; omega, by have := HK2.out.size; omega, by omega, by omega, by omega, by omega⟩)
  have HS3 := Lib.hid (show InvS f n ml gl mo go M Hyp.unitM w w3 from ⟨HMA2.out.kf HK23.out, HMO.out, HF3.out, HK2.out.trans HK23.out⟩)
  have HT0 := Lib.hid (Hyp.Turned.start HKER.out)
  clear g0 g1 g2
  have g2 := HS3.out.kf.cell h2 hmf
  have hmlf := HMA2.out.ne1
  clear HMA2 HK23 HF3 HMO HF2 HK2 HK1 HFL1
  go_wp2
  go_loopw [59] (fun i wr => ∃ (c : Nat) (A R : Hyp.Mat), c ≤ n ∧ i = .int .i64 c ∧ Hid (InvS f n ml gl mo go A R w wr) ∧ Hid (Hyp.Turned n M A R) ∧ Hid (Hyp.Done n c A)) (fun i _ => n - (intOf i).toNat)
  case atStart => exact ⟨0, M, Hyp.unitM, Nat.zero_le _, rfl, HS3, HT0, Lib.hid (Hyp.done_zero n M)⟩
  case round =>
    obtain ⟨c, A, R, hc, rfl, HS, HT, HD⟩ := hrel
    by_cases hlt : c < n
    · have g1 := HS.out.kf.cell h1 hmf
      obtain ⟨p0, hp1, hp2, hp3⟩ := Hyp.pivot_exists HT.out.ker HD.out hlt
      have HP3 := Lib.hid hp3
      clear hp3
      go_wp2
      go_loopw [8] (fun i wi => ∃ p : Nat, c ≤ p ∧ p ≤ p0 ∧ i = .int .i64 p ∧ Hid (InvS f n ml gl mo go A R w wi)) (fun i _ => n - (intOf i).toNat)
      case atStart => exact ⟨c, Nat.le_refl _, hp1, rfl, HS⟩
      case round =>
        obtain ⟨p, hpc, hpp, rfl, HSI⟩ := hrel
        have hpn : p < n := by omega
        have g1 := HSI.out.kf.cell h1 hmf
        obtain ⟨u, hu⟩ : ∃ u, u = A p c := ⟨_, rfl⟩
        have HU := Lib.hid hu
        clear hu
        by_cases hz : u = 0
        · have hb : ((u.toNat : Int) == 0) = true := by rw [hz]; rfl
          have hpne : p ≠ p0 := fun e => HP3.out (by rw [← e, ← HU.out]; exact hz)
          clear hz
          go_wp2_with (first | (go_at_call 155; refine (matAt_any HSI.out.left p c _ _ rfl rfl hpn hlt hn).mono ?_; rintro e w7 ⟨rfl, m7, rfl⟩; rw [← HU.out]))
          go_roundw
          case rel => exact ⟨p + 1, by omega, by omega, by go_num, Lib.hid (HSI.out.drewN m7)⟩
          case measure => simp [intOf]; omega
        · have hb : ((u.toNat : Int) == 0) = false := by
            rw [beq_eq_false_iff_ne]
            intro hc0
            exact hz (UInt8.toNat_inj.1 (by show u.toNat = 0; omega))
          have HNZ := Lib.hid (show A p c ≠ 0 by rw [← HU.out]; exact hz)
          have hpn2 : ((p : Int) == (n : Int)) = false := by rw [beq_eq_false_iff_ne]; omega
          clear hz
          go_wp2_with (first | (go_at_call 155; refine (matAt_any HSI.out.left p c _ _ rfl rfl hpn hlt hn).mono ?_; rintro e w7 ⟨rfl, m7, rfl⟩; rw [← HU.out]))
          have HS7 := Lib.hid (HSI.out.drewN m7)
          have g0 := HSI.out.kf.cell h0 hmf
          refine start_ (n := 14) (S := fun w' => InvS f n ml gl mo go A R w w' ∧ w'.cell? ⟨mp, 0, none⟩ = some (.pointer (some ⟨f, 0, none⟩))) (ds := []) #[false, false, false, false, false, false, false, false, false, false, false, false, false, false] (by kernel_rfl) rfl rfl ?hS (fun hHeld => ?_)
          case hS => exact ⟨HS7.out.drew, g0⟩
          refine pure_ (i := 0) (N := some 85) (v := ?_) (a' := ?_) #[true, false, false, false, false, false, false, false, false, false, false, false, false, false] rfl rfl (by kernel_rfl) (fun _ _ _ h => h) (Or.inl ⟨by rfl, ?_⟩) ?_ ?_
          rotate_left
          · intro w'
            go_simp
            with_reducible rfl
          rotate_left
          · simp only [Act.put, List.setIfInBounds_toArray, List.set_cons_zero, List.set_cons_succ, i64_w, i32_w]
            rfl
          refine pure_ (i := 1) (N := some 86) (v := ?_) (a' := ?_) #[true, true, false, false, false, false, false, false, false, false, false, false, false, false] rfl rfl (by kernel_rfl) (fun _ _ _ h => h) (Or.inl ⟨by rfl, ?_⟩) ?_ ?_
          rotate_left
          · intro w'
            go_simp
            with_reducible rfl
          rotate_left
          · simp only [Act.put, List.setIfInBounds_toArray, List.set_cons_zero, List.set_cons_succ, i64_w, i32_w]
            rfl
          refine pure_ (i := 2) (N := some 87) (v := ?_) (a' := ?_) #[true, true, true, false, false, false, false, false, false, false, false, false, false, false] rfl rfl (by kernel_rfl) (fun _ _ _ h => h) (Or.inl ⟨by rfl, ?_⟩) ?_ ?_
          rotate_left
          · intro w'
            go_simp
            with_reducible rfl
          rotate_left
          · simp only [Act.put, List.setIfInBounds_toArray, List.set_cons_zero, List.set_cons_succ, i64_w, i32_w]
            rfl
          refine pure_ (i := 4) (N := some 89) (v := ?_) (a' := ?_) #[true, true, true, false, true, false, false, false, false, false, false, false, false, false] rfl rfl (by kernel_rfl) (fun _ _ _ h => h) (Or.inl ⟨by rfl, ?_⟩) ?_ ?_
          rotate_left
          · intro w'
            go_simp
            with_reducible rfl
          rotate_left
          · simp only [Act.put, List.setIfInBounds_toArray, List.set_cons_zero, List.set_cons_succ, i64_w, i32_w]
            rfl
          refine pure_ (i := 5) (N := some 90) (v := ?_) (a' := ?_) #[true, true, true, false, true, true, false, false, false, false, false, false, false, false] rfl rfl (by kernel_rfl) (fun _ _ _ h => h) (Or.inl ⟨by rfl, ?_⟩) ?_ ?_
          rotate_left
          · intro w'
            go_simp
            with_reducible rfl
          rotate_left
          · simp only [Act.put, List.setIfInBounds_toArray, List.set_cons_zero, List.set_cons_succ, i64_w, i32_w]
            rfl
          refine pure_ (i := 6) (N := some 91) (v := ?_) (a' := ?_) #[true, true, true, false, true, true, true, false, false, false, false, false, false, false] rfl rfl (by kernel_rfl) (fun _ _ _ h => h) (Or.inl ⟨by rfl, ?_⟩) ?_ ?_
          rotate_left
          · intro w'
            go_simp
            with_reducible rfl
          rotate_left
          · simp only [Act.put, List.setIfInBounds_toArray, List.set_cons_zero, List.set_cons_succ, i64_w, i32_w]
            rfl
          refine take_ (i := 3) (N := some 88) (v := ?_) (a' := ?_) #[true, true, true, true, true, true, true, false, false, false, false, false, false, false] rfl rfl (by kernel_rfl) (fun _ _ _ h => h) (Or.inl ⟨by rfl, ?_⟩) hHeld ?_ ?_
          rotate_left
          · rintro w' ⟨s0, s1⟩
            go_simp
            with_reducible rfl
          rotate_left
          · simp only [Act.put, List.setIfInBounds_toArray, List.set_cons_zero, List.set_cons_succ, i64_w, i32_w]
            rfl
          refine one_ (i := 7) (N := some 92) #[true, true, true, true, true, true, true, true, false, false, false, false, false, false] rfl rfl (by kernel_rfl) (by decide) (fun K hK => ?_)
          refine goes_ Try.func155 (by kernel_rfl) rfl #[.pointer (some ⟨ml, 0, none⟩), .int .i64 (p : Int), .int .i64 (c : Int)] (by rfl) rfl rfl (by (try simp only [List.map_toArray, List.map_cons, List.map_nil]); first | done | rfl) ?_
          refine (matAt_any hHeld.1.left p c _ _ rfl rfl hpn hlt hn).mono ?_
          rintro e w8 ⟨rfl, m8, rfl⟩
          rw [← HU.out]
          refine ⟨_, rfl, ?_⟩
          refine hK.out _ _ (⟨hHeld.1.drewN m8, hHeld.2⟩) (fun hHeld => ?_)
          clear hK K
          refine norm_ (a' := ?_) ?_ ?_
          rotate_left
          · show Act.put _ (some 92) _ = _
            simp only [Act.put, List.setIfInBounds_toArray, List.set_cons_zero, List.set_cons_succ, i64_w, i32_w]
            rfl
          refine one_ (i := 8) (N := some 93) #[true, true, true, true, true, true, true, true, true, false, false, false, false, false] rfl rfl (by kernel_rfl) (by decide) (fun K hK => ?_)
          refine goes_ Try.func78 (by kernel_rfl) rfl #[.pointer (some ⟨f, 0, none⟩), .int .u8 (u.toNat : Int)] (by rfl) rfl rfl (by (try simp only [List.map_toArray, List.map_cons, List.map_nil]); first | done | rfl) ?_
          have HOLD := Lib.hid hHeld.1
          refine (inv_any f u _ hHeld.1.fld).mono ?_
          rintro e w8 ⟨rfl, hk8, hf8⟩
          obtain ⟨bz, hbz⟩ : ∃ bz, bz = decide (u ≠ 0) := ⟨_, rfl⟩
          rw [← hbz]
          clear hbz
          have HS8 := Lib.hid (HOLD.out.next hk8 hf8)
          clear hk8 hf8
          refine ⟨_, rfl, ?_⟩
          refine hK.out _ _ (⟨HS8.out, HS8.out.kf.cell h0 hmf⟩) (fun hHeld => ?_)
          clear hK K
          refine norm_ (a' := ?_) ?_ ?_
          rotate_left
          · show Act.put _ (some 93) _ = _
            simp only [Act.put, List.setIfInBounds_toArray, List.set_cons_zero, List.set_cons_succ, i64_w, i32_w]
            rfl
          refine pure_ (i := 9) (N := some 84) (v := ?_) (a' := ?_) #[true, true, true, true, true, true, true, true, true, true, false, false, false, false] rfl rfl (by kernel_rfl) (fun _ _ _ h => h) (Or.inl ⟨by rfl, ?_⟩) ?_ ?_
          rotate_left
          · intro w'
            go_simp
            with_reducible rfl
          rotate_left
          · simp only [Act.put, List.setIfInBounds_toArray, List.set_cons_zero, List.set_cons_succ, i64_w, i32_w]
            rfl
          refine pure_ (i := 10) (N := some 94) (v := ?_) (a' := ?_) #[true, true, true, true, true, true, true, true, true, true, true, false, false, false] rfl rfl (by kernel_rfl) (fun _ _ _ h => h) (Or.inl ⟨by rfl, ?_⟩) ?_ ?_
          rotate_left
          · intro w'
            go_simp
            with_reducible rfl
          rotate_left
          · simp only [Act.put, List.setIfInBounds_toArray, List.set_cons_zero, List.set_cons_succ, i64_w, i32_w]
            rfl
          refine pure_ (i := 11) (N := some 95) (v := ?_) (a' := ?_) #[true, true, true, true, true, true, true, true, true, true, true, true, false, false] rfl rfl (by kernel_rfl) (fun _ _ _ h => h) (Or.inl ⟨by rfl, ?_⟩) ?_ ?_
          rotate_left
          · intro w'
            go_simp
            with_reducible rfl
          rotate_left
          · simp only [Act.put, List.setIfInBounds_toArray, List.set_cons_zero, List.set_cons_succ, i64_w, i32_w]
            rfl
          refine pure_ (i := 12) (N := some 9) (v := ?_) (a' := ?_) #[true, true, true, true, true, true, true, true, true, true, true, true, true, false] rfl rfl (by kernel_rfl) (fun _ _ _ h => h) (Or.inl ⟨by rfl, ?_⟩) ?_ ?_
          rotate_left
          · intro w'
            go_simp
            with_reducible rfl
          rotate_left
          · simp only [Act.put, List.setIfInBounds_toArray, List.set_cons_zero, List.set_cons_succ, i64_w, i32_w]
            rfl
          refine pure_ (i := 13) (N := some 10) (v := ?_) (a' := ?_) #[true, true, true, true, true, true, true, true, true, true, true, true, true, true] rfl rfl (by kernel_rfl) (fun _ _ _ h => h) (Or.inl ⟨by rfl, ?_⟩) ?_ ?_
          rotate_left
          · intro w'
            go_simp
            with_reducible rfl
          rotate_left
          · simp only [Act.put, List.setIfInBounds_toArray, List.set_cons_zero, List.set_cons_succ, i64_w, i32_w]
            rfl
          refine done_ (by kernel_rfl) ?_
          clear g0
          go_wp2
          obtain ⟨w9, hw9⟩ : ∃ w9, w9 = w8.alloc (.cells #[.pointer (some ⟨ml, 0, none⟩), .pointer (some ⟨mo, 0, none⟩)] 225) := ⟨_, rfl⟩
          obtain ⟨b, hbe⟩ : ∃ b, b = w8.heap.size := ⟨_, rfl⟩
          have HB9 := Lib.hid (show w9.heap[b]? = some (.cells #[.pointer (some ⟨ml, 0, none⟩), .pointer (some ⟨mo, 0, none⟩)] 225 (0, 0)) by rw [hw9, hbe]; exact heap_alloc_new w8 _)
          have HS9 := Lib.hid (show InvS f n ml gl mo go A R w w9 by rw [hw9]; exact HS8.out.next ((Kf.refl f w8).alloc _) (HS8.out.fld.alloc _))
          have HBN := Lib.hid (show b ≠ f ∧ b ≠ gl ∧ b ≠ go by
            have e1 := HS8.out.fld.lt
            obtain ⟨_, _, _, r1⟩ := HS8.out.left.head
            obtain ⟨_, _, _, r2⟩ := HS8.out.right.head
            have e2 := HS8.out.left.lt hn1
            have e3 := HS8.out.right.lt hn1
            omega)
          rw [← hw9, ← hbe]
          clear hw9 hbe
          go_loopw [100] (fun i wi => ∃ x : Nat, x ≤ 2 ∧ i = .int .i64 x ∧ Hid (InvS f n ml gl mo go (if x = 0 then A else (Hyp.rscale (Hyp.rswap A p c) c (Hyp.inv u))) (if x ≤ 1 then R else (Hyp.rscale (Hyp.rswap R p c) c (Hyp.inv u))) w wi) ∧ Hid (wi.heap[b]? = some (.cells #[.pointer (some ⟨ml, 0, none⟩), .pointer (some ⟨mo, 0, none⟩)] 225 (0, 0)))) (fun i _ => 2 - (intOf i).toNat)
          case atStart => exact ⟨0, by omega, rfl, HS9, HB9⟩
          case round =>
            obtain ⟨x, hx2, rfl, HX, HBX⟩ := hrel
            by_cases hx0 : x = 0
            · subst hx0
              have HX0 := Lib.hid (show InvS f n ml gl mo go A R w wr from HX.out)
              have q0 := blk_at HBX.out 0
              replace q0 : wr.cell? ⟨b, 0, none⟩ = some (.pointer (some ⟨ml, 0, none⟩)) := q0
              clear HX
              go_wp2_with (first | (go_at_call 190; refine (matSwap_any HX0.out.left p c hpn hlt hn).mono ?_; rintro e wa ⟨rfl, hma, hka⟩; have HMA := Lib.hid hma; have HKA := Lib.hid hka; have HFA := Lib.hid (hka.fld HX0.out.left.fg HX0.out.fld); clear hma hka) | (go_at_call 191; refine (matScale_any HMA.out HFA.out c (Hyp.inv u) hlt hn).mono ?_; rintro e wb ⟨rfl, hmb, hkb, hfb⟩; have HSB := Lib.hid (HX0.out.inLeft HB.out hmb (HKA.out.weak.trans hkb) hfb); have HKB := Lib.hid (HKA.out.weak.trans hkb); clear hmb hkb hfb))
              go_roundw
              case rel => exact ⟨1, by omega, by go_num, HSB, Lib.hid (HKB.out.heap HBX.out HBN.out.1 HBN.out.2.1)⟩
              case measure => simp [intOf]
            · by_cases hx1 : x = 1
              · subst hx1
                have HX1 := Lib.hid (show InvS f n ml gl mo go (Hyp.rscale (Hyp.rswap A p c) c (Hyp.inv u)) R w wr from HX.out)
                have q1 := blk_at HBX.out 1
                replace q1 : wr.cell? ⟨b, 1, none⟩ = some (.pointer (some ⟨mo, 0, none⟩)) := q1
                clear HX hx0
                go_wp2_with (first | (go_at_call 190; refine (matSwap_any HX1.out.right p c hpn hlt hn).mono ?_; rintro e wa ⟨rfl, hma, hka⟩; have HMA := Lib.hid hma; have HKA := Lib.hid hka; have HFA := Lib.hid (hka.fld HX1.out.right.fg HX1.out.fld); clear hma hka) | (go_at_call 191; refine (matScale_any HMA.out HFA.out c (Hyp.inv u) hlt hn).mono ?_; rintro e wb ⟨rfl, hmb, hkb, hfb⟩; have HSB := Lib.hid (HX1.out.inRight HB.out hmb (HKA.out.weak.trans hkb) hfb); have HKB := Lib.hid (HKA.out.weak.trans hkb); clear hmb hkb hfb))
                go_roundw
                case rel => exact ⟨2, by omega, by go_num, HSB, Lib.hid (HKB.out.heap HBX.out HBN.out.1 HBN.out.2.2)⟩
                case measure => simp [intOf]
              · obtain rfl : x = 2 := by omega
                have HX2 := Lib.hid (show InvS f n ml gl mo go (Hyp.rscale (Hyp.rswap A p c) c (Hyp.inv u)) (Hyp.rscale (Hyp.rswap R p c) c (Hyp.inv u)) w wr from HX.out)
                have HE := Lib.hid (show Hyp.Elim n c 0 M (Hyp.rscale (Hyp.rswap A p c) c (Hyp.inv u)) (Hyp.rscale (Hyp.rswap R p c) c (Hyp.inv u)) by rw [HU.out]; exact Hyp.Elim.start HT.out HD.out hpc hpn HNZ.out)
                have g1 := HX2.out.kf.cell h1 hmf
                clear HX hx0 hx1
                rw [show ((2 : Nat) : Int) = (2 : Int) from rfl]
                go_wp2
                go_loopw [117] (fun i wi => ∃ (k : Nat) (A2 R2 : Hyp.Mat), k ≤ n ∧ i = .int .i64 k ∧ Hid (InvS f n ml gl mo go A2 R2 w wi) ∧ Hid (Hyp.Elim n c k M A2 R2)) (fun i _ => n - (intOf i).toNat)
                case atStart => exact ⟨0, _, _, Nat.zero_le _, rfl, HX2, HE⟩
                case round =>
                  obtain ⟨k, A2, R2, hk, rfl, HS2, HE2⟩ := hrel
                  by_cases hkn : k < n
                  · obtain ⟨tm, htm⟩ : ∃ tm, tm = A2 k c := ⟨_, rfl⟩
                    have HTM := Lib.hid htm
                    clear htm
                    by_cases hkc : k = c
                    · have hb2 : ((k : Int) != (c : Int)) = false := by rw [bne_eq_false_iff_eq, hkc]
                      have HNX := Lib.hid (show Hyp.Elim n c (k + 1) M A2 R2 by have h := HE2.out; rw [hkc] at h ⊢; exact h.skip)
                      clear hkc
                      go_wp2_with (first | (go_at_call 155; refine (matAt_any HS2.out.left k c _ _ rfl rfl hkn hlt hn).mono ?_; rintro e wa ⟨rfl, ma, rfl⟩; rw [← HTM.out]))
                      go_roundw
                      case rel => exact ⟨k + 1, A2, R2, by omega, by go_num, Lib.hid (HS2.out.drewN ma), HNX⟩
                      case measure => simp [intOf]; omega
                    · have hb2 : ((k : Int) != (c : Int)) = true := by rw [bne_iff_ne]; omega
                      have HNX := Lib.hid (HE2.out.add hlt hkn hkc)
                      have HKC := Lib.hid hkc
                      clear hkc
                      go_wp2_with (first | (go_at_call 155; refine (matAt_any HS2.out.left k c _ _ rfl rfl hkn hlt hn).mono ?_; rintro e wa ⟨rfl, ma, rfl⟩; rw [← HTM.out]; have HSA := Lib.hid (HS2.out.drewN ma)) | (go_at_call_of 192 (Value.pointer (some ⟨ml, 0, none⟩)); refine (matAdd_any HSA.out.left HSA.out.fld c k tm hlt hkn HKC.out hn).mono ?_; rintro e wb ⟨rfl, hmb, hkb, hfb⟩; have HSB := Lib.hid (HSA.out.inLeft HB.out hmb hkb hfb); clear hmb hkb hfb) | (go_at_call_of 192 (Value.pointer (some ⟨mo, 0, none⟩)); refine (matAdd_any HSB.out.right HSB.out.fld c k tm hlt hkn HKC.out hn).mono ?_; rintro e wc ⟨rfl, hmc, hkc2, hfc⟩; have HSC := Lib.hid (HSB.out.inRight HB.out hmc hkc2 hfc); clear hmc hkc2 hfc))
                      go_roundw
                      case rel => exact ⟨k + 1, _, _, by omega, by go_num, by have h := HSC.out; rw [HTM.out] at h; exact Lib.hid h, HNX⟩
                      case measure => simp [intOf]; omega
                  · obtain rfl : k = n := by omega
                    have HDN := Lib.hid (HE2.out.next hlt)
                    have HTN := Lib.hid HE2.out.turned
                    go_wp2
                    go_roundw
                    case rel => exact ⟨c + 1, A2, R2, by omega, by go_num, HS2, HTN, HDN⟩
                    case measure => simp [intOf]; omega
    · obtain rfl : c = n := by omega
      go_wp2
      go_ret2
      exact ⟨mo, go, R, rfl, HS.out.right, HS.out.fld, HS.out.kf, fun v i hi => Hyp.finished HT.out HD.out v i hi⟩
end Go.Proofs.Ytnfodhagfcjfpaa
