/- (*Code).Size and (*Code).Coef. -/
import Derived.Test.YtnfodhagfcjfpaaC2
import Derived.StillTailTactics
import Derived.Deep.RegionWith
import Derived.Deep.RegionHeld3
namespace Go.Proofs.Ytnfodhagfcjfpaa
open Go.RowKit Go.Proofs.YtnfodhagfcjfpaaW.PrintWords Go.Proofs.YtnfodhagfcjfpaaW.PrintLast Go.Proofs.YtnfodhagfcjfpaaW.PrintMore
set_option linter.unusedVariables false
set_option linter.unusedSimpArgs false

/-- bytes as the model's numbers -/
def by8 (l : List UInt8) : List Int := l.map fun b => (b.toNat : Int)
theorem by8_length (l : List UInt8) : (by8 l).length = l.length := by simp [by8]
theorem by8_getD (l : List UInt8) (j : Nat) : (by8 l).getD j 0 = ((l.getD j 0).toNat : Int) := by
  unfold by8
  by_cases h : j < l.length
  · simp [List.getD_eq_getElem?_getD, h]
  · simp [List.getD_eq_getElem?_getD, List.getElem?_eq_none (by omega : l.length ≤ j)]
theorem by8_append (a b : List UInt8) : by8 (a ++ b) = by8 a ++ by8 b := by simp [by8]
theorem bxor (a b : UInt8) : Go.bits BinOp.xor IntKind.u8 (a.toNat : Int) (b.toNat : Int) = ((a ^^^ b).toNat : Int) := by
  rw [u8_xor_nat _ _ a.toNat_lt b.toNat_lt, UInt8.toNat_xor]

def CodeU (w : World) (f cp : Nat) (xs ys : List UInt8) : Prop := CodeIs w f cp (by8 xs) (by8 ys)

theorem CodeU.keep {w w1 : World} {f cp : Nat} {xs ys : List UInt8} (h : CodeU w f cp xs ys) (hk : Kf f w w1) : CodeU w1 f cp xs ys := CodeIs.keep h hk

/-- what the walk reads of a code -/
theorem CodeU.open_ {w : World} {f cp : Nat} {xs ys : List UInt8} (h : CodeU w f cp xs ys) :
    ∃ AX cX AY cY, w.cell? ⟨cp, 0, none⟩ = some (.pointer (some ⟨f, 0, none⟩)) ∧ w.cell? ⟨cp, 1, none⟩ = some (.slice AX xs.length cX) ∧ w.cell? ⟨cp, 2, none⟩ = some (.slice AY ys.length cY) ∧
      Kd.F BK w (· ≠ f) AX xs.length (by8 xs) ∧ Kd.F BK w (· ≠ f) AY ys.length (by8 ys) ∧ cp ≠ f := by
  obtain ⟨AX, cX, AY, cY, hb, hne, _, _, hX, hY⟩ := h
  rw [by8_length, by8_length] at *
  exact ⟨AX, cX, AY, cY, (blk_at hb 0).trans rfl, (blk_at hb 1).trans rfl, (blk_at hb 2).trans rfl, hX, hY, hne⟩

theorem size_any (f cp : Nat) (xs ys : List UInt8) (w : World) (h : CodeU w f cp xs ys) :
    Calls Try.prog 53 #[.pointer (some ⟨cp, 0, none⟩)] w fun e w' => e = .returned (.tuple #[.int .i64 (xs.length : Int), .int .i64 (ys.length : Int)]) ∧ ∃ n, w.drewN n = w' := by
  obtain ⟨AX, cX, AY, cY, h0, h1, h2, _, _, _⟩ := h.open_
  go_enter Try.func53, Try.ntmps53
  go_wp2
  go_quiet (fail)
  go_wp2
  go_ret2
  exact ⟨rfl, _, rfl⟩

theorem inv_xor (f : Nat) (y x : UInt8) (w : World) (hf : Fld w f) :
    Calls Try.prog 78 #[.pointer (some ⟨f, 0, none⟩), .int .u8 ((y.toNat ^^^ x.toNat : Nat) : Int)] w fun e w' => MulPost f w (.tuple #[.int .u8 ((Hyp.inv (y ^^^ x)).toNat : Int), .bool (decide (y ^^^ x ≠ 0))]) e w' := by
  have := inv_any f (y ^^^ x) w hf
  rwa [UInt8.toNat_xor] at this

def coef (xs ys : List UInt8) (j i : Nat) : UInt8 := Hyp.inv (ys.getD j 0 ^^^ xs.getD i 0)

set_option maxRecDepth 100000 in
set_option maxHeartbeats 2000000 in
theorem coef_in (f cp : Nat) (xs ys : List UInt8) (j i : Nat) (hj : j < ys.length) (hi : i < xs.length) (w : World) (hl : ys.length ≤ 255 ∧ xs.length ≤ 255) (h : CodeU w f cp xs ys) (hf : Fld w f) :
    Calls Try.prog 26 #[.pointer (some ⟨cp, 0, none⟩), .int .i64 (j : Int), .int .i64 (i : Int)] w (MulPost f w (.int .u8 ((coef xs ys j i).toNat : Int))) := by
  obtain ⟨AX, cX, AY, cY, h0, h1, h2, hX, hY, hcf⟩ := h.open_
  obtain ⟨ax, rfl, hx⟩ := BK_at (Kd.F_now hX) i hi
  obtain ⟨ay, rfl, hy⟩ := BK_at (Kd.F_now hY) j hj
  have nx : ax.block ≠ f := Kd.F_in hX rfl (by omega) (by decide)
  have ny : ay.block ≠ f := Kd.F_in hY rfl (by omega) (by decide)
  have hkeep : ∀ w1, Kf f w w1 → w1.cell? ⟨cp, 0, none⟩ = some (.pointer (some ⟨f, 0, none⟩)) ∧ w1.cell? ⟨cp, 1, none⟩ = some (.slice (some ax) xs.length cX) ∧ w1.cell? ⟨cp, 2, none⟩ = some (.slice (some ay) ys.length cY) ∧
      w1.cell? (ax.add i) = some (.int .u8 ((by8 xs).getD i 0)) ∧ w1.cell? (ay.add j) = some (.int .u8 ((by8 ys).getD j 0)) := fun w1 hk =>
    ⟨hk.cell h0 hcf, hk.cell h1 hcf, hk.cell h2 hcf, hk.cell hx (by rw [add_block]; exact nx), hk.cell hy (by rw [add_block]; exact ny)⟩
  simp only [by8_getD] at hx hy hkeep
  obtain ⟨x, hxe⟩ : ∃ x, x = xs.getD i 0 := ⟨_, rfl⟩
  obtain ⟨y, hye⟩ : ∃ y, y = ys.getD j 0 := ⟨_, rfl⟩
  rw [← hxe] at hx hkeep
  rw [← hye] at hy hkeep
  have HKEEP := Lib.hid hkeep
  clear hkeep
  have hc : coef xs ys j i = Hyp.inv (y ^^^ x) := by rw [hxe, hye]; rfl
  have HC := Lib.hid hc
  have hbx := bxor y x
  have b1 : decide ((j : Int) < 0) = false := decide_eq_false (by omega)
  have b2 : decide (ys.length ≤ j) = false := decide_eq_false (by omega)
  have b3 : decide ((i : Int) < 0) = false := decide_eq_false (by omega)
  have b4 : decide (xs.length ≤ i) = false := decide_eq_false (by omega)
  have HF := Lib.hid hf
  clear hX hY hxe hye hc hf
  go_enter Try.func26, Try.ntmps26
  go_wp2
  go_region_held3 (fun w' => w'.cell? ⟨cp, 0, none⟩ = some (.pointer (some ⟨f, 0, none⟩)) ∧ w'.cell? ⟨cp, 1, none⟩ = some (.slice (some ax) xs.length cX) ∧ w'.cell? ⟨cp, 2, none⟩ = some (.slice (some ay) ys.length cY) ∧ w'.cell? (ax.add i) = some (.int .u8 (x.toNat : Int)) ∧ w'.cell? (ay.add j) = some (.int .u8 (y.toNat : Int))) (first | exact HKEEP.out _ (Kf.refl f w) | exact HKEEP.out _ ((Kf.refl f w).drew) | (refine HKEEP.out _ (((Kf.refl f w).drew).trans ?_); assumption)) (first | (go_at_call 78; refine (inv_xor f y x _ (show Fld w.drew f from HF.out)).mono ?_; rintro e w1 ⟨rfl, hk1, hf1⟩))
  go_wp2
  go_ret
  refine ⟨?_, ((Kf.refl f w).drew).trans hk1, hf1⟩
  rw [HC.out]
  rfl

set_option maxRecDepth 100000 in
set_option maxHeartbeats 2000000 in
theorem coef_out (f cp : Nat) (xs ys : List UInt8) (j i : Int) (hb : j < 0 ∨ (ys.length : Int) ≤ j ∨ i < 0 ∨ (xs.length : Int) ≤ i) (w : World) (h : CodeU w f cp xs ys) :
    Calls Try.prog 26 #[.pointer (some ⟨cp, 0, none⟩), .int .i64 j, .int .i64 i] w fun e w' => e = .returned (.int .u8 0) ∧ w = w' := by
  obtain ⟨AX, cX, AY, cY, h0, h1, h2, hX, hY, hcf⟩ := h.open_
  clear hX hY
  by_cases c1 : j < 0
  · have b1 : decide (j < 0) = true := decide_eq_true c1
    clear hb
    go_enter Try.func26, Try.ntmps26
    go_wp2
    go_ret
    exact ⟨rfl, rfl⟩
  have b1 : decide (j < 0) = false := decide_eq_false c1
  by_cases c2 : (ys.length : Int) ≤ j
  · have b2 : decide ((ys.length : Int) ≤ j) = true := decide_eq_true c2
    clear hb
    go_enter Try.func26, Try.ntmps26
    go_wp2
    go_ret
    exact ⟨rfl, rfl⟩
  have b2 : decide ((ys.length : Int) ≤ j) = false := decide_eq_false c2
  by_cases c3 : i < 0
  · have b3 : decide (i < 0) = true := decide_eq_true c3
    clear hb
    go_enter Try.func26, Try.ntmps26
    go_wp2
    go_ret
    exact ⟨rfl, rfl⟩
  have b3 : decide (i < 0) = false := decide_eq_false c3
  have b4 : decide ((xs.length : Int) ≤ i) = true := decide_eq_true (by omega)
  clear hb
  go_enter Try.func26, Try.ntmps26
  go_wp2
  go_ret
  exact ⟨rfl, rfl⟩
end Go.Proofs.Ytnfodhagfcjfpaa
