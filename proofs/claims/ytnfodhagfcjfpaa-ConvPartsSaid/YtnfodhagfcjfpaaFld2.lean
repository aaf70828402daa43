/- The closure that makes the field's tables; tables, Mul and Inv. -/
import Derived.Test.YtnfodhagfcjfpaaFld
namespace Go.Proofs.Ytnfodhagfcjfpaa
open Go.RowKit

theorem u8_wrap (n : Nat) (h : n < 256) : IntKind.u8.wrap (n : Int) = n := by
  simp [IntKind.wrap, IntKind.bits, IntKind.signed]; omega

theorem fcell_low {o m q : Int} {k l k' l' j : Nat} (h : j < 4) : fcell o m q k l j = fcell o m q k' l' j := by
  obtain rfl | rfl | rfl | rfl : j = 0 ∨ j = 1 ∨ j = 2 ∨ j = 3 := by omega
  all_goals rfl
theorem fcell_mid {o m q : Int} {k l j : Nat} (h : 4 ≤ j) (h2 : j < 514) : fcell o m q k l j = .int .u8 (if (j - 4) % 255 < k then ((Hyp.gexp ((j - 4) % 255)).toNat : Int) else 0) := by
  unfold fcell
  rw [if_neg (by omega), if_neg (by omega), if_neg (by omega), if_neg (by omega), if_pos h2]
theorem fcell_high {o m q : Int} {k l j : Nat} (h : 514 ≤ j) : fcell o m q k l j = .int .i64 (if j ≠ 514 ∧ Hyp.glog (UInt8.ofNat (j - 514)) < l then (Hyp.glog (UInt8.ofNat (j - 514)) : Int) else 0) := by
  unfold fcell
  rw [if_neg (by omega), if_neg (by omega), if_neg (by omega), if_neg (by omega), if_neg (by omega)]

theorem fcell_exp {o m q : Int} {k l j : Nat} (hj : j < 255) : fcell o m q k l (4 + j) = .int .u8 (if j < k then ((Hyp.gexp j).toNat : Int) else 0) ∧ fcell o m q k l (4 + (j + 255)) = .int .u8 (if j < k then ((Hyp.gexp j).toNat : Int) else 0) := by
  constructor
  · rw [fcell_mid (by omega) (by omega), show 4 + j - 4 = j by omega, Nat.mod_eq_of_lt hj]
  · rw [fcell_mid (by omega) (by omega), show 4 + (j + 255) - 4 = j + 255 by omega, Nat.add_mod_right, Nat.mod_eq_of_lt hj]

/-- two exponents are laid -/
theorem lay_exp (o m q : Int) (k l : Nat) (hk : k < 255) :
    ((fcells o m q k l).setIfInBounds (4 + k) (.int .u8 ((Hyp.gexp k).toNat : Int))).setIfInBounds (4 + (k + 255)) (.int .u8 ((Hyp.gexp k).toNat : Int)) = fcells o m q (k + 1) l := by
  apply Array.ext_getElem?
  intro j
  rw [Array.getElem?_setIfInBounds, Array.getElem?_setIfInBounds, Array.size_setIfInBounds, fcells_size]
  by_cases h2 : 4 + (k + 255) = j
  · subst h2
    rw [if_pos rfl, if_pos (by omega), fcells_get _ _ _ _ _ _ (by omega), (fcell_exp hk).2, if_pos (by omega)]
  · rw [if_neg h2]
    by_cases h1 : 4 + k = j
    · subst h1
      rw [if_pos rfl, if_pos (by omega), fcells_get _ _ _ _ _ _ (by omega), (fcell_exp hk).1, if_pos (by omega)]
    · rw [if_neg h1]
      by_cases hj : j < 770
      · rw [fcells_get _ _ _ _ _ _ hj, fcells_get _ _ _ _ _ _ hj]
        congr 1
        by_cases h4 : j < 4
        · exact fcell_low h4
        · by_cases h5 : j < 514
          · rw [fcell_mid (by omega) h5, fcell_mid (by omega) h5]
            obtain ⟨i, hi⟩ : ∃ i, i = (j - 4) % 255 := ⟨_, rfl⟩
            have hh : i ≠ k := by omega
            rw [← hi]
            by_cases hk2 : i < k
            · rw [if_pos hk2, if_pos (by omega)]
            · rw [if_neg hk2, if_neg (by omega)]
          · rw [fcell_high (by omega), fcell_high (by omega)]
      · rw [Array.getElem?_eq_none (by rw [fcells_size]; omega), Array.getElem?_eq_none (by rw [fcells_size]; omega)]

theorem toNat_ofNat {n : Nat} (h : n < 256) : (UInt8.ofNat n).toNat = n := UInt8.toNat_ofNat_of_lt' (by show n < 256; exact h)

theorem fcell_log {o m q : Int} {k l : Nat} (a : UInt8) (ha : a ≠ 0) : fcell o m q k l (514 + a.toNat) = .int .i64 (if Hyp.glog a < l then (Hyp.glog a : Int) else 0) := by
  have h0 : a.toNat ≠ 0 := fun h => ha (by rw [← UInt8.toNat_inj]; simpa using h)
  rw [fcell_high (by omega), show 514 + a.toNat - 514 = a.toNat by omega, UInt8.ofNat_toNat]
  by_cases h : Hyp.glog a < l
  · rw [if_pos ⟨by omega, h⟩, if_pos h]
  · rw [if_neg (fun e => h e.2), if_neg h]

/-- a logarithm is laid -/
theorem lay_log (o m q : Int) (k l : Nat) (hl : l < 255) :
    (fcells o m q k l).setIfInBounds (514 + (Hyp.gexp l).toNat) (.int .i64 (l : Int)) = fcells o m q k (l + 1) := by
  have hg := (Hyp.gexp l).toNat_lt
  have hgl := Hyp.glog_gexp l hl
  refine fcells_set (by omega) ?_ ?_
  · rw [fcell_log _ (Hyp.gexp_ne l), hgl, if_pos (by omega)]
  · intro j hj hne
    by_cases h4 : j < 4
    · exact fcell_low h4
    by_cases h : j < 514
    · rw [fcell_mid (by omega) h, fcell_mid (by omega) h]
    · rw [fcell_high (by omega), fcell_high (by omega)]
      congr 1
      by_cases h0 : j = 514
      · rw [if_neg (fun e => e.1 h0), if_neg (fun e => e.1 h0)]
      · have hb : (UInt8.ofNat (j - 514)) ≠ Hyp.gexp l := by
          intro e
          have := congrArg UInt8.toNat e
          rw [toNat_ofNat (by omega)] at this
          omega
        have hz : (UInt8.ofNat (j - 514)) ≠ 0 := by
          intro e
          have := congrArg UInt8.toNat e
          rw [toNat_ofNat (by omega)] at this
          have e0 : (0 : UInt8).toNat = 0 := rfl
          omega
        have hne2 : Hyp.glog (UInt8.ofNat (j - 514)) ≠ l := fun e => hb (by rw [← e, Hyp.gexp_glog _ hz])
        by_cases h3 : Hyp.glog (UInt8.ofNat (j - 514)) < l
        · rw [if_pos ⟨h0, h3⟩, if_pos ⟨h0, by omega⟩]
        · rw [if_neg (fun e => h3 e.2), if_neg (fun e => h3 (by omega))]

theorem stp_hi : ∀ n, n < 256 → 256 ≤ n * 2 → Go.bits BinOp.xor IntKind.i64 ((n * 2 : Nat) : Int) 285 = ((Hyp.stp (UInt8.ofNat n)).toNat : Int) := by decide +kernel
theorem stp_lo : ∀ n, n < 256 → n * 2 < 256 → n * 2 = (Hyp.stp (UInt8.ofNat n)).toNat := by decide +kernel
theorem gexp_hi (k : Nat) (h : (256 : Int) ≤ ((Hyp.gexp k).toNat : Int) * 2) : Go.bits BinOp.xor IntKind.i64 (((Hyp.gexp k).toNat : Int) * 2) 285 = ((Hyp.gexp (k + 1)).toNat : Int) := by
  have := stp_hi (Hyp.gexp k).toNat (Hyp.gexp k).toNat_lt (by omega)
  rw [UInt8.ofNat_toNat] at this
  exact this
theorem gexp_lo (k : Nat) (h : ((Hyp.gexp k).toNat : Int) * 2 < 256) : ((Hyp.gexp k).toNat : Int) * 2 = ((Hyp.gexp (k + 1)).toNat : Int) := by
  have := stp_lo (Hyp.gexp k).toNat (Hyp.gexp k).toNat_lt (by omega)
  rw [UInt8.ofNat_toNat] at this
  have e : ((Hyp.gexp (k + 1)).toNat : Int) = ((Hyp.stp (Hyp.gexp k)).toNat : Int) := rfl
  omega

theorem add_any (a : Addr) (w : World) (n : Nat) (hn : n < 1000000) (hc : w.cell? a = some (.int .i64 n)) (hz : w.frozen? a = false) :
    Calls Try.prog 166 #[.pointer (some a), .int .i64 1] w fun e w' => e = .returned (.int .i64 ((n : Int) + 1)) ∧ w.setCell a (.int .i64 ((n : Int) + 1)) = w' := by
  have hadd := run_call_add (P := Try.prog) Try.func199 (by kernel_rfl) (by kernel_rfl) (by kernel_rfl) .i64 (by kernel_rfl) (y := 1) (s := (n : Int) + 1) hc hz (by simp [go_sem]; exact IntWalk.i64_in _ ⟨by omega, by omega⟩)
  go_enter Try.func166, Try.ntmps166
  go_wp2
  go_ret
  exact ⟨rfl, rfl⟩

set_option maxRecDepth 100000 in
set_option maxHeartbeats 1000000 in
theorem fill_any (f : Nat) (pl : Addr) (hpl : ¬ f = pl.block) (w : World) (hp : w.cell? pl = some (.pointer (some ⟨f, 0, none⟩)))
    (hf : w.heap[f]? = some (.cells (fcells 0 1 0 0 0) 152 (0, 0))) :
    Calls Try.prog 165 #[.pointer (some pl)] w fun e w' => e = .returned (.tuple #[]) ∧ Kf f w w' ∧ w'.heap[f]? = some (.cells (fcells 0 1 1 255 255) 152 (0, 0)) := by
  have HP := Lib.hid hp
  have HF := Lib.hid hf
  clear hp hf
  go_enter Try.func165, Try.ntmps165
  go_wp2
  go_loopw [1, 2, 3] (fun x _ c wr => ∃ k : Nat, k ≤ 255 ∧ c = .int .i64 k ∧ x = .int .i64 ((Hyp.gexp k).toNat : Int) ∧ Kf f w wr ∧ wr.heap[f]? = some (.cells (fcells 0 1 0 k k) 152 (0, 0)))
    (fun _ _ c _ => 255 - (intOf c).toNat)
  case atStart => exact ⟨0, by omega, rfl, rfl, Kf.refl _ _, HF.out⟩
  case round =>
    obtain ⟨k, hk, rfl, rfl, hkf, hfr⟩ := hrel
    have hpr := hkf.cell HP.out (fun e => hpl e.symm)
    by_cases hlt : k < 255
    · have hg := (Hyp.gexp k).toNat_lt
      have g1 : wr.cell? ⟨f, 4 + k, none⟩ = some (fcell 0 1 0 k k (4 + k)) := (blk_at hfr _).trans (fcells_get _ _ _ _ _ _ (by omega))
      have g2 : wr.cell? ⟨f, 4 + (k + 255), none⟩ = some (fcell 0 1 0 k k (4 + (k + 255))) := (blk_at hfr _).trans (fcells_get _ _ _ _ _ _ (by omega))
      have z1 : ∀ j, wr.frozen? ⟨f, j, none⟩ = false := fun j => blk_free hfr j
      have zz1 := z1 (4 + k)
      have zz2 := z1 (4 + (k + 255))
      have hne : ∀ j, (⟨f, j, none⟩ : Addr) ≠ pl := fun j e => hpl (by rw [← e])
      have p1 : (wr.setCell ⟨f, 4 + k, none⟩ (.int .u8 ((Hyp.gexp k).toNat : Int))).cell? pl = some (.pointer (some ⟨f, 0, none⟩)) := (World.cell?_setCell_other _ _ _ _ (hne _)).trans hpr
      have p2 : (wr.setCell ⟨f, 4 + (k + 255), none⟩ (.int .u8 ((Hyp.gexp k).toNat : Int))).cell? pl = some (.pointer (some ⟨f, 0, none⟩)) := (World.cell?_setCell_other _ _ _ _ (hne _)).trans hpr
      have b1 : (k : Int) < 510 := by omega
      have b2 : (k : Int) + 255 < 510 := by omega
      obtain ⟨W2, hW2⟩ : ∃ W2, W2 = ((wr.setCell ⟨f, 4 + k, none⟩ (.int .u8 ((Hyp.gexp k).toNat : Int))).setCell ⟨f, 4 + (k + 255), none⟩ (.int .u8 ((Hyp.gexp k).toNat : Int))).drew := ⟨_, rfl⟩
      have hkf2 : Kf f w W2 := by rw [hW2]; exact ((hkf.set _ _).set _ _).drew
      have hfr2 : W2.heap[f]? = some (.cells (fcells 0 1 0 (k + 1) k) 152 (0, 0)) := by
        rw [hW2, ← lay_exp 0 1 0 k k hlt]
        exact blk_put (blk_put hfr _ _) _ _
      have HKF2 := Lib.hid hkf2
      have HFR2 := Lib.hid hfr2
      have HW2 := Lib.hid hW2
      have HG := Lib.hid hg
      clear hkf hfr z1 hne hkf2 hfr2 hW2
      go_wp2
      go_region
      rw [← HW2.out]
      have hfr := HFR2.out
      have hpr2 := HKF2.out.cell HP.out (fun e => hpl e.symm)
      have g3 : W2.cell? ⟨f, 514 + (Hyp.gexp k).toNat, none⟩ = some (fcell 0 1 0 (k + 1) k (514 + (Hyp.gexp k).toNat)) := (blk_at hfr _).trans (fcells_get _ _ _ _ _ _ (by omega))
      have z3 : W2.frozen? ⟨f, 514 + (Hyp.gexp k).toNat, none⟩ = false := blk_free hfr _
      clear hfr p1 p2 g1 g2 zz1 zz2
      go_wp2
      all_goals go_roundw
      case rel =>
        have h1 : (256 : Int) ≤ ((Hyp.gexp k).toNat : Int) * 2 := by assumption
        exact ⟨k + 1, by omega, by go_num, congrArg (Value.int .i64) (gexp_hi k h1), (HKF2.out).set _ _, by rw [← lay_log 0 1 0 (k + 1) k hlt]; exact blk_put HFR2.out _ _⟩
      case measure => simp [intOf]; omega
      case rel =>
        have h1 : ((Hyp.gexp k).toNat : Int) * 2 < 256 := by assumption
        exact ⟨k + 1, by omega, by go_num, congrArg (Value.int .i64) (gexp_lo k h1), (HKF2.out).set _ _, by rw [← lay_log 0 1 0 (k + 1) k hlt]; exact blk_put HFR2.out _ _⟩
      case measure => simp [intOf]; omega
    · obtain rfl : k = 255 := by omega
      have g3 : wr.cell? ⟨f, 3, none⟩ = some (.int .i64 ((0 : Nat) : Int)) := (blk_at hfr _).trans (fcells_get _ _ _ _ _ _ (by omega))
      have z3 : wr.frozen? ⟨f, 3, none⟩ = false := blk_free hfr _
      have G3 := Lib.hid g3
      have HKF := Lib.hid hkf
      have HFR := Lib.hid hfr
      clear hkf hfr g3
      go_wp2_with (go_at_call 166; refine (add_any ⟨f, 3, none⟩ _ 0 (by omega) G3.out z3).mono ?_; rintro e w' ⟨rfl, rfl⟩)
      go_end0
      refine ⟨rfl, HKF.out.set _ _, ?_⟩
      have : fcells 0 1 1 255 255 = (fcells 0 1 0 255 255).setIfInBounds 3 (.int .i64 (((0 : Nat) : Int) + 1)) := by
        refine (fcells_set (by omega) rfl ?_).symm
        intro j hj hne
        unfold fcell
        by_cases j0 : j = 0
        · rw [if_pos j0, if_pos j0]
        · rw [if_neg j0, if_neg j0, if_neg hne, if_neg hne]
      rw [this]
      exact blk_put HFR.out _ _

/-- w' is w behind the making of the tables: block f holds them; new blocks. -/
def Tabled (f : Nat) (w w' : World) : Prop := Kf f w w' ∧ FMade w' f

theorem fc_head (o m q : Int) (k l : Nat) : fcell o m q k l 0 = .int .u32 o ∧ fcell o m q k l 1 = .int .i32 m ∧ fcell o m q k l 3 = .int .i64 q := ⟨rfl, rfl, rfl⟩

set_option maxRecDepth 100000 in
set_option maxHeartbeats 1600000 in
/-- doSlow, the tables not there. -/
theorem slow_any (f : Nat) (pl : Addr) (hpl : ¬ f = pl.block) (w : World) (hp : w.cell? pl = some (.pointer (some ⟨f, 0, none⟩))) (hf : FFresh w f) :
    Calls Try.prog 198 #[.pointer (some ⟨f, 0, none⟩), .func (.func 165) #[] #[.pointer (some pl)]] w fun e w' => e = .returned (.tuple #[]) ∧ Tabled f w w' := by
  unfold FFresh at hf
  have h0 : w.cell? ⟨f, 0, none⟩ = some (.int .u32 0) := (blk_at hf 0).trans (fcells_get _ _ _ _ _ _ (by omega))
  have h1 : w.cell? ⟨f, 1, none⟩ = some (.int .i32 0) := (blk_at hf 1).trans (fcells_get _ _ _ _ _ _ (by omega))
  have f1 : w.frozen? ⟨f, 1, none⟩ = false := blk_free hf 1
  have hl := run_call_load (P := Try.prog) Try.func231 (by kernel_rfl) (by kernel_rfl) (by kernel_rfl) .u32 (by kernel_rfl) (w := w.setCell ⟨f, 1, none⟩ (.int .i32 1)) (a := ⟨f, 0, none⟩) (x := 0) ((World.cell?_setCell_other _ ⟨f, 1, none⟩ ⟨f, 0, none⟩ _ (by simp)).trans h0)
  have hp1 : (w.setCell ⟨f, 1, none⟩ (.int .i32 1)).cell? pl = some (.pointer (some ⟨f, 0, none⟩)) := (World.cell?_setCell_other _ ⟨f, 1, none⟩ pl _ (fun h => hpl (by rw [← h]))).trans hp
  have hf1 : (w.setCell ⟨f, 1, none⟩ (.int .i32 1)).heap[f]? = some (.cells (fcells 0 1 0 0 0) 152 (0, 0)) := by
    have e : (fcells 0 0 0 0 0).setIfInBounds 1 (.int .i32 1) = fcells 0 1 0 0 0 := by
      refine fcells_set (by omega) rfl ?_
      intro j hj hne
      unfold fcell
      by_cases j0 : j = 0
      · rw [if_pos j0, if_pos j0]
      · rw [if_neg j0, if_neg j0, if_neg hne, if_neg hne]
    rw [← e]
    exact blk_put hf _ _
  have hnot : ∀ (x : Bool) (w : World), (Op.unary .not (.bool x)).run Try.prog w = .ok (.bool (!x)) w := fun _ _ => rfl
  have HP1 := Lib.hid hp1
  have HF1 := Lib.hid hf1
  clear hp1 hf1 hp hf
  go_enter_defers Try.func198, Try.ntmps198
  go_wp2_with (first | (go_at_call 232; refine (lock_free ⟨f, 1, none⟩ _ h1 f1).mono ?_; rintro e w' ⟨rfl, rfl⟩) | (go_at_call 197; go_in) | (go_at_call 165; refine (fill_any f pl hpl _ HP1.out HF1.out).mono ?_; rintro e w1 ⟨rfl, hk1, hb1⟩))
  have c0 : w1.cell? ⟨f, 0, none⟩ = some (.int .u32 0) := (blk_at hb1 0).trans (fcells_get _ _ _ _ _ _ (by omega))
  have c1 : w1.cell? ⟨f, 1, none⟩ = some (.int .i32 1) := (blk_at hb1 1).trans (fcells_get _ _ _ _ _ _ (by omega))
  refine leaves_cons (f := 234) (args := #[.pointer (some ⟨f, 0, none⟩), .bool true]) (by simp) (by simp [go_sem]) ?_
  refine (store_deferred ⟨f, 0, none⟩ (.int .u32 0) .returning _ c0 (blk_free hb1 0)).mono ?_
  rintro e u' w'' ⟨rfl, rfl, rfl⟩
  refine leaves_cons (f := 233) (args := #[.pointer (some ⟨f, 1, none⟩)]) (by simp [settle]) (by simp [go_sem]) ?_
  have hb2 : (w1.drew.setCell ⟨f, 0, none⟩ (.int .u32 1)).heap[f]? = some (.cells ((fcells 0 1 1 255 255).setIfInBounds 0 (.int .u32 1)) 152 (0, 0)) := blk_put (show w1.drew.heap[f]? = _ from hb1) _ _
  refine (unlock_deferred ⟨f, 1, none⟩ _ _ ?_ ?_).mono ?_
  · exact (World.cell?_setCell_other _ ⟨f, 0, none⟩ ⟨f, 1, none⟩ _ (by simp)).trans c1
  · exact blk_free hb2 1
  rintro e u' w'' ⟨rfl, rfl, rfl⟩
  have hT : Tabled f w ((w1.drew.setCell ⟨f, 0, none⟩ (.int .u32 1)).setCell ⟨f, 1, none⟩ (.int .i32 0)) := by
    refine ⟨(((((Kf.refl f w).set 1 (.int .i32 1)).trans hk1).drew).set 0 _).set 1 _, ?_⟩
    have e1 : (fcells 0 1 1 255 255).setIfInBounds 0 (.int .u32 1) = fcells 1 1 1 255 255 := by
      refine fcells_set (by omega) rfl ?_
      intro j hj hne
      unfold fcell
      rw [if_neg hne, if_neg hne]
    have e2 : (fcells 1 1 1 255 255).setIfInBounds 1 (.int .i32 0) = fcells 1 0 1 255 255 := by
      refine fcells_set (by omega) rfl ?_
      intro j hj hne
      unfold fcell
      by_cases j0 : j = 0
      · rw [if_pos j0, if_pos j0]
      · rw [if_neg j0, if_neg j0, if_neg hne, if_neg hne]
    unfold FMade
    rw [← e2, ← e1]
    exact blk_put hb2 _ _
  simpa [Leaves, settle, results, Try.results198] using hT

/-- Once.Do, the tables not there; there. -/
theorem do_first (f : Nat) (pl : Addr) (hpl : ¬ f = pl.block) (w : World) (hp : w.cell? pl = some (.pointer (some ⟨f, 0, none⟩))) (hf : FFresh w f) :
    Calls Try.prog 164 #[.pointer (some ⟨f, 0, none⟩), .func (.func 165) #[] #[.pointer (some pl)]] w fun e w' => e = .returned (.tuple #[]) ∧ Tabled f w w' := by
  have h0 : w.cell? ⟨f, 0, none⟩ = some (.int .u32 0) := (blk_at (show w.heap[f]? = _ from hf) 0).trans (fcells_get _ _ _ _ _ _ (by omega))
  have hl := run_call_load (P := Try.prog) Try.func231 (by kernel_rfl) (by kernel_rfl) (by kernel_rfl) .u32 (by kernel_rfl) h0
  have hnot : ∀ (x : Bool) (w : World), (Op.unary .not (.bool x)).run Try.prog w = .ok (.bool (!x)) w := fun _ _ => rfl
  have HP := Lib.hid hp
  clear hp
  go_enter Try.func164, Try.ntmps164
  go_wp2_with (first | (go_at_call 198; refine (slow_any f pl hpl _ HP.out hf).mono ?_; rintro e w1 ⟨rfl, hT⟩) | (go_at_call 197; go_in))
  go_end0
  exact ⟨rfl, hT⟩

theorem do_done (f : Nat) (fv : Value) (w : World) (hf : FMade w f) :
    Calls Try.prog 164 #[.pointer (some ⟨f, 0, none⟩), fv] w fun e w' => e = .returned (.tuple #[]) ∧ w = w' := by
  have h0 : w.cell? ⟨f, 0, none⟩ = some (.int .u32 1) := (blk_at (show w.heap[f]? = _ from hf) 0).trans (fcells_get _ _ _ _ _ _ (by omega))
  have hl := run_call_load (P := Try.prog) Try.func231 (by kernel_rfl) (by kernel_rfl) (by kernel_rfl) .u32 (by kernel_rfl) h0
  have hnot : ∀ (x : Bool) (w : World), (Op.unary .not (.bool x)).run Try.prog w = .ok (.bool (!x)) w := fun _ _ => rfl
  go_enter Try.func164, Try.ntmps164
  go_wp2
  go_end0
  exact ⟨rfl, rfl⟩

theorem tables_any (f : Nat) (w : World) (hf : Fld w f) :
    Calls Try.prog 119 #[.pointer (some ⟨f, 0, none⟩)] w fun e w' => e = .returned (.tuple #[]) ∧ Tabled f w w' := by
  have hmf : ∀ (fn : Fn) (first cap : Array Value) (w : World), (Instr.makeFunc fn first cap).run Try.prog w = .ok (.func fn first cap) w := fun _ _ _ _ => rfl
  have hlt := hf.lt
  rcases hf with hf | hf
  · have hf2 : FFresh (w.alloc (.cells #[.pointer (some ⟨f, 0, none⟩)] 43)) f := (Below.heap_alloc w _ f hlt).trans hf
    have hc : (w.alloc (.cells #[.pointer (some ⟨f, 0, none⟩)] 43)).cell? ⟨w.heap.size, 0, none⟩ = some (.pointer (some ⟨f, 0, none⟩)) := by simp
    have HC := Lib.hid hc
    clear hc hf
    go_enter Try.func119, Try.ntmps119
    go_wp2_with (go_at_call 164; refine (do_first f ⟨w.heap.size, 0, none⟩ (by simp; omega) _ HC.out hf2).mono ?_; rintro e w1 ⟨rfl, hT⟩)
    go_end0
    exact ⟨rfl, ((Kf.refl f w).alloc _).trans hT.1, hT.2⟩
  · have hf2 : FMade (w.alloc (.cells #[.pointer (some ⟨f, 0, none⟩)] 43)) f := (Below.heap_alloc w _ f hlt).trans hf
    go_enter Try.func119, Try.ntmps119
    go_wp2_with (go_at_call 164; refine (do_done f _ _ hf2).mono ?_; rintro e w1 ⟨rfl, rfl⟩)
    go_end0
    exact ⟨rfl, (Kf.refl f w).alloc _, hf2⟩

theorem wrap64_ix (n : Nat) (h : n < 1000) : IntKind.i64.wrap (n : Int) = n := IntWalk.i64_in _ ⟨by omega, by omega⟩

set_option maxHeartbeats 400000 in
theorem mul_zero_l (f : Nat) (b : UInt8) (w : World) :
    Calls Try.prog 123 #[.pointer (some ⟨f, 0, none⟩), .int .u8 0, .int .u8 (b.toNat : Int)] w fun e w' => e = .returned (.int .u8 0) ∧ w = w' := by
  go_enter Try.func123, Try.ntmps123
  go_wp2
  go_ret
  exact ⟨rfl, rfl⟩
set_option maxHeartbeats 400000 in
theorem mul_zero_r (f : Nat) (a : UInt8) (ha : ((a.toNat : Int) == 0) = false) (w : World) :
    Calls Try.prog 123 #[.pointer (some ⟨f, 0, none⟩), .int .u8 (a.toNat : Int), .int .u8 0] w fun e w' => e = .returned (.int .u8 0) ∧ w = w' := by
  go_enter Try.func123, Try.ntmps123
  go_wp2
  go_ret
  exact ⟨rfl, rfl⟩

theorem made_log {w : World} {f : Nat} (h : FMade w f) (a : UInt8) (ha : a ≠ 0) : w.cell? ⟨f, 514 + a.toNat, none⟩ = some (.int .i64 (Hyp.glog a : Int)) := by
  have := a.toNat_lt
  rw [blk_at h, fcells_get _ _ _ _ _ _ (by omega), fcell_log a ha, if_pos (Hyp.glog_lt a ha)]
theorem made_exp {w : World} {f : Nat} (h : FMade w f) (j : Nat) (hj : j < 510) : w.cell? ⟨f, 4 + j, none⟩ = some (.int .u8 ((Hyp.gexp j).toNat : Int)) := by
  have hp : Hyp.gexp (j % 255) = Hyp.gexp j := by
    by_cases h1 : j < 255
    · rw [Nat.mod_eq_of_lt h1]
    · have := Hyp.gexp_period (j - 255)
      rw [show j - 255 + 255 = j by omega] at this
      rw [show j % 255 = j - 255 by omega, this]
  rw [blk_at h, fcells_get _ _ _ _ _ _ (by omega), fcell_mid (by omega) (by omega), show 4 + j - 4 = j by omega, if_pos (by omega), hp]

theorem u8_ne (a : UInt8) (ha : a ≠ 0) : ((a.toNat : Int) == 0) = false := by
  rw [beq_eq_false_iff_ne]
  intro h
  apply ha
  rw [← UInt8.toNat_inj]
  have e0 : (0 : UInt8).toNat = 0 := rfl
  omega

/-- some word on the world behind a call that may have made the tables -/
def MulPost (f : Nat) (w : World) (v : Value) (e : Ending) (w' : World) : Prop := e = .returned v ∧ Kf f w w' ∧ Fld w' f

set_option maxRecDepth 100000 in
set_option maxHeartbeats 1000000 in
theorem mul_tab (f : Nat) (a b : UInt8) (ha : a ≠ 0) (hb : b ≠ 0) (w : World) (hf : Fld w f) :
    Calls Try.prog 123 #[.pointer (some ⟨f, 0, none⟩), .int .u8 (a.toNat : Int), .int .u8 (b.toNat : Int)] w (MulPost f w (.int .u8 ((Hyp.mul a b).toNat : Int))) := by
  have ea := u8_ne a ha
  have eb := u8_ne b hb
  have la := a.toNat_lt
  have lb := b.toNat_lt
  have l1 := Hyp.glog_lt a ha
  have l2 := Hyp.glog_lt b hb
  have hm := Lib.hid (Hyp.mul_tab a b ha hb)
  go_enter Try.func123, Try.ntmps123
  go_wp2_with (go_at_call 119; refine (tables_any f _ hf).mono ?_; rintro e w1 ⟨rfl, hT⟩)
  have HT := Lib.hid hT
  have hx := made_log hT.2 a ha
  have hy := made_log hT.2 b hb
  have hz := made_exp hT.2 (Hyp.glog a + Hyp.glog b) (by omega)
  clear hT
  go_quiet (fail)
  go_wp2
  go_ret
  refine ⟨?_, (HT.out.1).drewN _, HT.out.2.fld.drewN _⟩
  rw [hm.out]
  rfl

theorem mul_any (f : Nat) (a b : UInt8) (w : World) (hf : Fld w f) :
    Calls Try.prog 123 #[.pointer (some ⟨f, 0, none⟩), .int .u8 (a.toNat : Int), .int .u8 (b.toNat : Int)] w (MulPost f w (.int .u8 ((Hyp.mul a b).toNat : Int))) := by
  by_cases ha : a = 0
  · subst ha
    refine (mul_zero_l f b w).mono ?_
    rintro e w' ⟨rfl, rfl⟩
    exact ⟨by rw [Hyp.zero_mul]; rfl, Kf.refl _ _, hf⟩
  by_cases hb : b = 0
  · subst hb
    refine (mul_zero_r f a (u8_ne a ha) w).mono ?_
    rintro e w' ⟨rfl, rfl⟩
    exact ⟨by rw [Hyp.mul_zero]; rfl, Kf.refl _ _, hf⟩
  exact mul_tab f a b ha hb w hf

set_option maxRecDepth 100000 in
set_option maxHeartbeats 1000000 in
theorem inv_tab (f : Nat) (a : UInt8) (ha : a ≠ 0) (w : World) (hf : Fld w f) :
    Calls Try.prog 78 #[.pointer (some ⟨f, 0, none⟩), .int .u8 (a.toNat : Int)] w fun e w' => MulPost f w (.tuple #[.int .u8 ((Hyp.inv a).toNat : Int), .bool true]) e w' ∧ FMade w' f := by
  have ea := u8_ne a ha
  have la := a.toNat_lt
  have l1 := Hyp.glog_lt a ha
  have hm := Lib.hid (show Hyp.inv a = Hyp.gexp (255 - Hyp.glog a) by unfold Hyp.inv; rw [if_neg ha])
  go_enter Try.func78, Try.ntmps78
  go_wp2_with (go_at_call 119; refine (tables_any f _ hf).mono ?_; rintro e w1 ⟨rfl, hT⟩)
  have HT := Lib.hid hT
  have hx := made_log hT.2 a ha
  have hz := made_exp hT.2 (255 - Hyp.glog a) (by omega)
  have hw : IntKind.i64.wrap (255 - (Hyp.glog a : Int)) = ((255 - Hyp.glog a : Nat) : Int) := by rw [IntWalk.i64_in _ ⟨by omega, by omega⟩]; omega
  clear hT
  go_quiet (fail)
  go_wp2
  go_ret2
  refine ⟨⟨?_, (HT.out.1).drewN _, HT.out.2.fld.drewN _⟩, HT.out.2⟩
  rw [hm.out]
  rfl

set_option maxHeartbeats 400000 in
theorem inv_zero (f : Nat) (w : World) :
    Calls Try.prog 78 #[.pointer (some ⟨f, 0, none⟩), .int .u8 0] w fun e w' => e = .returned (.tuple #[.int .u8 0, .bool false]) ∧ w = w' := by
  go_enter Try.func78, Try.ntmps78
  go_wp2
  go_ret2
  exact ⟨rfl, rfl⟩

theorem inv_any (f : Nat) (a : UInt8) (w : World) (hf : Fld w f) :
    Calls Try.prog 78 #[.pointer (some ⟨f, 0, none⟩), .int .u8 (a.toNat : Int)] w fun e w' => MulPost f w (.tuple #[.int .u8 ((Hyp.inv a).toNat : Int), .bool (decide (a ≠ 0))]) e w' := by
  by_cases ha : a = 0
  · subst ha
    refine (inv_zero f w).mono ?_
    rintro e w' ⟨rfl, rfl⟩
    exact ⟨rfl, Kf.refl _ _, hf⟩
  · refine (inv_tab f a ha w hf).mono ?_
    rintro e w' ⟨h, _⟩
    have : decide (a ≠ 0) = true := decide_eq_true ha
    rw [this]
    exact h

def zcell (i : Nat) : Value := if i = 0 then .int .u32 0 else if i = 1 then .int .i32 0 else if i = 2 then .int .u32 0 else if i = 3 then .int .i64 0 else if i < 514 then .int .u8 0 else .int .i64 0
theorem fcell_none (i : Nat) : fcell 0 0 0 0 0 i = zcell i := by
  unfold fcell zcell
  simp
theorem zcells_none : Try.zeroCells152 = Array.ofFn (n := 770) (fun i : Fin 770 => zcell i.val) := by kernel_rfl
theorem fcells_none : Try.zeroCells152 = fcells 0 0 0 0 0 := by
  rw [zcells_none]
  unfold fcells
  congr 1
  funext i
  exact (fcell_none i.val).symm
set_option maxRecDepth 100000 in
theorem gfNew_any (w : World) :
    Calls Try.prog 23 #[] w fun e w' => e = .returned (.pointer (some ⟨w.heap.size, 0, none⟩)) ∧ w.alloc (.cells (fcells 0 0 0 0 0) 152) = w' := by
  go_enter Try.func23, Try.ntmps23
  go_wp2
  go_ret
  exact ⟨rfl, by rw [fcells_none]⟩
end Go.Proofs.Ytnfodhagfcjfpaa
