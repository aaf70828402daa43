/- slices.Clone, Grow and Concat at bytes. -/
import Derived.Test.YtnfodhagfcjfpaaFld2
import Derived.Test.YtnfodhagfcjfpaaWMore
import Derived.Test.YtnfodhagfcjfpaaWAt
import Derived.Test.YtnfodhagfcjfpaaWNEv
import Derived.Test.YtnfodhagfcjfpaaWSized
namespace Go.Proofs.Ytnfodhagfcjfpaa
open Go.RowKit Go.Proofs.YtnfodhagfcjfpaaW.PrintWords Go.Proofs.YtnfodhagfcjfpaaW.PrintLast Go.Proofs.YtnfodhagfcjfpaaW.PrintMore
set_option linter.unusedVariables false
set_option linter.unusedSimpArgs false

abbrev BK : Kd Int := Kd.int .u8
abbrev LK : Kd (List Int) := Kd.slice 5 BK
theorem infoB : (Try.prog.info? 5).map (fun i => (i.zero, i.size, i.bytes)) = some (some (.int .u8 0), 1, 1) := by kernel_rfl
theorem infoBs : (Try.prog.info? 22).map (fun i => (i.zero, i.size, i.bytes)) = some (some (.slice none 0 0), 1, 24) := by kernel_rfl

/-- the room that is asked of what is made -/
def big : Nat := 1099511627776

theorem nil_of_C {w : World} {n : Nat} {l : List Int} (h : BK.C w none n l) : l = [] ∧ n = 0 := by
  obtain ⟨h1, _, h2⟩ := h
  have : n = 0 := by
    apply Classical.byContradiction
    intro hn
    obtain ⟨ad, h, _⟩ := h2 (by omega)
    cases h
  subst this
  exact ⟨List.eq_nil_of_length_eq_zero h1, rfl⟩

theorem BK_at {w : World} {A : Option Addr} {n : Nat} {l : List Int} (h : BK.C w A n l) (k : Nat) (hk : k < n) :
    ∃ ad, A = some ad ∧ w.cell? (ad.add k) = some (.int .u8 (l.getD k 0)) := by
  obtain ⟨ad, c, e, _, hK, hc⟩ := Kd.C_get h 0 (k : Int) (by omega) (by omega)
  have hK' : c = [.int .u8 (l.getD k 0)] := hK
  subst hK'
  have := hc 0 _ rfl
  simp only [Int.toNat_natCast] at this
  exact ⟨ad, e, by rw [show k * BK.sz + 0 = k from by show k * 1 + 0 = k; omega] at this; exact this⟩
theorem LK_at {w : World} {A : Option Addr} {n : Nat} {ll : List (List Int)} (h : LK.C w A n ll) (k : Nat) (hk : k < n) :
    ∃ ad A0 c0, A = some ad ∧ w.cell? (ad.add k) = some (.slice A0 (ll.getD k []).length c0) ∧ (ll.getD k []).length ≤ c0 ∧ BK.C w A0 (ll.getD k []).length (ll.getD k []) := by
  obtain ⟨ad, c, e, _, hK, hc⟩ := Kd.C_get h [] (k : Int) (by omega) (by omega)
  obtain ⟨A0, c0, rfl, l0, g0⟩ := hK
  have := hc 0 _ rfl
  simp only [Int.toNat_natCast] at this l0 g0
  exact ⟨ad, A0, c0, e, by rw [show k * LK.sz + 0 = k from by show k * 1 + 0 = k; omega] at this; exact this, l0, g0⟩
theorem getD_lt {α : Type} (l : List α) (k : Nat) (d : α) (h : k < l.length) : l.getD k d = l[k] := by simp [List.getD_eq_getElem?_getD, h]
theorem take_flat {α : Type} (ll : List (List α)) (k : Nat) (h : k < ll.length) : (ll.take (k + 1)).flatten = (ll.take k).flatten ++ ll.getD k [] := by
  rw [List.take_succ_eq_append_getElem h, List.flatten_append, getD_lt _ _ _ h]
  simp

theorem nonnil_of_own {v : Value} {k : Nat} (h : v.ownBlock = some k) : ∃ g n c, v = .slice (some g) n c := by
  unfold Value.ownBlock at h
  split at h
  · exact ⟨_, _, _, rfl⟩
  · cases h

set_option maxRecDepth 100000 in
set_option maxHeartbeats 1000000 in
theorem cloneB_any (A : Option Addr) (c : Nat) (l : List Int) (w : World) (hr : BK.C w A l.length l) (hsz : l.length ≤ big) :
    Calls Try.prog 83 #[.slice A l.length c] w fun e w' => ∃ v, e = .returned v ∧ BK.R 5 w' w.heap.size (fun _ => True) v l ∧ Below w.heap.size w w' ∧ (A = none → v = .slice none 0 0) ∧ (A ≠ none → ∃ g n c, v = .slice (some g) n c) := by
  unfold big at hsz
  have hq := fun w => Lib.run_eql_slice_nil (P := Try.prog) w 22 5 A l.length c 0 0 Try.underlying22
  cases A with
  | none =>
    obtain ⟨rfl, _⟩ := nil_of_C hr
    simp only [List.length_nil] at hq ⊢
    go_enter Try.func83, Try.ntmps83
    go_wp2
    go_ret
    exact ⟨_, rfl, Kd.R_nil _ _ _ _ _, Below.refl _ _, fun _ => rfl, fun h => absurd rfl h⟩
  | some ad =>
    have HR := Lib.hid hr
    clear hr
    go_enter Try.func83, Try.ntmps83
    have hown : BK.R 5 (w.alloc (.cells #[] 5)) w.heap.size (fun _ => True) (.slice (some ⟨w.heap.size, 0, none⟩) 0 0) [] := Kd.R_of_own (own_lit w w.heap.size 5 .u8 [] (Nat.le_refl _) (by simp)) (fun _ _ => trivial)
    have HOWN := Lib.hid hown
    clear hown
    go_wp2_with (first | ((with_reducible refine gate_builtin (b := .append) (xs := #[.tmp 5, .tmp 6]) rfl ?_); at_builtin; refine Kd.R_append_row (Value.int .u8) 0 (w0 := w) w.heap.size rfl (.tmp 5) (.tmp 6) 22 5 (.int .u8 0) 1 rfl Try.underlying22 infoB rfl (by omega) (.slice (some ⟨w.heap.size, 0, none⟩) 0 0) [] l (some ad) l.length c (fun _ => True) rfl rfl (fun _ _ => trivial) HOWN.out (Kd.C_below HR.out (below_alloc (Below.refl _ _) _)) (below_alloc (Below.refl _ _) _) ?c4 ?c5 ?_))
    case c4 => simp
    case c5 => simp; omega
    intro v1 w1 hown1 hb1 hg1 hat1
    go_wp2
    go_ret
    refine ⟨_, rfl, hown1, hb1, fun h => (by cases h), fun _ => ?_⟩
    have hk : ∃ k, v1.ownBlock = some k := by
      rcases hat1 with h | ⟨b, h, _⟩
      · exact ⟨_, h⟩
      · exact ⟨_, h⟩
    obtain ⟨k, hk⟩ := hk
    exact nonnil_of_own hk

set_option maxRecDepth 100000 in
set_option maxHeartbeats 1000000 in
/-- slices.Grow of a nil slice: no element yet. -/
theorem growB_nil (n : Nat) (w : World) (hn : n ≤ big) :
    Calls Try.prog 149 #[.slice none 0 0, .int .i64 (n : Int)] w fun e w' => ∃ v, e = .returned v ∧ BK.R 5 w' w.heap.size (fun _ => True) v [] ∧ Below w.heap.size w w' := by
  unfold big at hn
  by_cases h0 : n = 0
  · subst h0
    go_enter Try.func149, Try.ntmps149
    go_wp2
    go_ret
    exact ⟨_, rfl, Kd.R_nil _ _ _ _ _, Below.refl _ _⟩
  · have hpos : (0 : Int) < n := by omega
    have hpb : decide ((0 : Int) < n) = true := decide_eq_true hpos
    go_enter Try.func149, Try.ntmps149
    go_wp2_with (first | ((with_reducible refine gate_builtin (b := .append) (xs := #[.tmp 20, .tmp 21]) rfl ?_); at_builtin; refine Kd.R_append_zeros BK (w0 := w) w.heap.size rfl (.tmp 20) (.tmp 21) 22 3 5 (.int .u8 0) 1 rfl Try.underlying22 Try.underlying3 infoB rfl (by decide) (by omega) (.slice none 0 0) [] 0 (n : Int) (fun _ => True) rfl rfl ?c1 (fun _ _ => trivial) (Kd.R_nil _ _ _ _ _) (by omega) (Below.refl _ _) (Nat.le_refl _) ?c5 ?_))
    case c1 => exact (by first | rfl | exact ⟨rfl, rfl⟩)
    case c5 => simp; omega
    intro v1 w1 hown1 hb1 hg1 hat1
    obtain ⟨A1, c1, rfl, hlc, hrd⟩ := Kd.R_reads hown1
    have HOWN := Lib.hid hown1
    clear hown1 hg1 hat1 hrd
    go_wp2
    go_ret
    exact ⟨_, rfl, Kd.R_take (m := 0) HOWN.out (Nat.zero_le _), hb1⟩

set_option maxRecDepth 100000 in
set_option maxHeartbeats 1000000 in
/-- slices.Concat at bytes. -/
theorem concatB_any (A : Option Addr) (c : Nat) (ll : List (List Int)) (w : World) (hr : LK.C w A ll.length ll) (hsz : ll.flatten.length ≤ big) :
    Calls Try.prog 97 #[.slice A ll.length c] w fun e w' => ∃ v, e = .returned v ∧ BK.R 5 w' w.heap.size (fun _ => True) v ll.flatten ∧ Below w.heap.size w w' := by
  have HR := Lib.hid hr
  have HSZ := Lib.hid hsz
  have hlen := hr.2.1
  have hg0 : ∀ k, (ll.take k).flatten.length ≤ ll.flatten.length := fun k => by
    have := congrArg List.length (congrArg List.flatten (List.take_append_drop k ll))
    rw [List.flatten_append, List.length_append] at this
    omega
  have HG0 := Lib.hid hg0
  clear hr hsz hg0
  go_enter Try.func97, Try.ntmps97
  go_wp2
  go_loop [3, 5, 11] (fun s _ i => ∃ k m : Nat, k ≤ ll.length ∧ i = .int .i64 k ∧ s = .int .i64 (m : Int) ∧ Hid (m = (ll.take k).flatten.length)) (fun _ _ i => ll.length - (intOf i).toNat)
  case atStart => exact ⟨0, 0, Nat.zero_le _, rfl, rfl, Lib.hid rfl⟩
  case round =>
    obtain ⟨k, m, hk, rfl, rfl, HM⟩ := hrel
    by_cases hlt : k < ll.length
    · obtain ⟨ad, A0, c0, rfl, hc1, hlc, _⟩ := LK_at HR.out k hlt
      obtain ⟨x, hx⟩ : ∃ x, x = ll.getD k [] := ⟨_, rfl⟩
      have hs2 := HG0.out (k + 1)
      have hsz := HSZ.out
      unfold big at hsz
      rw [take_flat ll k hlt, List.length_append, ← HM.out, ← hx] at hs2
      have hm2 : m + x.length ≤ 1099511627776 := by omega
      rw [← hx] at hc1 hlc
      have HX := Lib.hid hx
      clear hx hs2 hsz
      go_wp2
      go_round
      case rel => exact ⟨k + 1, m + x.length, by omega, by go_num, by go_num, Lib.hid (by rw [take_flat ll k hlt, List.length_append, ← HM.out, ← HX.out])⟩
      case measure => simp [intOf]; omega
    · obtain rfl : k = ll.length := by omega
      have hm : m = ll.flatten.length := by rw [HM.out, List.take_length]
      have hsz := HSZ.out
      rw [← hm] at hsz
      have HM2 := Lib.hid hm
      clear hm HM
      go_wp2_with (go_at_call 149; refine (growB_nil m _ hsz).mono ?_; rintro e w1 ⟨v0, rfl, hown0, hb0⟩)
      unfold big at hsz
      have HO := Lib.hid hown0
      have HB := Lib.hid hb0
      clear hown0 hb0
      go_loopw [6, 8, 27] (fun v _ i wr => ∃ k : Nat, k ≤ ll.length ∧ i = .int .i64 k ∧ Hid (BK.R 5 wr w.heap.size (fun _ => True) v (ll.take k).flatten) ∧ Hid (Below w.heap.size w wr)) (fun _ _ i _ => ll.length - (intOf i).toNat)
      case atStart => exact ⟨0, Nat.zero_le _, rfl, HO, HB⟩
      case round =>
        obtain ⟨k, hk, rfl, HO1, HB1⟩ := hrel
        by_cases hlt2 : k < ll.length
        · obtain ⟨ad, A0, c0, rfl, hc1, hlc, hrd⟩ := LK_at HR.out k hlt2
          obtain ⟨x, hx⟩ : ∃ x, x = ll.getD k [] := ⟨_, rfl⟩
          have hs2 := HG0.out (k + 1)
          rw [take_flat ll k hlt2, List.length_append, ← HM2.out, ← hx] at hs2
          rw [← hx] at hc1 hlc hrd
          replace hc1 := (HB1.out.cell (World.block_lt_of_cell? w _ hc1)).trans hc1
          have HRD := Lib.hid hrd
          have HX := Lib.hid hx
          have HS2 := Lib.hid hs2
          clear hx hrd hs2
          go_wp2_with (first | ((with_reducible refine gate_builtin (b := .append) (xs := #[.tmp 31, .tmp 32]) rfl ?_); at_builtin; refine Kd.R_append_row (Value.int .u8) 0 (w0 := w) w.heap.size rfl (.tmp 31) (.tmp 32) 22 5 (.int .u8 0) 1 rfl Try.underlying22 infoB rfl (by omega) u6 (ll.take k).flatten x A0 x.length c0 (fun _ => True) rfl rfl (fun _ _ => trivial) HO1.out (Kd.C_below HRD.out HB1.out) HB1.out HB1.out.size ?c5 ?_))
          case c5 =>
            have := HS2.out
            rw [Nat.mul_one]
            omega
          intro v1 w1 hown1 hb1 hg1 _
          have HO2 := Lib.hid hown1
          have HB2 := Lib.hid hb1
          clear hown1 hb1 hg1
          go_wp2
          go_roundw
          case rel => exact ⟨k + 1, by omega, by go_num, Lib.hid (by rw [take_flat ll k hlt2, ← HX.out]; exact HO2.out), HB2⟩
          case measure => simp [intOf]; omega
        · obtain rfl : k = ll.length := by omega
          go_wp2
          go_ret
          refine ⟨_, rfl, ?_, HB1.out⟩
          have := HO1.out
          rw [List.take_length] at this
          exact this
end Go.Proofs.Ytnfodhagfcjfpaa
