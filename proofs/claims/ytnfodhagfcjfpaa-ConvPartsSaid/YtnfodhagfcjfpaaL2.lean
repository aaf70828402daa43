/- slices.ContainsFunc at rows of bytes, asked for a length; slices.Compact at bytes that are sorted. -/
import Derived.Test.YtnfodhagfcjfpaaL1
namespace Go.Proofs.Ytnfodhagfcjfpaa
open Go.RowKit Go.Proofs.YtnfodhagfcjfpaaW.PrintWords Go.Proofs.YtnfodhagfcjfpaaW.PrintLast Go.Proofs.YtnfodhagfcjfpaaW.PrintMore
set_option linter.unusedVariables false
set_option linter.unusedSimpArgs false

/-- A closure that asks whether a row has another length than the number in its captured cell. -/
structure AsksLen (K : FuncId) : Prop where
  enters : ∀ (args : Array Value) (w : World), (callFunc K args).run Try.prog w = .ok (.enter K args) w
  asks : ∀ (w1 : World) (pl : Addr) (n : Nat) (A0 : Option Addr) (n0 c0 : Nat), w1.cell? pl = some (.int .i64 (n : Int)) →
    Calls Try.prog K #[.slice A0 n0 c0, .pointer (some pl)] w1 fun e w' => e = .returned (.bool ((n0 : Int) != (n : Int))) ∧ w1 = w'

theorem asksBool (n0 n : Nat) : ((n0 : Int) != (n : Int)) = decide (n0 ≠ n) := by
  by_cases h : n0 = n
  · subst h; simp
  · rw [decide_eq_true h, bne_iff_ne]; omega

theorem asks_Encode1 : AsksLen 86 := by
  refine ⟨fun args w => by go_simp, ?_⟩
  intro w1 pl n A0 n0 c0 hc
  go_enter Try.func86, Try.ntmps86
  go_wp2
  go_ret
  exact ⟨rfl, rfl⟩
theorem asks_stripe1 : AsksLen 122 := by
  refine ⟨fun args w => by go_simp, ?_⟩
  intro w1 pl n A0 n0 c0 hc
  go_enter Try.func122, Try.ntmps122
  go_wp2
  go_ret
  exact ⟨rfl, rfl⟩
theorem asks_Peel1 : AsksLen 82 := by
  refine ⟨fun args w => by go_simp, ?_⟩
  intro w1 pl n A0 n0 c0 hc
  go_enter Try.func82, Try.ntmps82
  go_wp2
  go_ret
  exact ⟨rfl, rfl⟩

def IndexPost (ll : List (List Int)) (n : Nat) (w : World) (e : Ending) (w' : World) : Prop :=
  ∃ r : Int, e = .returned (.int .i64 r) ∧ w = w' ∧ decide (0 ≤ r) = ll.any fun l => decide (l.length ≠ n)

set_option maxRecDepth 100000 in
set_option maxHeartbeats 1000000 in
theorem indexBB_any (K : FuncId) (hK : AsksLen K) (pl : Addr) (n : Nat) (A : Option Addr) (c : Nat) (ll : List (List Int)) (w : World) (hr : LK.C w A ll.length ll) (hc : w.cell? pl = some (.int .i64 (n : Int))) :
    Calls Try.prog 121 #[.slice A ll.length c, .func (.func K) #[] #[.pointer (some pl)]] w (IndexPost ll n w) := by
  have HR := Lib.hid hr
  have HC := Lib.hid hc
  have HK := Lib.hid hK
  have hlen := hr.2.1
  have hen := hK.enters
  clear hr hc hK
  go_enter Try.func121, Try.ntmps121
  go_wp2
  go_loop [5, 8] (fun _ i => ∃ k : Nat, k ≤ ll.length ∧ i = .int .i64 k ∧ Hid (∀ j, j < k → (ll.getD j []).length = n)) (fun _ i => ll.length - (intOf i).toNat)
  case atStart => exact ⟨0, Nat.zero_le _, rfl, Lib.hid (fun j hj => by omega)⟩
  case round =>
    obtain ⟨k, hk, rfl, HB⟩ := hrel
    by_cases hlt : k < ll.length
    · obtain ⟨ad, A0, c0, rfl, hc1, hlc, _⟩ := LK_at HR.out k hlt
      obtain ⟨m, hm⟩ : ∃ m, m = (ll.getD k []).length := ⟨_, rfl⟩
      rw [← hm] at hc1 hlc
      have HM := Lib.hid hm
      clear hm
      by_cases he : m = n
      · have heb : ((m : Int) != (n : Int)) = false := by rw [asksBool]; simp [he]
        have HEB := Lib.hid heb
        have HE := Lib.hid he
        clear heb he
        go_wp2_with fail
        refine (HK.out.asks _ pl n A0 m c0 HC.out).mono ?_
        rintro e w' ⟨rfl, rfl⟩
        rw [HEB.out]
        go_wp2
        go_round
        case rel =>
          refine ⟨k + 1, by omega, by go_num, Lib.hid ?_⟩
          intro j hj
          by_cases h : j < k
          · exact HB.out j h
          · obtain rfl : j = k := by omega
            rw [← HM.out, HE.out]
        case measure => simp [intOf]; omega
      · have heb : ((m : Int) != (n : Int)) = true := by rw [asksBool]; simp [he]
        have HEB := Lib.hid heb
        have HE := Lib.hid he
        clear heb he
        go_wp2_with fail
        refine (HK.out.asks _ pl n A0 m c0 HC.out).mono ?_
        rintro e w' ⟨rfl, rfl⟩
        rw [HEB.out]
        go_wp2
        go_ret
        refine ⟨_, rfl, rfl, ?_⟩
        rw [decide_eq_true (by omega), eq_comm, List.any_eq_true]
        refine ⟨ll[k], List.getElem_mem _, ?_⟩
        rw [← getD_lt ll k [] hlt, ← HM.out, ← asksBool]
        exact HEB.out
    · obtain rfl : k = ll.length := by omega
      go_wp2
      go_ret
      refine ⟨_, rfl, rfl, ?_⟩
      rw [decide_eq_false (by omega), eq_comm, List.any_eq_false]
      intro x hx
      obtain ⟨j, hj, rfl⟩ := List.mem_iff_getElem.1 hx
      have := HB.out j hj
      rw [getD_lt _ _ _ hj] at this
      simp [this]

def AnyPost (ll : List (List Int)) (n : Nat) (w : World) (e : Ending) (w' : World) : Prop :=
  e = .returned (.bool (ll.any fun l => decide (l.length ≠ n))) ∧ w = w'

theorem containsBB_any (K : FuncId) (hK : AsksLen K) (pl : Addr) (n : Nat) (A : Option Addr) (c : Nat) (ll : List (List Int)) (w : World) (hr : LK.C w A ll.length ll) (hc : w.cell? pl = some (.int .i64 (n : Int))) :
    Calls Try.prog 81 #[.slice A ll.length c, .func (.func K) #[] #[.pointer (some pl)]] w (AnyPost ll n w) := by
  have HC := Lib.hid hc
  have HK := Lib.hid hK
  have HR := Lib.hid hr
  clear hr hc hK
  go_enter Try.func81, Try.ntmps81
  go_wp2_with (go_at_call 121; refine (indexBB_any K HK.out pl n A c ll _ HR.out HC.out).mono ?_; rintro e w' ⟨r, rfl, rfl, hrr⟩)
  go_ret
  exact ⟨by simp, rfl⟩
end Go.Proofs.Ytnfodhagfcjfpaa
