/- conv.row, Narrow and Wide. -/
import Derived.Test.YtnfodhagfcjfpaaC3
namespace Go.Proofs.Ytnfodhagfcjfpaa
open Go.RowKit Go.Proofs.YtnfodhagfcjfpaaW.PrintWords Go.Proofs.YtnfodhagfcjfpaaW.PrintLast Go.Proofs.YtnfodhagfcjfpaaW.PrintMore
set_option linter.unusedVariables false
set_option linter.unusedSimpArgs false

/-- n bytes from a on -/
def rowU (a n : Nat) : List UInt8 := (List.range n).map fun i => UInt8.ofNat (a + i)
theorem rowU_length (a n : Nat) : (rowU a n).length = n := by simp [rowU]
theorem rowU_succ (a n : Nat) (h : a + n < 256) : by8 (rowU a (n + 1)) = by8 (rowU a n) ++ [((a + n : Nat) : Int)] := by
  simp only [rowU, by8, List.range_succ, List.map_append, List.map_cons, List.map_nil]
  rw [toNat_ofNat h]

set_option maxRecDepth 100000 in
set_option maxHeartbeats 2000000 in
theorem convRow_any (a n : Nat) (hn : a + n ≤ 256) (w : World) :
    Calls Try.prog 77 #[.int .i64 (a : Int), .int .i64 (n : Int)] w fun e w' => ∃ v, e = .returned v ∧ BK.R 5 w' w.heap.size (fun _ => True) v (by8 (rowU a n)) ∧ Below w.heap.size w w' := by
  go_enter Try.func77, Try.ntmps77
  go_wp2
  go_loopw [5, 6, 8] (fun v _ i wr => ∃ k : Nat, k ≤ n ∧ i = .int .i64 k ∧ Hid (BK.R 5 wr w.heap.size (fun _ => True) v (by8 (rowU a k))) ∧ Hid (Below w.heap.size w wr)) (fun _ _ i _ => n - (intOf i).toNat)
  case atStart => exact ⟨0, Nat.zero_le _, rfl, Lib.hid (Kd.R_nil _ _ _ _ _), Lib.hid (Below.refl _ _)⟩
  case round =>
    obtain ⟨k, hk, rfl, HO, HB⟩ := hrel
    by_cases hlt : k < n
    · have hu : IntKind.u8.wrap ((a : Int) + (k : Int)) = ((a + k : Nat) : Int) := by rw [IntWalk.u8_in _ ⟨by omega, by omega⟩]; omega
      have HS := Lib.hid (rowU_succ a k (by omega))
      go_wp2_with (first | ((with_reducible refine gate_builtin (b := .append) (xs := #[.tmp 11, .tmp 16]) rfl ?_); at_builtin; refine Kd.R_append BK (w0 := w) w.heap.size rfl (.tmp 11) (.tmp 16) 22 5 (.int .u8 0) 1 rfl Try.underlying22 infoB rfl (by decide) (by omega) u5 (by8 (rowU a k)) ((a + k : Nat) : Int) [.int .u8 ((a + k : Nat) : Int)] (fun _ => True) (fun _ => False) rfl rfl ?aP (fun _ hk => hk.elim) ?aF ?aO ?aB ?aS ?aL ?_))
      case aP => exact rfl
      case aF => exact fun _ _ => trivial
      case aO => exact HO.out
      case aB => exact HB.out
      case aS => exact HB.out.size
      case aL => rw [by8_length, rowU_length]; omega
      intro v1 w1 hv1 hb1 _ _
      have HO1 := Lib.hid hv1
      have HB1 := Lib.hid hb1
      clear hv1 hb1
      go_wp2
      go_roundw
      case rel => exact ⟨k + 1, by omega, by go_num, Lib.hid (by rw [HS.out]; exact HO1.out), HB1⟩
      case measure => simp [intOf]; omega
    · obtain rfl : k = n := by omega
      go_wp2
      go_ret
      exact ⟨_, rfl, HO.out, HB.out⟩

theorem convRow_lit (A N : Int) (a n : Nat) (hA : A = a) (hN : N = n) (hn : a + n ≤ 256) (w : World) :
    Calls Try.prog 77 #[.int .i64 A, .int .i64 N] w fun e w' => ∃ v, e = .returned v ∧ BK.R 5 w' w.heap.size (fun _ => True) v (by8 (rowU a n)) ∧ Below w.heap.size w w' := by
  subst hA
  subst hN
  exact convRow_any a n hn w

/-- a new code over the field f -/
def NewU (f : Nat) (xs ys : List UInt8) (w : World) (e : Ending) (w' : World) : Prop :=
  ∃ cp, e = .returned (.tuple #[.pointer (some ⟨cp, 0, none⟩), .int .i64 0]) ∧ Below w.heap.size w w' ∧ w.heap.size ≤ cp ∧ CodeU w' f cp xs ys

def nxs (t : Nat) : List UInt8 := rowU (4 * t) 4
def nys : List UInt8 := rowU 14 2
def wxs : List UInt8 := rowU 0 14
def wys : List UInt8 := rowU 14 4
theorem nodup_narrow : ∀ t, t < 3 → (by8 (nxs t) ++ by8 nys).Nodup := by decide
theorem nodup_wide : (by8 wxs ++ by8 wys).Nodup := by decide

theorem newU_of {f : Nat} {v1 v2 : Value} {xs ys : List UInt8} {w w1 w2 : World} (hfl : f < w.heap.size) (h1 : BK.R 5 w1 w.heap.size (fun _ => True) v1 (by8 xs)) (hb1 : Below w.heap.size w w1)
    (h2 : BK.R 5 w2 w1.heap.size (fun _ => True) v2 (by8 ys)) (hb2 : Below w1.heap.size w1 w2) (hnd : (by8 xs ++ by8 ys).Nodup) (hx : 1 ≤ xs.length ∧ xs.length ≤ 14) (hy : 1 ≤ ys.length ∧ ys.length ≤ 4) :
    Calls Try.prog 49 #[.pointer (some ⟨f, 0, none⟩), v1, v2] w2 (NewU f xs ys w) := by
  have hw1 := hb1.size
  have hw2 := hb2.size
  have h1' := Kd.R_below h1 hb2
  obtain ⟨A1, c1, rfl, hl1, hk1⟩ := Kd.R_reads h1'
  obtain ⟨A2, c2, rfl, hl2, hk2⟩ := Kd.R_reads h2
  have HC := codeNew_any f A1 A2 c1 c2 (by8 xs) (by8 ys) w2 (by omega) hk1 hk2 hl1 hl2 (by rw [by8_length]; omega) (by rw [by8_length]; omega) (by rw [by8_length]; omega) (by rw [by8_length]; omega)
  refine HC.mono ?_
  intro e w3 ⟨hp, _⟩
  obtain ⟨cp, rfl, hb3, hcp, hc⟩ := hp hnd
  have hb12 := below_step hb1 hb2
  refine ⟨cp, rfl, ?_, by omega, hc⟩
  exact below_step hb12 hb3

set_option maxRecDepth 100000 in
set_option maxHeartbeats 2000000 in
theorem narrow_any (f t a : Nat) (ht : t < 3) (ha : a = 4 * t) (T A4 : Int) (hT : T = t) (hA : A4 = (a : Int)) (hm : IntKind.i64.wrap (4 * T) = A4) (w : World) (hfl : f < w.heap.size) :
    Calls Try.prog 24 #[.pointer (some ⟨f, 0, none⟩), .int .i64 T] w (NewU f (nxs t) nys w) := by
  have b1 : decide (T < 0) = false := decide_eq_false (by omega)
  have b2 : decide (3 ≤ T) = false := decide_eq_false (by omega)
  have HN := Lib.hid (nodup_narrow t ht)
  have HA := Lib.hid ha
  have HI := Lib.hid hA
  clear hT hA ha
  go_enter Try.func24, Try.ntmps24
  go_wp2_with (first | (go_at_call_of 77 (Value.int .i64 4); refine (convRow_lit A4 4 a 4 HI.out rfl (by have := HA.out; omega) _).mono ?_; rintro e w1 ⟨v1, rfl, hv1, hb1⟩))
  have HV1 := Lib.hid hv1
  have HB1 := Lib.hid hb1
  clear hv1 hb1
  refine (convRow_any 14 2 (by omega) _).mono ?_
  rintro e w2 ⟨v2, rfl, hv2, hb2⟩
  have HV2 := Lib.hid hv2
  have HB2 := Lib.hid hb2
  clear hv2 hb2
  go_wp2_with (first | (go_at_call 49; refine (newU_of hfl (xs := nxs t) (ys := nys) (by have h := HV1.out; rw [HA.out] at h; exact h) HB1.out HV2.out HB2.out HN.out (by simp [nxs, rowU_length]) (by decide)).mono ?_; rintro e w3 ⟨cp, rfl, hb3, hcp, hc⟩))
  have HB3 := Lib.hid hb3
  have HC := Lib.hid hc
  clear hb3 hc
  go_wp2
  go_ret2
  exact ⟨cp, rfl, HB3.out, hcp, HC.out⟩

theorem narrow_num (f t : Nat) (T : Int) (hT : T = t) (ht : t < 3) (w : World) (hfl : f < w.heap.size) :
    Calls Try.prog 24 #[.pointer (some ⟨f, 0, none⟩), .int .i64 T] w (NewU f (nxs t) nys w) :=
  narrow_any f t (4 * t) ht rfl T ((4 * t : Nat) : Int) hT rfl (by subst hT; rw [IntWalk.i64_in _ ⟨by omega, by omega⟩]; omega) w hfl

set_option maxRecDepth 100000 in
set_option maxHeartbeats 2000000 in
theorem wide_any (f : Nat) (w : World) (hfl : f < w.heap.size) :
    Calls Try.prog 25 #[.pointer (some ⟨f, 0, none⟩)] w (NewU f wxs wys w) := by
  have HN := Lib.hid nodup_wide
  go_enter Try.func25, Try.ntmps25
  go_wp2_with (first | (go_at_call_of 77 (Value.int .i64 0); refine (convRow_lit 0 14 0 14 rfl rfl (by omega) _).mono ?_; rintro e w1 ⟨v1, rfl, hv1, hb1⟩))
  have HV1 := Lib.hid hv1
  have HB1 := Lib.hid hb1
  clear hv1 hb1
  refine (convRow_any 14 4 (by omega) _).mono ?_
  rintro e w2 ⟨v2, rfl, hv2, hb2⟩
  have HV2 := Lib.hid hv2
  have HB2 := Lib.hid hb2
  clear hv2 hb2
  go_wp2_with (first | (go_at_call 49; refine (newU_of hfl (xs := wxs) (ys := wys) HV1.out HB1.out HV2.out HB2.out HN.out (by decide) (by decide)).mono ?_; rintro e w3 ⟨cp, rfl, hb3, hcp, hc⟩))
  have HB3 := Lib.hid hb3
  have HC := Lib.hid hc
  clear hb3 hc
  go_wp2
  go_ret2
  exact ⟨cp, rfl, HB3.out, hcp, HC.out⟩
end Go.Proofs.Ytnfodhagfcjfpaa
