/- J5: D1, D2, D3, K1, Le, D4, D5, D6, one behind the other. -/
import Derived.Test.YtnfodhagfcjfpaaJ3
import Derived.Test.YtnfodhagfcjfpaaJ4
/- (*Code).row. -/
namespace Go.Proofs.Ytnfodhagfcjfpaa
open Go.RowKit Go.Proofs.YtnfodhagfcjfpaaW.PrintWords Go.Proofs.YtnfodhagfcjfpaaW.PrintLast Go.Proofs.YtnfodhagfcjfpaaW.PrintMore
set_option linter.unusedVariables false
set_option linter.unusedSimpArgs false

/-- a row of the generator -/
def genRow (xs ys : List UInt8) (s : Nat) : List UInt8 := (List.range xs.length).map fun j => Hyp.gen xs.length (coef xs ys) s j
theorem genRow_length (xs ys : List UInt8) (s : Nat) : (genRow xs ys s).length = xs.length := by simp [genRow]
/-- the first k cells are told -/
def genUp (xs ys : List UInt8) (s k : Nat) : List UInt8 := (List.range xs.length).map fun j => if j < k then Hyp.gen xs.length (coef xs ys) s j else 0
theorem genUp_length (xs ys : List UInt8) (s k : Nat) : (genUp xs ys s k).length = xs.length := by simp [genUp]
theorem genUp_start (xs ys : List UInt8) (s : Nat) : by8 (genUp xs ys s 0) = List.replicate xs.length 0 := by
  apply List.ext_getElem
  · simp [by8_length, genUp_length]
  · intro t h1 h2
    simp [by8, genUp]
theorem genUp_done (xs ys : List UInt8) (s : Nat) : genUp xs ys s xs.length = genRow xs ys s := by
  apply List.ext_getElem
  · simp [genUp_length, genRow_length]
  · intro t h1 h2
    have ht : t < xs.length := by simpa [genUp_length] using h1
    simp [genUp, genRow, ht]
theorem genUp_put (xs ys : List UInt8) (s k : Nat) (hk : k < xs.length) : (by8 (genUp xs ys s k)).set k ((Hyp.gen xs.length (coef xs ys) s k).toNat : Int) = by8 (genUp xs ys s (k + 1)) := by
  apply List.ext_getElem
  · simp [by8_length, genUp_length]
  · intro t h1 h2
    have ht : t < xs.length := by simpa [by8_length, genUp_length] using h1
    rw [List.getElem_set]
    by_cases h : k = t
    · subst h
      simp [by8, genUp]
    · rw [if_neg h]
      have e : (t < k + 1) ↔ (t < k) := by omega
      simp [by8, genUp, e]
theorem genUnit_put (xs ys : List UInt8) (s : Nat) (hs : s < xs.length) : (List.replicate xs.length (0 : Int)).set s 1 = by8 (genRow xs ys s) := by
  apply List.ext_getElem
  · simp [by8_length, genRow_length]
  · intro t h1 h2
    have ht : t < xs.length := by simpa using h1
    rw [List.getElem_set]
    by_cases h : s = t
    · subst h
      simp [by8, genRow, Hyp.gen, hs]
    · rw [if_neg h]
      simp [by8, genRow, Hyp.gen, hs, h]

/-- a new row of bytes -/
def RowPost (f : Nat) (l : List UInt8) (w : World) (e : Ending) (w' : World) : Prop :=
  ∃ v, e = .returned v ∧ BK.R 5 w' w.heap.size (fun _ => True) v (by8 l) ∧ Kf f w w' ∧ Fld w' f

set_option maxRecDepth 100000 in
set_option maxHeartbeats 4000000 in
theorem codeRow_any (f cp : Nat) (xs ys : List UInt8) (s : Nat) (w : World) (hc : CodeU w f cp xs ys) (hf : Fld w f) (hl : ys.length ≤ 255 ∧ xs.length ≤ 255) (hs : s < xs.length + ys.length) :
    Calls Try.prog 152 #[.pointer (some ⟨cp, 0, none⟩), .int .i64 (s : Int)] w (RowPost f (genRow xs ys s) w) := by
  obtain ⟨AX, cX, AY, cY, h0, h1, h2, _, _, hcpf⟩ := hc.open_
  have HC := Lib.hid hc
  have HF := Lib.hid hf
  clear hc hf
  have hfw := HF.out.lt
  by_cases hsk : s < xs.length
  · have b1 : decide ((s : Int) < xs.length) = true := decide_eq_true (by omega)
    go_enter Try.func152, Try.ntmps152
    go_wp2_with (first | ((with_reducible refine gate_dst (N := 12) rfl ?_); refine Kd.R_make BK (w0 := w) w.heap.size 5 rfl (N := 12) rfl 22 _ _ rfl (xs.length : Int) rfl rfl Try.underlying22 (.int .u8 0) 1 infoB rfl (by decide) (by omega) 0 (ok := fun _ => True) (okp := fun _ => True) rfl (fun _ hk => hk) trivial (by omega) (by omega) (Below.refl _ _) (Nat.le_refl _) ?_; intro v1 w1 ho1 hb1 hg1 hown; have HK1 := Lib.hid ((Kf.refl f w).below hb1); have HF1 := Lib.hid (HF.out.below hb1); have k1 := HK1.out.cell h1 hcpf; have HO1 := Lib.hid (show BK.R 5 w1 w.heap.size (fun _ => True) v1 (by8 (genUp xs ys s 0)) from (by rw [genUp_start]; exact ho1)); obtain ⟨g, cap, rfl, hbg, hfr, hcell⟩ := R_form8 HO1.out (genUp_length xs ys s 0) (by omega); have hx1 := hcell s hsk; have hx2 := hfr s; clear hcell hfr ho1 hb1 hg1 hown))
    go_ret
    refine ⟨_, rfl, ?_, HK1.out.put hbg _, HF1.out.put (by omega) _⟩
    have h := Kd.R_putn HO1.out ((s : Nat) : Int) 1
    rw [Int.toNat_natCast, genUp_start, genUnit_put xs ys s hsk] at h
    exact h
  · have b1 : decide ((s : Int) < xs.length) = false := decide_eq_false (by omega)
    obtain ⟨r, hr⟩ : ∃ r, s = xs.length + r := ⟨s - xs.length, by omega⟩
    have hrl : r < ys.length := by omega
    have e3 : (s : Int) - (xs.length : Int) = (r : Int) := by omega
    have HR := Lib.hid hr
    clear hr
    go_enter Try.func152, Try.ntmps152
    go_wp2_with (first | ((with_reducible refine gate_dst (N := 12) rfl ?_); refine Kd.R_make BK (w0 := w) w.heap.size 5 rfl (N := 12) rfl 22 _ _ rfl (xs.length : Int) rfl rfl Try.underlying22 (.int .u8 0) 1 infoB rfl (by decide) (by omega) 0 (ok := fun _ => True) (okp := fun _ => True) rfl (fun _ hk => hk) trivial (by omega) (by omega) (Below.refl _ _) (Nat.le_refl _) ?_; intro v1 w1 ho1 hb1 hg1 hown; have HK1 := Lib.hid ((Kf.refl f w).below hb1); have HF1 := Lib.hid (HF.out.below hb1); have k1 := HK1.out.cell h1 hcpf; have HO1 := Lib.hid (show BK.R 5 w1 w.heap.size (fun _ => True) v1 (by8 (genUp xs ys s 0)) from (by rw [genUp_start]; exact ho1)); obtain ⟨A1, c1, rfl, hlc1, _⟩ := Kd.R_reads ho1; have hlen1 : (List.replicate ((xs.length : Nat) : Int).toNat (0 : Int)).length = xs.length := (by simp); rw [hlen1] at HO1 ⊢; clear ho1 hb1 hg1 hown hlc1 hlen1))
    go_loopw [26] (fun i wr => ∃ k : Nat, k ≤ xs.length ∧ i = .int .i64 k ∧ Hid (BK.R 5 wr w.heap.size (fun _ => True) (.slice A1 xs.length c1) (by8 (genUp xs ys s k))) ∧ Hid (Kf f w wr) ∧ Hid (Fld wr f)) (fun i _ => xs.length - (intOf i).toNat)
    case atStart => exact ⟨0, Nat.zero_le _, rfl, HO1, HK1, HF1⟩
    case round =>
      obtain ⟨k, hk, rfl, HO, HK, HFR⟩ := hrel
      by_cases hlt : k < xs.length
      · have k1 := HK.out.cell h1 hcpf
        obtain ⟨u, hu⟩ : ∃ u, u = coef xs ys r k := ⟨_, rfl⟩
        have HU := Lib.hid hu
        have hgen : u = Hyp.gen xs.length (coef xs ys) s k := by
          unfold Hyp.gen
          rw [if_neg hsk, hu, HR.out, Nat.add_sub_cancel_left]
        have HG := Lib.hid hgen
        clear hu hgen
        go_wp2_with (first | (go_at_call 26; refine (coef_num f cp xs ys r k _ _ rfl rfl hrl hlt _ hl (HC.out.keep HK.out) HFR.out).mono ?_; rintro e w2 ⟨rfl, hk2, hf2⟩; rw [← HU.out]; have HK2 := Lib.hid (HK.out.trans hk2); have HF2 := Lib.hid hf2; have HO2 := Lib.hid (R_kf HO.out hk2 hfw); obtain ⟨g, cap, hgg, hbg, hfr, hcell⟩ := R_form8 HO2.out (genUp_length xs ys s k) (by omega); cases hgg; have hx1 := hcell k hlt; have hx2 := hfr k; clear hcell hfr hk2 hf2))
        go_roundw
        case rel =>
          refine ⟨k + 1, by omega, by go_num, Lib.hid ?_, Lib.hid (HK2.out.put hbg _), Lib.hid (HF2.out.put (by omega) _)⟩
          have h := Kd.R_putn HO2.out ((k : Nat) : Int) (u.toNat : Int)
          have h2 := genUp_put xs ys s k hlt
          rw [← HG.out] at h2
          rw [Int.toNat_natCast, h2] at h
          exact h
        case measure => simp [intOf]; omega
      · obtain rfl : k = xs.length := by omega
        go_wp2
        go_ret
        exact ⟨_, rfl, by have h := HO.out; rwa [genUp_done] at h, HK.out, HFR.out⟩
end Go.Proofs.Ytnfodhagfcjfpaa

/- Shards of which some are nil: code.long, code.there. -/
namespace Go.Proofs.Ytnfodhagfcjfpaa
open Go.RowKit Go.Proofs.YtnfodhagfcjfpaaW.PrintWords Go.Proofs.YtnfodhagfcjfpaaW.PrintLast Go.Proofs.YtnfodhagfcjfpaaW.PrintMore
set_option linter.unusedVariables false
set_option linter.unusedSimpArgs false

abbrev Osh := List (Option (List UInt8))
/-- shards that are read: nil, or there -/
structure Shd (w : World) (ok : Nat → Prop) (A : Option Addr) (L : Osh) : Prop where
  get : ∀ i, i < L.length → ∃ ad, A = some ad ∧ ok ad.block ∧
    (L.getD i none = none → w.cell? (ad.add i) = some (.slice none 0 0)) ∧
    (∀ l, L.getD i none = some l → ∃ A0 c0, w.cell? (ad.add i) = some (.slice (some A0) l.length c0) ∧ l.length ≤ c0 ∧ Kd.F BK w ok (some A0) l.length (by8 l))
theorem Shd.kf {f : Nat} {w w1 : World} {A : Option Addr} {L : Osh} (h : Shd w (· ≠ f) A L) (k : Kf f w w1) : Shd w1 (· ≠ f) A L := by
  refine ⟨fun i hi => ?_⟩
  obtain ⟨ad, rfl, hok, h1, h2⟩ := h.get i hi
  refine ⟨ad, rfl, hok, fun e => k.cell (h1 e) (by rw [add_block]; exact hok), fun l e => ?_⟩
  obtain ⟨A0, c0, hc, hl, hF⟩ := h2 l e
  exact ⟨A0, c0, k.cell hc (by rw [add_block]; exact hok), hl, Kd.F_grown hF k (fun b hb e => hb (Option.some.inj e))⟩

/-- the length of those that are there -/
def lenStep : Option Nat → Osh → Option (Option Nat)
  | n, [] => some n
  | n, none :: L => lenStep n L
  | none, some l :: L => lenStep (some l.length) L
  | some m, some l :: L => if l.length = m then lenStep (some m) L else none
def encLen : Option Nat → Int
  | none => -1
  | some m => m
def longRes : Option (Option Nat) → Value
  | none => .tuple #[.int .i64 0, .bool false]
  | some none => .tuple #[.int .i64 0, .bool true]
  | some (some m) => .tuple #[.int .i64 (m : Int), .bool (decide (m ≤ 64))]
theorem drop_cons {α : Type} (L : List α) (i : Nat) (d : α) (h : i < L.length) : L.drop i = L.getD i d :: L.drop (i + 1) := by
  rw [List.drop_eq_getElem_cons h]
  simp [List.getD_eq_getElem?_getD, h]

set_option maxRecDepth 100000 in
set_option maxHeartbeats 4000000 in
theorem long_any (A : Option Addr) (c : Nat) (L : Osh) (ok : Nat → Prop) (w : World) (hR : Shd w ok A L) (hL : L.length ≤ 100) (hb : ∀ l, some l ∈ L → l.length ≤ 1000) :
    Calls Try.prog 100 #[.slice A L.length c] w fun e w' => e = .returned (longRes (lenStep none L)) ∧ w = w' := by
  have HR := Lib.hid hR
  have HB := Lib.hid hb
  obtain ⟨res, hres⟩ : ∃ r, r = lenStep none L := ⟨_, rfl⟩
  rw [← hres]
  have HRES := Lib.hid hres
  clear hR hb hres
  have hq := fun (w : World) (a : Option Addr) (n c : Nat) => Lib.run_eql_slice_nil (P := Try.prog) w 22 5 a n c 0 0 Try.underlying22
  go_enter Try.func100, Try.ntmps100
  go_wp2
  go_loop [4, 9] (fun v i => ∃ (k : Nat) (st : Option Nat), k ≤ L.length ∧ i = .int .i64 k ∧ v = .int .i64 (encLen st) ∧ Hid (res = lenStep st (L.drop k)) ∧ (∀ m, st = some m → m ≤ 1000)) (fun _ i => L.length - (intOf i).toNat)
  case atStart => exact ⟨0, none, Nat.zero_le _, rfl, rfl, HRES, fun m h => by cases h⟩
  case round =>
    obtain ⟨k, st, hk, rfl, rfl, HS, hst⟩ := hrel
    by_cases hlt : k < L.length
    · obtain ⟨ad, rfl, _, hn, hsm⟩ := HR.out.get k hlt
      have HST := Lib.hid (HS.out.trans (by rw [drop_cons L k none hlt]))
      obtain ⟨x, hx⟩ : ∃ x, x = L.getD k none := ⟨_, rfl⟩
      rw [← hx] at hn hsm
      cases x with
      | none =>
        have h0 := hn rfl
        have HN := Lib.hid (show res = lenStep st (L.drop (k + 1)) by have h := HST.out; rw [← hx] at h; exact h)
        clear hn hsm hx
        go_wp2
        go_round
        case rel => exact ⟨k + 1, st, by omega, by go_num, rfl, HN, hst⟩
        case measure => simp [intOf]; omega
      | some l =>
        obtain ⟨A0, c0, h0, _, _⟩ := hsm l rfl
        have hlm : l.length ≤ 1000 := HB.out l (by rw [hx]; simp [List.getD_eq_getElem?_getD, hlt])
        cases st with
        | none =>
          have HN := Lib.hid (show res = lenStep (some l.length) (L.drop (k + 1)) by have h := HST.out; rw [← hx] at h; exact h)
          obtain ⟨n, hn'⟩ : ∃ n, n = l.length := ⟨_, rfl⟩
          rw [← hn'] at h0 hlm HN
          clear hn hsm hx hn'
          rw [show encLen none = (-1 : Int) from rfl]
          go_wp2
          go_round
          case rel => exact ⟨k + 1, some n, by omega, by go_num, rfl, HN, fun m h => by cases h; exact hlm⟩
          case measure => simp [intOf]; omega
        | some m =>
          have hm := hst m rfl
          by_cases hlm2 : l.length = m
          · have HN := Lib.hid (show res = lenStep (some m) (L.drop (k + 1)) by have h := HST.out; rw [← hx, lenStep, if_pos hlm2] at h; exact h)
            have hb1 : decide ((m : Int) < 0) = false := decide_eq_false (by omega)
            have hb2 : ((m : Int) != (m : Int)) = false := by simp
            rw [hlm2] at h0
            clear hn hsm hx hlm2 hlm
            rw [show encLen (some m) = (m : Int) from rfl]
            go_wp2
            go_round
            case rel => exact ⟨k + 1, some m, by omega, by go_num, rfl, HN, hst⟩
            case measure => simp [intOf]; omega
          · have HN := Lib.hid (show res = none by have h := HST.out; rw [← hx, lenStep, if_neg hlm2] at h; exact h)
            have hb1 : decide ((m : Int) < 0) = false := decide_eq_false (by omega)
            obtain ⟨n, hn'⟩ : ∃ n, n = l.length := ⟨_, rfl⟩
            rw [← hn'] at h0 hlm hlm2
            have hb2 : ((n : Int) != (m : Int)) = true := by rw [bne_iff_ne]; omega
            clear hn hsm hx hn' hlm2
            rw [show encLen (some m) = (m : Int) from rfl]
            go_wp2
            go_ret2
            exact ⟨by rw [HN.out]; rfl, rfl⟩
    · obtain rfl : k = L.length := by omega
      have HE := Lib.hid (show res = some st by have h := HS.out; rw [List.drop_length] at h; cases st <;> exact h)
      cases st with
      | none =>
        rw [show encLen none = (-1 : Int) from rfl]
        go_wp2
        go_ret2
        exact ⟨by rw [HE.out]; first | rfl | simp [longRes], rfl⟩
      | some m =>
        have hm := hst m rfl
        rw [show encLen (some m) = (m : Int) from rfl]
        go_wp2
        go_ret2
        refine ⟨?_, rfl⟩
        rw [HE.out]
        have e1 : max (m : Int) 0 = (m : Int) := by omega
        have e2 : decide ((m : Int) ≤ 64) = decide (m ≤ 64) := by by_cases h : m ≤ 64 <;> simp [h] <;> omega
        first | rfl | (simp [longRes, e1, e2]; done)

/-- the numbers of those that are there, from k on -/
def thereFrom (k : Nat) : Osh → List Nat
  | [] => []
  | none :: L => thereFrom (k + 1) L
  | some _ :: L => k :: thereFrom (k + 1) L
def natI (l : List Nat) : List Int := l.map fun (n : Nat) => (n : Int)
theorem run_neq_nil {P : Program} (w : World) (t e : TypeId) (a : Option Addr) (n c : Nat) (h : P.underlying t = some (.slice e)) : (Go.binOp .neq t (.slice a n c) (.slice none 0 0)).run P w = .ok (.bool (!a.isNone)) w := by
  simp only [Go.binOp]
  simp [Op.equal, Op.maxDepth, Lib.run_equalIn_slice_nil w 9999 t e a n c 0 0 h]
abbrev IK : Kd Int := Kd.int .i64
theorem infoI : (Try.prog.info? 3).map (fun i => (i.zero, i.size, i.bytes)) = some (some (.int .i64 0), 1, 8) := by kernel_rfl

set_option maxRecDepth 100000 in
set_option maxHeartbeats 4000000 in
theorem there_any (A : Option Addr) (c : Nat) (L : Osh) (f : Nat) (w : World) (hf : f < w.heap.size) (hR : Shd w (· ≠ f) A L) (hL : L.length ≤ 100) :
    Calls Try.prog 101 #[.slice A L.length c] w fun e w' => ∃ v, e = .returned v ∧ IK.R 3 w' w.heap.size (fun _ => True) v (natI (thereFrom 0 L)) ∧ Below w.heap.size w w' := by
  have HR := Lib.hid hR
  have hq := fun (w : World) (a : Option Addr) (n c : Nat) => run_neq_nil (P := Try.prog) w 22 5 a n c Try.underlying22
  clear hR
  go_enter Try.func101, Try.ntmps101
  go_wp2
  go_loopw [3, 8] (fun v i wr => ∃ (k : Nat) (l : List Nat), k ≤ L.length ∧ l.length ≤ k ∧ i = .int .i64 k ∧ Hid (thereFrom 0 L = l ++ thereFrom k (L.drop k)) ∧ Hid (IK.R 3 wr w.heap.size (fun _ => True) v (natI l)) ∧ Hid (Below w.heap.size w wr)) (fun _ i _ => L.length - (intOf i).toNat)
  case atStart => exact ⟨0, [], Nat.zero_le _, Nat.zero_le _, rfl, Lib.hid rfl, Lib.hid (Kd.R_nil _ _ _ _ _), Lib.hid (Below.refl _ _)⟩
  case round =>
    obtain ⟨k, l, hk, hlk, rfl, HS, HO, HB⟩ := hrel
    by_cases hlt : k < L.length
    · obtain ⟨ad, rfl, _, hn, hsm⟩ := (HR.out.kf ((Kf.refl f w).below HB.out)).get k hlt
      have HST := Lib.hid (HS.out.trans (by rw [drop_cons L k none hlt]))
      obtain ⟨x, hx⟩ : ∃ x, x = L.getD k none := ⟨_, rfl⟩
      rw [← hx] at hn hsm
      cases x with
      | none =>
        have h0 := hn rfl
        have HN := Lib.hid (show thereFrom 0 L = l ++ thereFrom (k + 1) (L.drop (k + 1)) by have h := HST.out; rw [← hx] at h; exact h)
        clear hn hsm hx
        go_wp2
        go_roundw
        case rel => exact ⟨k + 1, l, by omega, by omega, by go_num, HN, HO, HB⟩
        case measure => simp [intOf]; omega
      | some y =>
        obtain ⟨A0, c0, h0, _, _⟩ := hsm y rfl
        have HN := Lib.hid (show thereFrom 0 L = (l ++ [k]) ++ thereFrom (k + 1) (L.drop (k + 1)) by have h := HST.out; rw [← hx] at h; rw [h]; simp [thereFrom])
        obtain ⟨n, hn'⟩ : ∃ n, n = y.length := ⟨_, rfl⟩
        rw [← hn'] at h0
        clear hn hsm hx hn'
        go_wp2_with (first | ((with_reducible refine gate_builtin (b := .append) (xs := #[.tmp 15, .tmp 17]) rfl ?_); at_builtin; refine Kd.R_append IK (w0 := w) w.heap.size rfl (.tmp 15) (.tmp 17) 30 3 (.int .i64 0) 8 rfl Try.underlying30 infoI rfl (by decide) (by omega) u3 (natI l) (k : Int) [.int .i64 (k : Int)] (fun _ => True) (fun _ => False) rfl rfl ?aP (fun _ hk => hk.elim) ?aF ?aO ?aB ?aS ?aL ?_))
        case aP => exact rfl
        case aF => exact fun _ _ => trivial
        case aO => exact HO.out
        case aB => exact HB.out
        case aS => exact HB.out.size
        case aL => simp only [natI, List.length_map]; omega
        intro v1 w1 hv1 hb1 _ _
        have HO1 := Lib.hid (show IK.R 3 w1 w.heap.size (fun _ => True) v1 (natI (l ++ [k])) by unfold natI; rw [List.map_append]; exact hv1)
        have HB1 := Lib.hid hb1
        clear hv1 hb1
        go_wp2
        go_roundw
        case rel => exact ⟨k + 1, l ++ [k], by omega, by simp; omega, by go_num, HN, HO1, HB1⟩
        case measure => simp [intOf]; omega
    · obtain rfl : k = L.length := by omega
      go_wp2
      go_ret
      exact ⟨_, rfl, by have h := HS.out; rw [List.drop_length] at h; rw [h]; simp only [thereFrom, List.append_nil]; exact HO.out, HB.out⟩
end Go.Proofs.Ytnfodhagfcjfpaa

/- Arrays of slices as rows of bare values; (*Code).data. -/
namespace Go.Proofs.Ytnfodhagfcjfpaa
open Go.RowKit Go.Proofs.YtnfodhagfcjfpaaW.PrintWords Go.Proofs.YtnfodhagfcjfpaaW.PrintLast Go.Proofs.YtnfodhagfcjfpaaW.PrintMore
set_option linter.unusedVariables false
set_option linter.unusedSimpArgs false

/-- a row of bare slice values -/
abbrev SK : Kd (Option Addr × Nat × Nat) := Kd.scalar (fun p => .slice p.1 p.2.1 p.2.2) (fun _ => rfl)

/-- joined: each value's row apart -/
theorem SK_join {w : World} {base : Nat} {ok : Nat → Prop} {v : Value} {ps : List (Option Addr × Nat × Nat)} {ll : List (List Int)} (h : SK.R 22 w base ok v ps) (hl : ll.length = ps.length)
    (hrow : ∀ (j : Nat) (p : Option Addr × Nat × Nat) (l : List Int), ps[j]? = some p → ll[j]? = some l → BK.R 5 w base (fun k => some k ≠ v.ownBlock) (.slice p.1 p.2.1 p.2.2) l) :
    LK.R 22 w base (fun _ => True) v ll := by
  have ho := Kd.own_of_R h
  rw [← hl] at ho
  refine ⟨fun _ _ => trivial, _, ho, by rw [encs_length, hl, show LK.sz = 1 from rfl, Nat.mul_one], fun j l hj => ?_⟩
  have hjl : j < ll.length := (List.getElem?_eq_some_iff.1 hj).1
  obtain ⟨p, hp⟩ : ∃ p, ps[j]? = some p := ⟨ps[j]'(by omega), by simp [List.getElem?_eq_getElem (show j < ps.length by omega)]⟩
  have h1 := hrow j p l hp hj
  have e : ((encs (fun p : Option Addr × Nat × Nat => Value.slice p.1 p.2.1 p.2.2) ps).drop (j * LK.sz)).take LK.sz = [.slice p.1 p.2.1 p.2.2] := by
    rw [show LK.sz = 1 from rfl, Nat.mul_one]
    apply List.ext_getElem?
    intro t
    cases t with
    | zero => simp [encs, hp]
    | succ t => simp; omega
  rw [e]
  exact Kd.M_row (Kd.R_mono h1 (fun k hk => ⟨trivial, hk⟩))

/-- the rows of the first i shards, one behind the other -/
def genCells (xs ys : List UInt8) (from_ : List Nat) (i : Nat) : List UInt8 := ((from_.take i).map (genRow xs ys)).flatten
theorem genCells_succ (xs ys : List UInt8) (from_ : List Nat) (i : Nat) (hi : i < from_.length) : genCells xs ys from_ (i + 1) = genCells xs ys from_ i ++ genRow xs ys (from_.getD i 0) := by
  unfold genCells
  rw [List.take_succ_eq_append_getElem hi, List.map_append, List.flatten_append]
  simp [List.getD_eq_getElem?_getD, hi]
theorem genCells_range (xs ys : List UInt8) (from_ : List Nat) : ∀ i, i ≤ from_.length → genCells xs ys from_ i = (List.range (i * xs.length)).map fun t => Hyp.gen xs.length (coef xs ys) (from_.getD (t / xs.length) 0) (t % xs.length) := by
  intro i
  induction i with
  | zero => intro _; simp [genCells]
  | succ i ih =>
    intro hi
    rw [genCells_succ _ _ _ _ hi, ih (by omega), Nat.add_mul, Nat.one_mul, List.range_add, List.map_append]
    congr 1
    unfold genRow
    rw [List.map_map]
    refine List.map_congr_left fun t ht => ?_
    have htl := List.mem_range.1 ht
    simp only [Function.comp]
    rw [Hyp.cell_div htl, Hyp.cell_mod htl]
theorem genCells_done (xs ys : List UInt8) (from_ : List Nat) (h : from_.length = xs.length) : genCells xs ys from_ from_.length = Hyp.cellsOf xs.length (fun i j => Hyp.gen xs.length (coef xs ys) (from_.getD i 0) j) := by
  rw [genCells_range xs ys from_ _ (Nat.le_refl _), h]
  rfl
theorem genCells_length (xs ys : List UInt8) (from_ : List Nat) (i : Nat) (hi : i ≤ from_.length) : (genCells xs ys from_ i).length = i * xs.length := by
  rw [genCells_range xs ys from_ i hi]
  simp
end Go.Proofs.Ytnfodhagfcjfpaa

/- The kind of shards (nil, or there); append onto a row of one's own, told in full; make with room. -/
namespace Go.Proofs.Ytnfodhagfcjfpaa
open Go.RowKit Go.Proofs.YtnfodhagfcjfpaaW.PrintWords Go.Proofs.YtnfodhagfcjfpaaW.PrintLast Go.Proofs.YtnfodhagfcjfpaaW.PrintMore
set_option linter.unusedVariables false
set_option linter.unusedSimpArgs false

/-- a shard: nil, or a row of bytes -/
def ZK : Kd (Option (List UInt8)) where
  sz := 1
  E := 5 :: BK.E
  K := fun w x cs => (x = none ∧ cs = [.slice none 0 0]) ∨ ∃ l A0 c, x = some l ∧ cs = [.slice (some A0) l.length c] ∧ l.length ≤ c ∧ BK.C w (some A0) l.length (by8 l)
  M := fun w base ok x cs => (x = none ∧ cs = [.slice none 0 0]) ∨ ∃ l A0 c, x = some l ∧ cs = [.slice (some A0) l.length c] ∧ BK.R 5 w base ok (.slice (some A0) l.length c) (by8 l)
  K_len := by
    rintro w x cs (⟨_, rfl⟩ | ⟨l, A0, c, _, rfl, _⟩) <;> rfl
  K_one := by
    rintro w x cs (⟨_, rfl⟩ | ⟨l, A0, c, _, rfl, _⟩) u hu <;> (rw [List.mem_singleton.1 hu]; rfl)
  K_below := by
    rintro w w1 x cs hb (h | ⟨l, A0, c, hx, hc, hl, hr⟩)
    · exact .inl h
    · exact .inr ⟨l, A0, c, hx, hc, hl, Kd.C_below hr hb⟩
  K_of_M := by
    rintro w base ok x cs (h | ⟨l, A0, c, hx, hc, hr⟩)
    · exact .inl h
    · have h := Kd.R_reads' hr
      rw [by8_length] at h
      exact .inr ⟨l, A0, c, hx, hc, h.2.1, h.2.2⟩
  M_mono := by
    rintro w base ok ok' x cs hok (h | ⟨l, A0, c, hx, hc, hr⟩)
    · exact .inl h
    · exact .inr ⟨l, A0, c, hx, hc, Kd.R_mono hr hok⟩
  M_bound := by
    rintro w base ok x cs (h | ⟨l, A0, c, hx, hc, hr⟩)
    · exact .inl h
    · exact .inr ⟨l, A0, c, hx, hc, Kd.R_bound hr⟩
  M_move := by
    rintro w w1 base ok x cs hm (h | ⟨l, A0, c, hx, hc, hr⟩)
    · exact .inl h
    · exact .inr ⟨l, A0, c, hx, hc, Kd.R_move hr hm⟩
  M_lower := by
    rintro w base base' ok x cs hb (h | ⟨l, A0, c, hx, hc, hr⟩)
    · exact .inl h
    · exact .inr ⟨l, A0, c, hx, hc, Kd.R_lower hr hb⟩

theorem ZK_none (w : World) (base : Nat) (ok : Nat → Prop) : ZK.M w base ok none [.slice none 0 0] := .inl ⟨rfl, rfl⟩
theorem ZK_some {w : World} {base : Nat} {ok : Nat → Prop} {g : Addr} {n c : Nat} {l : List UInt8} (h : BK.R 5 w base ok (.slice (some g) n c) (by8 l)) : ZK.M w base ok (some l) [.slice (some g) n c] := by
  have hn := (Kd.R_reads' h).1
  rw [by8_length] at hn
  subst hn
  exact .inr ⟨l, g, c, rfl, rfl, h⟩

theorem ZK_Shd {w : World} {ok : Nat → Prop} {A : Option Addr} {n : Nat} {L : Osh} (h : Kd.F ZK w ok A n L) (hn : n = L.length) : Shd w ok A L := by
  subst hn
  refine ⟨fun i hi => ?_⟩
  obtain ⟨ad, c, rfl, hcl, hK, hcc, hin⟩ := Kd.F_get h none (i : Int) (by omega) (by omega)
  simp only [Int.toNat_natCast] at hK hcc
  have hc0 : ∀ u, c = [u] → w.cell? (ad.add i) = some u := fun u hu => by
    have := hcc 0 u (by rw [hu]; rfl)
    rwa [show i * ZK.sz + 0 = i from by show i * 1 + 0 = i; omega] at this
  refine ⟨ad, rfl, hin (by decide), fun e => ?_, fun l e => ?_⟩
  · rw [e] at hK
    rcases Foot.now hK with ⟨_, hc⟩ | ⟨_, _, _, he, _⟩
    · exact hc0 _ hc
    · cases he
  · rw [e] at hK
    rcases Foot.now hK with ⟨he, _⟩ | ⟨l', A0, c0, he, hc, hl, _⟩
    · cases he
    · injection he with he
      subst he
      refine ⟨A0, c0, hc0 _ hc, hl, fun W' hW => ?_⟩
      rcases hK W' hW with ⟨he, _⟩ | ⟨l', A0', c0', he, hc', _, hr⟩
      · cases he
      · injection he with he
        subst he
        rw [hc] at hc'
        injection hc' with hc' _
        injection hc' with h1 h2 h3
        injection h1 with h1
        subst h1
        exact hr

/-- rows that are read, of other kinds, element by element -/
theorem C_rel {α β : Type} {d : Kd α} {d' : Kd β} (hs : d.sz = d'.sz) {xs : List α} {ys : List β} (hl : xs.length = ys.length) (h : ∀ (j : Nat) (x : α) (y : β) (w : World) (cs : List Value), xs[j]? = some x → ys[j]? = some y → d.K w x cs → d'.K w y cs)
    {w : World} {A : Option Addr} {n : Nat} (hc : d.C w A n xs) : d'.C w A n ys := by
  obtain ⟨h1, h2, h3⟩ := hc
  refine ⟨by omega, h2, fun hp => ?_⟩
  obtain ⟨ad, he, hc⟩ := h3 hp
  refine ⟨ad, he, fun j y hj => ?_⟩
  have hjl : j < xs.length := by have := (List.getElem?_eq_some_iff.1 hj).1; omega
  obtain ⟨c, hcl, hK, hcc⟩ := hc j _ (List.getElem?_eq_getElem hjl)
  exact ⟨c, by rw [← hs]; exact hcl, h j _ y w c (List.getElem?_eq_getElem hjl) hj hK, by rw [← hs]; exact hcc⟩
theorem F_rel {α β : Type} {d : Kd α} {d' : Kd β} (hs : d.sz = d'.sz) {xs : List α} {ys : List β} (hl : xs.length = ys.length) (h : ∀ (j : Nat) (x : α) (y : β) (w : World) (cs : List Value), xs[j]? = some x → ys[j]? = some y → d.K w x cs → d'.K w y cs)
    {w : World} {ok : Nat → Prop} {A : Option Addr} {n : Nat} (hc : Kd.F d w ok A n xs) : Kd.F d' w ok A n ys := Foot.imp hc fun _ hp => C_rel hs hl h hp

/-- all that are there, as rows -/
theorem LK_of_ZK {w : World} {ok : Nat → Prop} {A : Option Addr} {n : Nat} {L : Osh} (h : Kd.F ZK w ok A n L) : Kd.F LK w ok A n (ll8 (L.map fun x => x.getD [])) := by
  refine F_rel (d := ZK) (d' := LK) rfl (by simp [ll8]) (fun j x y w cs hx hy hK => ?_) h
  have e : y = by8 (x.getD []) := by
    simp [ll8, hx] at hy
    exact hy.symm
  subst e
  rcases hK with ⟨rfl, rfl⟩ | ⟨l, A0, c, rfl, rfl, hl, hr⟩
  · exact ⟨none, 0, rfl, by simp [by8], Kd.C_nil _ _⟩
  · exact ⟨some A0, c, by rw [show (some l).getD [] = l from rfl, by8_length], by rw [show (some l).getD [] = l from rfl, by8_length]; exact hl, by rw [show (some l).getD [] = l from rfl, by8_length]; exact hr⟩
/-- rows with bytes are there -/
theorem ZK_of_LK {w : World} {ok : Nat → Prop} {A : Option Addr} {n : Nat} {S : Shs} (h : Kd.F LK w ok A n (ll8 S)) (hp : ∀ l, l ∈ S → 0 < l.length) : Kd.F ZK w ok A n (S.map some) := by
  refine F_rel (d := LK) (d' := ZK) rfl (by simp [ll8]) (fun j x y w cs hx hy hK => ?_) h
  obtain ⟨hjl, hj⟩ : ∃ hjl : j < S.length, S[j] = S[j] := ⟨by have := (List.getElem?_eq_some_iff.1 hx).1; simpa [ll8] using this, rfl⟩
  have ex : x = by8 S[j] := by
    simp [ll8, hjl] at hx
    exact hx.symm
  have ey : y = some S[j] := by
    simp [hjl] at hy
    exact hy.symm
  have hpos := hp S[j] (List.getElem_mem hjl)
  rw [ey]
  rw [ex] at hK
  obtain ⟨A0, c, rfl, hl, hr⟩ := hK
  rw [by8_length] at hl hr
  cases A0 with
  | none => exact absurd (nil_of_C hr).2 (by omega)
  | some A0 => exact .inr ⟨S[j], A0, c, rfl, by rw [by8_length], hl, hr⟩

section
variable {P : Program} {ops : Array Oper} {rest : List Oper} {o : Oper} {a : Act} {Q : Exit → Act → World → Prop} {α : Type}
/-- what an append leaves: the same block, with room; or a new one, and then all is as it was -/
def Grew (W w1 : World) (v v1 : Value) (m : Nat) : Prop :=
  (∃ g n c, v = .slice (some ⟨g, 0, none⟩) n c ∧ v1 = .slice (some ⟨g, 0, none⟩) (n + m) c ∧ W.grownBy w1 (some g)) ∨ (W.grownBy w1 none ∧ v1.ownBlock = some W.heap.size) ∨ (v = .slice none 0 0 ∧ v1 = v ∧ w1 = W)

theorem append_grew (w : World) (base : Nat) (t ty e : TypeId) (i : TypeInfo) (z : Value) (size bytes : Nat) (ht : P.underlying t = some (.slice e)) (hi : P.info? e = some i) (hz : i.zero = some z)
    (hsize : i.size = size) (hby : i.bytes = bytes) (hzs : z.cells.size = size) (hsz : 0 < size)
    (v : Value) (n : Nat) (xs : List Value) (hown : w.ownsRow base e size v n xs)
    (ad : Addr) (m c : Nat) (news : List Value) (hl : news.length = m * size) (hnews : ∀ j u, news[j]? = some u → w.cell? (ad.add j) = some u) (h1 : ∀ u ∈ news, u.oneCell' = true)
    (h63 : n + m ≤ maxLen) (hbytes : (n + m) * bytes ≤ 140737488355328) (hbase : base ≤ w.heap.size) :
    ∃ v' w', (Builtin.append_ #[t, t] ty #[v, .slice (some ad) m c]).run P w = .ok v' w' ∧ w'.ownsRow base e size v' (n + m) (xs ++ news) ∧ w.grownBy w' v.ownBlock ∧ Grew w w' v v' m := by
  have hmain := run_append_own (P := P) w base t ty e i z size bytes ht hi hz hsize hby hzs hsz v n xs hown ad m c news hl hnews h1 h63 hbytes hbase
  obtain ⟨v', w', hr, hown', hg, hiff⟩ := hmain
  refine ⟨v', w', hr, hown', hg, ?_⟩
  subst hsize
  subst hby
  have hsmall : n + m ≤ 9223372036854775807 := by simp only [maxLen] at h63; omega
  have hb1 : m * i.bytes ≤ (n + m) * i.bytes := Nat.mul_le_mul_right _ (by omega)
  rcases hown.2 with ⟨hv, hn0⟩ | ⟨g, cap, cur, hv, hbg, hgg, hnc, hcm, hcs, htake⟩
  · subst hv
    by_cases hm : m = 0
    · subst hm
      have hn : news = [] := List.eq_nil_of_length_eq_zero (by simpa using hl)
      subst hn
      have e2 : (Builtin.append_ #[t, t] ty #[.slice none 0 0, .slice (some ad) 0 c]).run P w = .ok (.slice none 0 0) w := by
        simp [Builtin.append_, run_underlying ht, sizeOf, typeInfo, hi, Builtin.lenOf, Builtin.firstCells, loadCells, loadCellsFrom]
      rw [e2] at hr
      injection hr with a1 a2
      exact .inr (.inr ⟨rfl, a1.symm, a2.symm⟩)
    · have e2 := run_append_nil (P := P) w t ty e i z ht hi hz ad m c news hl hnews (by omega) (by omega) (by omega)
      rw [e2] at hr
      injection hr with a1 a2
      subst a1
      subst a2
      exact .inr (.inl ⟨⟨rfl, rfl, rfl, by simp, fun k hk _ => heap_alloc_old w.drew _ hk⟩, rfl⟩)
  · subst hv
    by_cases hroom : n + m ≤ cap
    · have hfit : n * i.size + news.length ≤ cur.size := by rw [hl, hcs, ← Nat.add_mul]; exact Nat.mul_le_mul_right _ hroom
      have e2 := run_append_room (P := P) w t ty e i ht hi g n cap cur hgg ad m c news hl hnews h1 hroom hfit
      rw [e2] at hr
      injection hr with a1 a2
      exact .inl ⟨g, n, cap, rfl, a1.symm, hg⟩
    · have holds : ∀ j u, xs[j]? = some u → w.cell? ((⟨g, 0, none⟩ : Addr).add j) = some u := hown.cells (g := g) rfl
      have e2 := run_append_grow (P := P) w t ty e i z ht hi hz ⟨g, 0, none⟩ n cap xs hown.1 holds ad m c news hl hnews (by omega) (by omega) (growslice_fits (by omega) hbytes)
      rw [e2] at hr
      injection hr with a1 a2
      subst a1
      subst a2
      exact .inr (.inl ⟨⟨rfl, rfl, rfl, by simp, fun k hk _ => heap_alloc_old w.drew _ hk⟩, rfl⟩)

theorem Grew.hat {W w1 : World} {v v1 : Value} {m : Nat} (h : Grew W w1 v v1 m) : v1.ownBlock = v.ownBlock ∨ ∃ b, v1.ownBlock = some b ∧ W.heap.size ≤ b := by
  rcases h with ⟨g, n, c, rfl, rfl, _⟩ | ⟨_, h⟩ | ⟨rfl, rfl, _⟩
  · exact .inl rfl
  · exact .inr ⟨_, h, Nat.le_refl _⟩
  · exact .inl rfl

/-- append(v, x), told in full -/
theorem R_append2 (d : Kd α) {w0 W : World} (base : Nat) (hgd : o.guard = none) (s x : Operand) (t e : TypeId) (z : Value) (bytes : Nat)
    (ho : o.op = .call { callee := .builtin .append, args := #[s, x], argTypes := #[t, t] })
    (ht : P.underlying t = some (.slice e)) (hinfo : (P.info? e).map (fun i => (i.zero, i.size, i.bytes)) = some (some z, d.sz, bytes)) (hz : z.cells.size = d.sz) (hs0 : 0 < d.sz) (hb0 : 0 < bytes)
    (v : Value) (xs : List α) (p : α) (cs : List Value) (ok okp : Nat → Prop) (hs : a.eval s = v) (hx : a.eval x = .slice (some ⟨W.heap.size, 0, none⟩) 1 1) (hp : d.M W base okp p cs) (hokp : ∀ k, okp k → ok k ∧ some k ≠ v.ownBlock) (hfresh : ∀ k, W.heap.size ≤ k → ok k)
    (HO : d.R e W base ok v xs) (HB : Below base w0 W) (hbase : base ≤ W.heap.size) (hl : (xs.length + 1) * bytes ≤ 140737488355328)
    (h : ∀ v1 w1, d.R e w1 base ok v1 (xs ++ [p]) → Below base w0 w1 → Grew (W.alloc (.cells cs.toArray e)) w1 v v1 1 → wpList P ops Q rest (a.put o.dst v1) w1) :
    wpList P ops Q (o :: rest) a (W.alloc (.cells cs.toArray e)) := by
  obtain ⟨h0, inner, hown, hr⟩ := HO
  obtain ⟨i0, hi, hzz⟩ := Option.map_eq_some_iff.1 hinfo
  simp only [Prod.mk.injEq] at hzz
  obtain ⟨hz0, hz1, hz2⟩ := hzz
  have hlen : xs.length + 1 ≤ 140737488355328 := Nat.le_trans (Nat.le_mul_of_pos_right _ hb0) hl
  have hcl := d.K_len (d.K_of_M hp)
  have hc1 := d.K_one (d.K_of_M hp)
  obtain ⟨v1, w1, hr1, hown1, hg, hgrew⟩ := append_grew (P := P) (W.alloc (.cells cs.toArray e)) base t o.type e i0 z d.sz bytes ht hi hz0 hz1 hz2 hz hs0 v xs.length inner (hown.alloc _) ⟨W.heap.size, 0, none⟩ 1 1 cs (by rw [hcl, Nat.one_mul])
    (by simpa using World.news_of_block (cs := cs.toArray) (t := e) (fr := (0, 0)) (heap_alloc_new W (.cells cs.toArray e))) hc1 (by simp only [maxLen]; omega) hl (by simp; omega)
  have hg2 : W.grownBy w1 v.ownBlock := World.grownBy.trans (World.grownBy_alloc W _ _) hg
  have hat : v1.ownBlock = v.ownBlock ∨ ∃ b, v1.ownBlock = some b ∧ W.heap.size ≤ b := by
    rcases hgrew.hat with h | ⟨b, hb, hle⟩
    · exact .inl h
    · exact .inr ⟨b, hb, by simp at hle; omega⟩
  have hB : Below base w0 w1 := (HB.alloc hbase _).grown hg (by simp; omega) (own_base hown)
  refine wpList_plain hgd fun K hK => ?_
  unfold Oper.wp execOp
  simp only [ho, resolve, invoke, builtin, Sem.run_bind, Sem.run_pure, Result.andThen_ok, List.map_toArray, List.map_cons, List.map_nil, hs, hx, hr1]
  exact hK _ _ (h v1 w1 (Kd.R_appended h0 hr hp hokp hfresh hown1 hg2 hat) hB hgrew)

/-- make([]T, 0, n) -/
theorem R_make_room (d : Kd α) {w0 W : World} (base e : Nat) (hgd : o.guard = none) {N : Tmp} (hd : o.dst = some N) (t : TypeId) (x y : Operand) (ho : o.op = .makeSlice t x y) (n : Nat) (hx : a.eval x = .int .i64 0) (hy : a.eval y = .int .i64 (n : Int))
    (ht : P.underlying t = some (.slice e)) (z : Value) (bytes : Nat) (hinfo : (P.info? e).map (fun i => (i.zero, i.size, i.bytes)) = some (some z, d.sz, bytes)) (hz : z.cells.size = d.sz) (hs0 : 0 < d.sz) (hb0 : 0 < bytes)
    {ok : Nat → Prop} (hfresh : ok W.heap.size) (hl : n * bytes ≤ 140737488355328) (HB : Below base w0 W) (hbase : base ≤ W.heap.size)
    (h : ∀ w1, d.R e w1 base ok (.slice (some ⟨W.heap.size, 0, none⟩) 0 n) [] → Below base w0 w1 → W.grownBy w1 none → wpList P ops Q rest (a.put o.dst (.slice (some ⟨W.heap.size, 0, none⟩) 0 n)) w1) : wpList P ops Q (o :: rest) a W := by
  obtain ⟨i0, hi, hzz⟩ := Option.map_eq_some_iff.1 hinfo
  simp only [Prod.mk.injEq] at hzz
  obtain ⟨hz0, hz1, hz2⟩ := hzz
  have hm : n ≤ 140737488355328 := Nat.le_trans (Nat.le_mul_of_pos_right _ hb0) hl
  have hr := run_make (P := P) W t e i0 z ht hi hz0 .i64 .i64 0 (n : Int) (by omega) (by omega)
    (by
      have h3 : ((i0.bytes * n : Nat) : Int) ≤ 281474976710656 := by rw [hz2, Nat.mul_comm]; omega
      rwa [Int.natCast_mul] at h3) (by omega)
  simp only [Int.toNat_natCast] at hr
  rw [hz1] at hr
  have hsz : (madeCells z.cells (n * d.sz)).size = n * d.sz := by simp [madeCells]
  refine Kd.event_run (v := .slice (some ⟨W.heap.size, 0, none⟩) 0 n) (w1 := W.alloc (.cells (madeCells z.cells (n * d.sz)) e)) hgd ?_ (h _ ?_ (HB.alloc hbase _) (World.grownBy_alloc W _ _))
  · simp [execOp, ho, hx, hy, hr]
  · refine ⟨fun k hk => by simp [Value.ownBlock] at hk; subst hk; exact hfresh, [], ⟨by simp, .inr ⟨W.heap.size, n, _, rfl, hbase, heap_alloc_new W _, by simp, by simp only [maxLen]; omega, hsz, by simp⟩⟩, ⟨by simp, fun j p hj => by simp at hj⟩⟩
end
end Go.Proofs.Ytnfodhagfcjfpaa

/- What Decode tells, in plain lists. -/
namespace Go.Proofs.Ytnfodhagfcjfpaa
open Go.RowKit Go.Proofs.YtnfodhagfcjfpaaW.PrintWords Go.Proofs.YtnfodhagfcjfpaaW.PrintLast Go.Proofs.YtnfodhagfcjfpaaW.PrintMore
set_option linter.unusedVariables false
set_option linter.unusedSimpArgs false

/-- shard s, as it is read: nothing where there is none -/
def osh (L : Osh) (s : Nat) : List UInt8 := (L.getD s none).getD []
/-- row t of what data gives -/
def datRow (xs : List UInt8) (L : Osh) (from_ : List Nat) (R : Hyp.Mat) (n t : Nat) : List UInt8 :=
  match L.getD t none with
  | some l => l
  | none => (List.range n).map fun a => Hyp.xsum xs.length (fun x => Hyp.mul (R t x) ((osh L (from_.getD x 0)).getD a 0))
def dat (xs : List UInt8) (L : Osh) (from_ : List Nat) (R : Hyp.Mat) (n : Nat) : Shs := (List.range xs.length).map (datRow xs L from_ R n)
theorem dat_length (xs : List UInt8) (L : Osh) (from_ : List Nat) (R : Hyp.Mat) (n : Nat) : (dat xs L from_ R n).length = xs.length := by simp [dat]
theorem dat_getD (xs : List UInt8) (L : Osh) (from_ : List Nat) (R : Hyp.Mat) (n t : Nat) (ht : t < xs.length) : (dat xs L from_ R n).getD t [] = datRow xs L from_ R n t := by
  simp [dat, List.getD_eq_getElem?_getD, ht]
/-- shard k + j of what Decode tells -/
def decPar (xs ys : List UInt8) (L : Osh) (n : Nat) (D : Shs) (j : Nat) : List UInt8 :=
  match L.getD (xs.length + j) none with
  | some l => l
  | none => par xs ys j n D
def decPars (xs ys : List UInt8) (L : Osh) (n : Nat) (D : Shs) (r : Nat) : Shs := (List.range r).map (decPar xs ys L n D)
theorem decPars_length (xs ys : List UInt8) (L : Osh) (n : Nat) (D : Shs) (r : Nat) : (decPars xs ys L n D r).length = r := by simp [decPars]
theorem decPars_succ (xs ys : List UInt8) (L : Osh) (n : Nat) (D : Shs) (r : Nat) : decPars xs ys L n D (r + 1) = decPars xs ys L n D r ++ [decPar xs ys L n D r] := by
  simp [decPars, List.range_succ]
/-- all that Decode tells -/
def dec (xs ys : List UInt8) (L : Osh) (from_ : List Nat) (R : Hyp.Mat) (n : Nat) : Shs := dat xs L from_ R n ++ decPars xs ys L n (dat xs L from_ R n) ys.length
theorem dec_length (xs ys : List UInt8) (L : Osh) (from_ : List Nat) (R : Hyp.Mat) (n : Nat) : (dec xs ys L from_ R n).length = xs.length + ys.length := by
  simp [dec, dat_length, decPars_length]

/-- R turns what the shards of from_ hold into the data -/
def Turns (xs ys : List UInt8) (from_ : List Nat) (R : Hyp.Mat) : Prop :=
  ∀ v i, i < xs.length → Hyp.mv xs.length R (Hyp.mv xs.length (fun i j => Hyp.gen xs.length (coef xs ys) (from_.getD i 0) j) v) i = v i

/-- data and parities -/
def allRows (xs ys : List UInt8) (n : Nat) (D : Shs) : Shs := D ++ enc xs ys n D ys.length
theorem allRows_length (xs ys : List UInt8) (n : Nat) (D : Shs) : (allRows xs ys n D).length = D.length + ys.length := by simp [allRows, enc_length]
theorem enc_getD (xs ys : List UInt8) (n : Nat) (D : Shs) (r j : Nat) (hj : j < r) : (enc xs ys n D r).getD j [] = par xs ys j n D := by
  simp [enc, List.getD_eq_getElem?_getD, hj]
theorem allRows_data (xs ys : List UInt8) (n : Nat) (D : Shs) (s : Nat) (hs : s < D.length) : (allRows xs ys n D).getD s [] = D.getD s [] := by
  unfold allRows
  rw [List.getD_eq_getElem?_getD, List.getElem?_append_left hs, ← List.getD_eq_getElem?_getD]
theorem allRows_par (xs ys : List UInt8) (n : Nat) (D : Shs) (j : Nat) (hj : j < ys.length) : (allRows xs ys n D).getD (D.length + j) [] = par xs ys j n D := by
  rw [← enc_getD xs ys n D ys.length j hj]
  unfold allRows
  rw [List.getD_eq_getElem?_getD, List.getElem?_append_right (Nat.le_add_right _ _), Nat.add_sub_cancel_left, ← List.getD_eq_getElem?_getD]
theorem par_getD (xs ys : List UInt8) (j n : Nat) (D : Shs) (a : Nat) (ha : a < n) : (par xs ys j n D).getD a 0 = Hyp.xsum D.length (fun s => Hyp.mul (coef xs ys j s) ((D.getD s []).getD a 0)) := by
  simp [par, List.getD_eq_getElem?_getD, ha]
/-- byte a of each shard is what its row says of the data -/
theorem allRows_byte (xs ys : List UInt8) (n : Nat) (D : Shs) (hD : D.length = xs.length) (s : Nat) (hs : s < xs.length + ys.length) (a : Nat) (ha : a < n) :
    ((allRows xs ys n D).getD s []).getD a 0 = Hyp.xsum xs.length (fun j => Hyp.mul (Hyp.gen xs.length (coef xs ys) s j) ((D.getD j []).getD a 0)) := by
  by_cases hk : s < xs.length
  · rw [allRows_data _ _ _ _ _ (by omega), Hyp.gen_unit xs.length (coef xs ys) s hk (fun j => (D.getD j []).getD a 0)]
  · obtain ⟨j, rfl⟩ : ∃ j, s = xs.length + j := ⟨s - xs.length, by omega⟩
    have h := allRows_par xs ys n D j (by omega)
    rw [hD] at h
    rw [h, par_getD _ _ _ _ _ _ ha, hD]
    refine Hyp.xsum_congr fun t ht => ?_
    unfold Hyp.gen
    rw [if_neg (by omega), Nat.add_sub_cancel_left]

/-- L is S, but for what is lost -/
structure Holes (L : Osh) (S : Shs) : Prop where
  len : L.length = S.length
  get : ∀ i, i < S.length → L.getD i none = none ∨ L.getD i none = some (S.getD i [])

theorem datRow_all (xs ys : List UInt8) (L : Osh) (from_ : List Nat) (R : Hyp.Mat) (n : Nat) (D : Shs) (hD : D.length = xs.length) (hlen : ∀ i, i < D.length → (D.getD i []).length = n)
    (hH : Holes L (allRows xs ys n D)) (hfr : ∀ x, x < xs.length → from_.getD x 0 < xs.length + ys.length ∧ L.getD (from_.getD x 0) none ≠ none) (hR : Turns xs ys from_ R) (t : Nat) (ht : t < xs.length) :
    datRow xs L from_ R n t = D.getD t [] := by
  have hal := allRows_length xs ys n D
  have h := hH.get t (by omega)
  rw [allRows_data _ _ _ _ _ (by omega)] at h
  unfold datRow
  rcases h with h | h
  · rw [h]
    have hl := hlen t (by omega)
    dsimp only
    apply List.ext_getElem
    · rw [List.length_map, List.length_range, hl]
    · intro a h1 h2
      have ha : a < n := by simpa using h1
      simp only [List.getElem_map, List.getElem_range]
      rw [Hyp.back xs.length (coef xs ys) from_ R (fun j => (D.getD j []).getD a 0) (fun s => (osh L s).getD a 0) hR ?_ t ht]
      · exact getD_lt _ _ _ h2
      · intro x hx
        obtain ⟨h3, h4⟩ := hfr x hx
        rw [← allRows_byte xs ys n D hD _ h3 a ha]
        rcases hH.get (from_.getD x 0) (by omega) with h5 | h5
        · exact absurd h5 h4
        · simp only [osh, h5, Option.getD_some]
  · rw [h]

theorem dat_all (xs ys : List UInt8) (L : Osh) (from_ : List Nat) (R : Hyp.Mat) (n : Nat) (D : Shs) (hD : D.length = xs.length) (hlen : ∀ i, i < D.length → (D.getD i []).length = n)
    (hH : Holes L (allRows xs ys n D)) (hfr : ∀ x, x < xs.length → from_.getD x 0 < xs.length + ys.length ∧ L.getD (from_.getD x 0) none ≠ none) (hR : Turns xs ys from_ R) :
    dat xs L from_ R n = D := by
  apply List.ext_getElem
  · rw [dat_length, hD]
  · intro t h1 h2
    have ht : t < xs.length := by omega
    have := datRow_all xs ys L from_ R n D hD hlen hH hfr hR t ht
    simp only [dat, List.getElem_map, List.getElem_range]
    rw [this]
    simp [List.getD_eq_getElem?_getD, h2]
/-- of data and parities, some of them lost, all come back -/
theorem dec_all (xs ys : List UInt8) (L : Osh) (from_ : List Nat) (R : Hyp.Mat) (n : Nat) (D : Shs) (hD : D.length = xs.length) (hlen : ∀ i, i < D.length → (D.getD i []).length = n)
    (hH : Holes L (allRows xs ys n D)) (hfr : ∀ x, x < xs.length → from_.getD x 0 < xs.length + ys.length ∧ L.getD (from_.getD x 0) none ≠ none) (hR : Turns xs ys from_ R) :
    dec xs ys L from_ R n = allRows xs ys n D := by
  unfold dec
  rw [dat_all xs ys L from_ R n D hD hlen hH hfr hR]
  unfold allRows decPars enc
  congr 1
  refine List.map_congr_left fun j hj => ?_
  have hjl := List.mem_range.1 hj
  unfold decPar
  have h1 := allRows_par xs ys n D j hjl
  have hal := allRows_length xs ys n D
  rw [hD] at h1
  rcases hH.get (xs.length + j) (by omega) with h | h
  · rw [h]
  · rw [h, h1]

/-- those that are there, one by one -/
theorem thereFrom_spec (L : Osh) : ∀ k, ∀ s, s ∈ thereFrom k L → k ≤ s ∧ s < k + L.length ∧ L.getD (s - k) none ≠ none := by
  induction L with
  | nil => intro k s h; simp [thereFrom] at h
  | cons x L ih =>
    intro k s h
    cases x with
    | none =>
      have h2 := ih (k + 1) s (by simpa [thereFrom] using h)
      refine ⟨by omega, by simp; omega, ?_⟩
      rw [show s - k = (s - (k + 1)) + 1 by omega]
      simpa using h2.2.2
    | some l =>
      have h3 : s = k ∨ s ∈ thereFrom (k + 1) L := by simpa [thereFrom] using h
      rcases h3 with rfl | h3
      · exact ⟨Nat.le_refl _, by simp, by simp⟩
      · have h2 := ih (k + 1) s h3
        refine ⟨by omega, by simp; omega, ?_⟩
        rw [show s - k = (s - (k + 1)) + 1 by omega]
        simpa using h2.2.2
theorem thereFrom_nodup (L : Osh) : ∀ k, (thereFrom k L).Nodup := by
  induction L with
  | nil => intro k; simp [thereFrom]
  | cons x L ih =>
    intro k
    cases x with
    | none => simpa [thereFrom] using ih (k + 1)
    | some l =>
      rw [thereFrom, List.nodup_cons]
      exact ⟨fun h => by have := (thereFrom_spec L (k + 1) k h).1; omega, ih (k + 1)⟩
theorem thereFrom_length (L : Osh) : ∀ k, (thereFrom k L).length = L.countP (fun x => x.isSome) := by
  induction L with
  | nil => intro k; simp [thereFrom]
  | cons x L ih =>
    intro k
    cases x with
    | none => simp [thereFrom, ih]
    | some l => simp [thereFrom, ih]
theorem thereFrom_take (L : Osh) (k : Nat) (hk : k ≤ (thereFrom 0 L).length) :
    ((thereFrom 0 L).take k).length = k ∧ ((thereFrom 0 L).take k).Nodup ∧ ∀ x, x < k → ((thereFrom 0 L).take k).getD x 0 < L.length ∧ L.getD (((thereFrom 0 L).take k).getD x 0) none ≠ none := by
  refine ⟨by simp; omega, (List.take_sublist _ _).nodup (thereFrom_nodup L 0), fun x hx => ?_⟩
  have hxl : x < ((thereFrom 0 L).take k).length := by simp; omega
  have hm : ((thereFrom 0 L).take k).getD x 0 ∈ thereFrom 0 L := by
    rw [getD_lt _ _ _ hxl]
    exact List.mem_of_mem_take (List.getElem_mem hxl)
  have := thereFrom_spec L 0 _ hm
  exact ⟨by omega, by simpa using this.2.2⟩

/-- the length of those that are there -/
theorem lenStep_none (L : Osh) : (∀ i, i < L.length → L.getD i none = none) → ∀ st, lenStep st L = some st := by
  induction L with
  | nil => intro _ st; cases st <;> rfl
  | cons x L ih =>
    intro h st
    have h0 := h 0 (by simp)
    simp at h0
    subst h0
    have := ih (fun i hi => by have := h (i + 1) (by simp; omega); simpa using this) st
    cases st <;> simpa [lenStep] using this
theorem lenStep_some (n : Nat) (L : Osh) : (∀ l, some l ∈ L → l.length = n) → lenStep (some n) L = some (some n) := by
  induction L with
  | nil => intro _; rfl
  | cons x L ih =>
    intro h
    have hr := ih (fun l hl => h l (List.mem_cons_of_mem _ hl))
    cases x with
    | none => simpa [lenStep] using hr
    | some l =>
      have hl := h l List.mem_cons_self
      simp [lenStep, hl, hr]
theorem lenStep_all (n : Nat) (L : Osh) : (∀ l, some l ∈ L → l.length = n) → lenStep none L = some none ∧ (∀ x, x ∈ L → x = none) ∨ lenStep none L = some (some n) := by
  induction L with
  | nil => intro _; exact .inl ⟨rfl, by simp⟩
  | cons x L ih =>
    intro h
    cases x with
    | none =>
      rcases ih (fun l hl => h l (List.mem_cons_of_mem _ hl)) with ⟨h1, h2⟩ | h1
      · exact .inl ⟨by simpa [lenStep] using h1, fun x hx => by
          rcases List.mem_cons.1 hx with rfl | hx
          · rfl
          · exact h2 x hx⟩
      · exact .inr (by simpa [lenStep] using h1)
    | some l =>
      have hl := h l List.mem_cons_self
      refine .inr ?_
      have := lenStep_some n L (fun l hl => h l (List.mem_cons_of_mem _ hl))
      simpa [lenStep, hl] using this
end Go.Proofs.Ytnfodhagfcjfpaa

/- (*Code).data. UNDER WAY. -/
namespace Go.Proofs.Ytnfodhagfcjfpaa
open Go.RowKit Go.Proofs.YtnfodhagfcjfpaaW.PrintWords Go.Proofs.YtnfodhagfcjfpaaW.PrintLast Go.Proofs.YtnfodhagfcjfpaaW.PrintMore
set_option linter.unusedVariables false
set_option linter.unusedSimpArgs false

theorem IK_F {w : World} {ok : Nat → Prop} {A : Option Addr} {n : Nat} {l : List Nat} (h : Kd.F IK w ok A n (natI l)) (hn : n = l.length) (k : Nat) (hk : k < n) :
    ∃ ad, A = some ad ∧ w.cell? (ad.add k) = some (.int .i64 ((l.getD k 0 : Nat) : Int)) ∧ ok ad.block := by
  obtain ⟨ad, rfl, hc⟩ := Kd.at_int (Kd.F_now h) (k : Int) (by omega) (by omega)
  refine ⟨ad, rfl, ?_, Kd.F_in h rfl (by omega) (by decide)⟩
  rw [Int.toNat_natCast] at hc
  rw [hc]
  congr 2
  show (natI l).getD k 0 = _
  unfold natI
  simp [List.getD_eq_getElem?_getD, show k < l.length by omega]

/-- a sum that is in the making: x summands, and of the next one the first q places -/
def upAt (F : Nat → Nat → UInt8) (x q n : Nat) : List UInt8 := (List.range n).map fun a => Hyp.xsum x (fun y => F y a) ^^^ (if a < q then F x a else 0)
theorem upAt_length (F : Nat → Nat → UInt8) (x q n : Nat) : (upAt F x q n).length = n := by simp [upAt]
theorem upAt_getD (F : Nat → Nat → UInt8) (x q n k : Nat) (hk : k < n) : (upAt F x q n).getD k 0 = Hyp.xsum x (fun y => F y k) ^^^ (if k < q then F x k else 0) := by
  simp [upAt, List.getD_eq_getElem?_getD, hk]
theorem upAt_start (F : Nat → Nat → UInt8) (n : Nat) : by8 (upAt F 0 0 n) = List.replicate n 0 := by
  apply List.ext_getElem
  · simp [by8_length, upAt_length]
  · intro k h1 h2
    simp [by8, upAt, Hyp.xsum]
theorem upAt_next (F : Nat → Nat → UInt8) (x n : Nat) : upAt F x n n = upAt F (x + 1) 0 n := by
  apply List.ext_getElem
  · simp [upAt_length]
  · intro k h1 h2
    have hk : k < n := by simpa [upAt_length] using h1
    simp [upAt, Hyp.xsum, hk]
theorem upAt_put (F : Nat → Nat → UInt8) (x q n : Nat) (hq : q < n) : (by8 (upAt F x q n)).set q ((((upAt F x q n).getD q 0) ^^^ F x q).toNat : Int) = by8 (upAt F x (q + 1) n) := by
  rw [upAt_getD _ _ _ _ _ hq, if_neg (Nat.lt_irrefl _), UInt8.xor_zero]
  apply List.ext_getElem
  · simp [by8_length, upAt_length]
  · intro k h1 h2
    have hk : k < n := by simpa [by8_length, upAt_length] using h1
    rw [List.getElem_set]
    by_cases h : q = k
    · subst h
      simp [by8, upAt]
    · rw [if_neg h]
      have e : (k < q + 1) ↔ (k < q) := by omega
      simp [by8, upAt, e]

/-- the rows of the first t values, each apart from the blocks that ok bars -/
def RowsAt (w : World) (base : Nat) (ok : Nat → Prop) (ps : List (Option Addr × Nat × Nat)) (row : Nat → List UInt8) (t : Nat) : Prop :=
  ∀ (j : Nat) (p : Option Addr × Nat × Nat), j < t → ps[j]? = some p → BK.R 5 w base ok (.slice p.1 p.2.1 p.2.2) (by8 (row j))
theorem RowsAt.k2 {f g base : Nat} {w w1 : World} {ps : List (Option Addr × Nat × Nat)} {row : Nat → List UInt8} {t : Nat} (h : RowsAt w base (· ≠ g) ps row t) (k : K2 f g w w1) (hf : f < base) : RowsAt w1 base (· ≠ g) ps row t :=
  fun j p hj hp => Kd.R_mono (Kd.R_step (Kd.R_bound (h j p hj hp)) (fun b hb hlt => k.block b hlt (by have := hb.2.1; omega) hb.1)) (fun _ hb => hb.1)
theorem RowsAt.put {base g : Nat} {w : World} {ps : List (Option Addr × Nat × Nat)} {row : Nat → List UInt8} {t : Nat} {p : Option Addr × Nat × Nat} (h : RowsAt w base (· ≠ g) ps row t) (hr : BK.R 5 w base (· ≠ g) (.slice p.1 p.2.1 p.2.2) (by8 (row t))) :
    RowsAt w base (· ≠ g) (ps.set t p) row (t + 1) := by
  intro j q hj hq
  rw [List.getElem?_set] at hq
  by_cases e : t = j
  · subst e
    rw [if_pos rfl] at hq
    split at hq
    · injection hq with hq
      subst hq
      exact hr
    · cases hq
  · rw [if_neg e] at hq
    exact h j q (by omega) hq
theorem R_k2 {α : Type} {d : Kd α} {e base f g : Nat} {ok : Nat → Prop} {w1 w2 : World} {v : Value} {xs : List α} (h : d.R e w1 base ok v xs) (hk : K2 f g w1 w2) (hf : f < base) (hg : ∀ b, ok b → b ≠ g) : d.R e w2 base ok v xs :=
  Kd.R_mono (Kd.R_step (Kd.R_bound h) (fun b hb hlt => hk.block b hlt (by have := hb.2.1; omega) (hg b hb.1))) (fun _ hb => hb.1)

theorem K2.grown {f g h : Nat} {a w w1 : World} (k : K2 f g a w) (hg : w.grownBy w1 (some h)) (hh : a.heap.size ≤ h) : K2 f g a w1 :=
  ⟨hg.os.trans k.os, hg.tape.trans k.tape, hg.output.trans k.output, Nat.le_trans k.size hg.size, fun i hi hf hgg => (hg.block i (Nat.lt_of_lt_of_le hi k.size) (fun e => by injection e with e; omega)).trans (k.block i hi hf hgg)⟩
theorem K2.new {f g h i : Nat} {a w : World} (k : K2 f g a w) (hh : a.heap.size ≤ h) (u : Value) : K2 f g a (w.setCell ⟨h, i, none⟩ u) :=
  ⟨k.os, k.tape, k.output, by simpa [World.setCell] using k.size, fun j hj hf hg => (Below.heap_setCell w ⟨h, i, none⟩ u j (fun e => by simp at e; omega)).trans (k.block j hj hf hg)⟩
theorem Fld.grown {f h : Nat} {w w1 : World} (k : Fld w f) (hg : w.grownBy w1 (some h)) (hh : f ≠ h) : Fld w1 f := by
  have e := hg.block f k.lt (fun e => hh (by injection e))
  rcases k with k | k
  · exact .inl (e.trans k)
  · exact .inr (e.trans k)

/-- copy onto a row of one's own that is as long -/
theorem copy_run {w : World} {base g cap m c : Nat} {ok : Nat → Prop} {xs ys : List Int} {A : Option Addr} (HO : BK.R 5 w base ok (.slice (some ⟨g, 0, none⟩) m cap) xs) (HR : BK.C w A m ys) :
    ∃ w1, (∀ ty, (Builtin.copy_ #[22, 22] ty #[.slice (some ⟨g, 0, none⟩) m cap, .slice A m c]).run Try.prog w = .ok (goInt ((m : Nat) : Int)) w1) ∧ BK.R 5 w1 base ok (.slice (some ⟨g, 0, none⟩) m cap) ys ∧ w.grownBy w1 (some g) := by
  have ht := Try.underlying22
  have hinfo : (Try.prog.info? 5).map (·.size) = some 1 := by
    have h := infoB
    cases hi : Try.prog.info? 5 with
    | none => rw [hi] at h; cases h
    | some i => rw [hi] at h; simp only [Option.map_some, Option.some.injEq, Prod.mk.injEq] at h ⊢; exact h.2.1
  have hR := Kd.reads_of_C (enc := Value.int .u8) (d := 0) (h1 := fun _ => rfl) HR
  have hm : ys.length = m := hR.1
  have hxm : m = xs.length := (Kd.R_reads' HO).1
  have hown := Kd.own_of_R HO
  have hok := HO.1
  rcases Nat.eq_zero_or_pos m with h0 | hp
  · subst h0
    have hy : ys = [] := List.eq_nil_of_length_eq_zero hm
    have hx : xs = [] := List.eq_nil_of_length_eq_zero hxm.symm
    refine ⟨w, ?_, by rw [hy, ← hx]; exact HO, World.grownBy.refl w _⟩
    exact fun ty => run_copy_none w 22 22 ty 5 _ A 0 cap 0 c ht hinfo (by simp)
  · obtain ⟨ad, hA, hc⟩ := hR.2.2 (by omega)
    rcases hown.2 with ⟨_, hx0⟩ | ⟨g', cap', cur, hv, hb, hh, hnc, hcm, hcs, htake⟩
    · omega
    injection hv with h1 h2 h3
    injection h1 with h1
    injection h1 with h1
    subst h1
    subst h3
    have hcs1 : cur.size = cap := by omega
    have hkl : (encs (Value.int .u8) ys).length = m := by rw [encs_length, hm]
    have hsrc : ∀ j u, (encs (Value.int .u8) ys)[j]? = some u → w.cell? (ad.add j) = some u := by
      intro j u hu
      have hj : j < ys.length := by
        rcases Nat.lt_or_ge j ys.length with h | h
        · exact h
        · rw [List.getElem?_eq_none (by rw [encs_length]; exact h)] at hu
          cases hu
      rw [encs_get (d := 0) _ j hj] at hu
      rw [hc j (by omega), ← hu]
    have hr := fun ty => run_copy_cells (P := Try.prog) w 22 22 ty 5 g 0 m cap ad m c (encs (Value.int .u8) ys) ht hinfo (by rw [hkl]; simp) hsrc
      (fun j hj => by rw [cell_of_row w g _ cur 5 (0, 0) hh]; simp; omega) (fun j _ => blk_frozen hh _) (by intro u hu; simp only [encs, List.mem_map] at hu; obtain ⟨q, _, rfl⟩ := hu; rfl)
    obtain ⟨cur', h3, h4, h5⟩ := setCells_row (encs (Value.int .u8) ys) 0 w cur hh (by rw [hkl]; omega)
    obtain ⟨s1, s2, s3, s4⟩ := setCells_same g (encs (Value.int .u8) ys) 0 w
    refine ⟨_, fun ty => by rw [hA, hr, hkl], Kd.R_of_own ?_ hok, ⟨s1, s2, s3, by rw [s4]; exact Nat.le_refl _, fun k _ hk => setCells_far _ _ k (fun he => hk (by rw [he]))⟩⟩
    rw [hm]
    refine ⟨by rw [encs_length, hm, Nat.mul_one], .inr ⟨g, cap, cur', rfl, hb, h3, by omega, hcm, by rw [h4, hcs], ?_⟩⟩
    rw [h5, List.take_zero, List.nil_append, hkl, Nat.zero_add, Nat.mul_one]
    rw [List.take_append_of_le_length (by rw [hkl]; exact Nat.le_refl _), List.take_of_length_le (by rw [hkl]; exact Nat.le_refl _)]

theorem SK_at {w : World} {base bo m cap t : Nat} {ok : Nat → Prop} {ps : List (Option Addr × Nat × Nat)} {p : Option Addr × Nat × Nat} (h : SK.R 22 w base ok (.slice (some ⟨bo, 0, none⟩) m cap) ps) (ht : ps[t]? = some p) :
    w.cell? ⟨bo, t, none⟩ = some (.slice p.1 p.2.1 p.2.2) ∧ w.frozen? ⟨bo, t, none⟩ = false := by
  have hm := (Kd.R_reads' h).1
  have hlt := (List.getElem?_eq_some_iff.1 ht).1
  have h2 := Kd.R_celln (none, 0, 0) h (t : Int) (by omega) (by omega)
  rw [Int.toNat_natCast] at h2
  refine ⟨h2.1.trans ?_, h2.2⟩
  unfold rdOf
  rw [Int.toNat_natCast, List.getD_eq_getElem?_getD, ht]
  rfl
theorem BK_at8 {w : World} {base g m cap q : Nat} {ok : Nat → Prop} {l : List UInt8} (h : BK.R 5 w base ok (.slice (some ⟨g, 0, none⟩) m cap) (by8 l)) (hq : q < m) :
    w.cell? ⟨g, q, none⟩ = some (.int .u8 ((l.getD q 0).toNat : Int)) ∧ w.frozen? ⟨g, q, none⟩ = false := by
  have h2 := Kd.R_celln 0 h (q : Int) (by omega) (by omega)
  rw [Int.toNat_natCast] at h2
  refine ⟨h2.1.trans ?_, h2.2⟩
  unfold rdOf
  rw [Int.toNat_natCast, by8_getD]
theorem R_own_form {w : World} {base B : Nat} {ok : Nat → Prop} {v : Value} {l : List Int} (h : BK.R 5 w base ok v l) (ho : ∃ b, v.ownBlock = some b ∧ B ≤ b) : ∃ g c, v = .slice (some ⟨g, 0, none⟩) l.length c ∧ B ≤ g ∧ g < w.heap.size := by
  obtain ⟨b, hb, hle⟩ := ho
  obtain ⟨ad, n, c, rfl⟩ := nonnil_of_own hb
  obtain ⟨g, rfl⟩ := Kd.R_head h
  have hn := (Kd.R_reads' h).1
  subst hn
  have hlt := Kd.R_lt h b hb
  simp [Value.ownBlock] at hb
  subst hb
  exact ⟨g, c, rfl, hle, hlt⟩

/-- what data leaves -/
def DataPost (f : Nat) (xs ys : List UInt8) (L : Osh) (from_ : List Nat) (n : Nat) (w : World) (e : Ending) (w' : World) : Prop :=
  ∃ v R, e = .returned v ∧ Turns xs ys from_ R ∧ LK.R 22 w' w.heap.size (fun _ => True) v (ll8 (dat xs L from_ R n)) ∧ Kf f w w' ∧ Fld w' f

set_option maxRecDepth 100000 in
set_option maxHeartbeats 8000000 in
theorem data_any (f cp : Nat) (xs ys : List UInt8) (n : Nat) (L : Osh) (from_ : List Nat) (A A2 : Option Addr) (c c2 : Nat) (w : World) (hc : CodeU w f cp xs ys) (hf : Fld w f) (hl : ys.length ≤ 14 ∧ xs.length ≤ 14) (hx : 1 ≤ xs.length)
    (hR : Shd w (· ≠ f) A L) (hLL : L.length = xs.length + ys.length) (hF : Kd.F IK w (· ≠ f) A2 from_.length (natI from_)) (hfl : from_.length = xs.length) (hfr : ∀ i, i < from_.length → from_.getD i 0 < xs.length + ys.length)
    (hlen : ∀ l, some l ∈ L → l.length = n) (hn : n ≤ 64) (hth : ∀ x, x < from_.length → L.getD (from_.getD x 0) none ≠ none)
    (hker : Hyp.trivKer xs.length (fun i j => Hyp.gen xs.length (coef xs ys) (from_.getD i 0) j)) :
    Calls Try.prog 102 #[.pointer (some ⟨cp, 0, none⟩), .slice A L.length c, .slice A2 from_.length c2, .int .i64 (n : Int)] w (DataPost f xs ys L from_ n w) := by
  obtain ⟨AX, cX, AY, cY, h0, h1, h2, _, _, hcpf⟩ := hc.open_
  have hfw := hf.lt
  have HC := Lib.hid hc
  have HF := Lib.hid hf
  have HR := Lib.hid hR
  have HFR := Lib.hid hF
  have HFL := Lib.hid hfl
  have HFX := Lib.hid hfr
  have hfb : from_.length ≤ 14 := by omega
  have hfk : from_.length ≤ xs.length := by omega
  have HLEN := Lib.hid hlen
  have HTH := Lib.hid hth
  have hLx : xs.length + ys.length ≤ L.length := by omega
  have hLy : L.length ≤ xs.length + ys.length := by omega
  clear hc hf hR hF hfl hfr hLL hlen hth
  have hq := fun (w : World) (a : Option Addr) (n c : Nat) => run_neq_nil (P := Try.prog) w 22 5 a n c Try.underlying22
  go_enter Try.func102, Try.ntmps102
  go_wp2
  go_loopw [10, 31] (fun v i wr => ∃ k : Nat, k ≤ from_.length ∧ i = .int .i64 k ∧ Hid (BK.R 5 wr w.heap.size (fun _ => True) v (by8 (genCells xs ys from_ k))) ∧ Hid (Kf f w wr) ∧ Hid (Fld wr f)) (fun _ i _ => from_.length - (intOf i).toNat)
  case atStart => exact ⟨0, Nat.zero_le _, rfl, Lib.hid (Kd.R_nil _ _ _ _ _), Lib.hid (Kf.refl _ _), HF⟩
  case round =>
    obtain ⟨k, hk, rfl, HO, HK, HFd⟩ := hrel
    by_cases hlt : k < from_.length
    · obtain ⟨af, rfl, hcf, hnf⟩ := IK_F (Kd.F_grown HFR.out HK.out (fun k hk e => hk (Option.some.inj e))) rfl k hlt
      obtain ⟨s, hs⟩ : ∃ s, s = from_.getD k 0 := ⟨_, rfl⟩
      have hsl := HFX.out k hlt
      rw [← hs] at hcf hsl
      have HS := Lib.hid hs
      clear hs
      go_wp2_with (first | (go_at_call 152; refine (codeRow_any f cp xs ys s _ (HC.out.keep HK.out) HFd.out (by omega) hsl).mono ?_; rintro e w2 ⟨v2, rfl, hv2, hk2, hf2⟩; have HV2 := Lib.hid hv2; have HK2 := Lib.hid hk2; have HF2 := Lib.hid hf2; obtain ⟨A3, c3, rfl, hl3, hr3⟩ := Kd.R_reads hv2; have HR3 := Lib.hid hr3; clear hv2 hk2 hf2 hr3) | ((with_reducible refine gate_builtin (b := .append) (xs := #[.tmp 35, .tmp 38]) rfl ?_); at_builtin; refine Kd.R_append_row (Value.int .u8) 0 (w0 := w2) w.heap.size rfl (.tmp 35) (.tmp 38) 22 5 (.int .u8 0) 1 rfl Try.underlying22 infoB rfl (by omega) u10 (by8 (genCells xs ys from_ k)) (by8 (genRow xs ys s)) A3 (by8 (genRow xs ys s)).length c3 (fun _ => True) rfl rfl (fun _ _ => trivial) (R_kf HO.out HK2.out hfw) HR3.out (Below.refl _ _) (Nat.le_trans HK.out.size HK2.out.size) ?c5 ?_))
      case c5 =>
        rw [by8_length, by8_length, genCells_length xs ys from_ k (by omega), genRow_length]
        have h1 : k * xs.length ≤ 14 * 14 := Nat.mul_le_mul (by have := HFL.out; omega) hl.2
        omega
      intro v1 w3 hv3 hb3 _ _
      have HV3 := Lib.hid (show BK.R 5 w3 w.heap.size (fun _ => True) v1 (by8 (genCells xs ys from_ (k + 1))) by rw [genCells_succ xs ys from_ k hlt, by8_append, ← HS.out]; exact hv3)
      have HK3 := Lib.hid ((HK.out.trans HK2.out).under hb3)
      have HF3 := Lib.hid (HF2.out.under hb3 hfw)
      clear hv3 hb3
      go_wp2
      go_roundw
      case rel => exact ⟨k + 1, by omega, by go_num, HV3, HK3, HF3⟩
      case measure => simp [intOf]; omega
    · obtain rfl : k = from_.length := by omega
      obtain ⟨M, hM⟩ : ∃ M : Hyp.Mat, M = fun i j => Hyp.gen xs.length (coef xs ys) (from_.getD i 0) j := ⟨_, rfl⟩
      have hcells : genCells xs ys from_ from_.length = Hyp.cellsOf xs.length M := by rw [hM]; exact genCells_done xs ys from_ HFL.out
      have HO1 := Lib.hid (show BK.R 5 wr w.heap.size (fun _ => True) u10 (by8 (Hyp.cellsOf xs.length M)) by rw [← hcells]; exact HO.out)
      have HMM := Lib.hid hM
      have HKER := Lib.hid (show Hyp.trivKer xs.length M by rw [hM]; exact hker)
      obtain ⟨A3, c3, rfl, hl3, hr3⟩ := Kd.R_reads HO1.out
      have hlen : (by8 (Hyp.cellsOf xs.length M)).length = xs.length * xs.length := by rw [by8_length, Hyp.cellsOf_length]
      rw [hlen] at hr3
      rw [hlen]
      have HR3 := Lib.hid hr3
      have k0 := HK.out.cell h0 hcpf
      clear hr3 hl3 hM hcells hlen HO
      go_wp2_with (first | (go_at_call 153; refine (matNew_any f xs.length M A3 c3 _ hx (by omega) HFd.out.lt HR3.out).mono ?_; rintro e w2 ⟨mp, g, rfl, hma, hmp, hg, hb2⟩; have HMA := Lib.hid hma; have HB2 := Lib.hid hb2; clear hma hb2))
      have HK2 := Lib.hid (HK.out.below HB2.out)
      have HF2 := Lib.hid (HFd.out.below HB2.out)
      refine (invert_any f mp g xs.length M w2 HMA.out HF2.out hx (by omega) HKER.out).mono ?_
      rintro e w3 ⟨mo, go, R, rfl, hmo, hf3, hk3, hinv⟩
      have HMO := Lib.hid hmo
      have HF3 := Lib.hid hf3
      have HK3 := Lib.hid (HK2.out.trans hk3)
      have HINV := Lib.hid hinv
      clear hmo hf3 hk3 hinv
      go_upto_region 11 with (first | ((with_reducible refine gate_dst (N := 58) rfl ?_); refine Kd.R_make SK (w0 := w3) w3.heap.size 22 rfl (N := 58) rfl 56 _ _ rfl (xs.length : Int) rfl rfl Try.underlying56 (.slice none 0 0) 24 infoBs rfl (by decide) (by omega) (none, 0, 0) (ok := fun _ => True) (okp := fun _ => True) rfl (fun _ hk => hk) trivial (by omega) (by omega) (Below.refl _ _) (Nat.le_refl _) ?_; intro v4 w4 ho4 hb4 hg4 hown4))
      have hl4 : (List.replicate ((xs.length : Nat) : Int).toNat ((none, 0, 0) : Option Addr × Nat × Nat)).length = xs.length := by simp
      obtain ⟨bo, c4, rfl, hbo, hbo4, _⟩ := Kd.R_form ho4 (by rw [hl4]; omega)
      have ho5 : SK.R 22 w4 w3.heap.size (· = bo) (.slice (some ⟨bo, 0, none⟩) xs.length c4) (List.replicate xs.length (none, 0, 0)) := by
        rw [hl4] at ho4
        exact Kd.R_of_own (Kd.own_of_R ho4) (fun k hk => by simp [Value.ownBlock] at hk; exact hk.symm)
      rw [hl4]
      have HO4 := Lib.hid ho5
      have HK4 := Lib.hid ((Kf.refl f w3).below hb4)
      have HF4 := Lib.hid (HF3.out.below hb4)
      have hfbo : f ≠ bo := by have := HF3.out.lt; omega
      have hf3 := HF3.out.lt
      clear ho4 ho5 hb4 hg4 hown4 hl4
      go_wp2
      go_loopw [61] (fun i wr => ∃ (t : Nat) (ps : List (Option Addr × Nat × Nat)), t ≤ xs.length ∧ i = .int .i64 t ∧ Hid (ps.length = xs.length) ∧ Hid (SK.R 22 wr w3.heap.size (· = bo) (.slice (some ⟨bo, 0, none⟩) xs.length c4) ps) ∧ Hid (RowsAt wr w3.heap.size (· ≠ bo) ps (datRow xs L from_ R n) t) ∧ Hid (Kf f w3 wr) ∧ Hid (Fld wr f)) (fun i _ => xs.length - (intOf i).toNat)
      case atStart => exact ⟨0, _, Nat.zero_le _, rfl, Lib.hid (by simp), HO4, Lib.hid (fun j p hj => absurd hj (Nat.not_lt_zero _)), HK4, HF4⟩
      case round =>
        obtain ⟨t, ps, ht, rfl, HPS, HOR, HRW, HKR, HFd⟩ := hrel
        by_cases hlt : t < xs.length
        · obtain ⟨wa, hwa⟩ : ∃ wa, wa = wr := ⟨_, rfl⟩
          subst hwa
          have hboR : bo < wa.heap.size := Kd.R_lt HOR.out bo (by simp [Value.ownBlock])
          have htL : t < L.length := by omega
          obtain ⟨p0, hp0⟩ : ∃ p, ps[t]? = some p := ⟨_, List.getElem?_eq_getElem (by have := HPS.out; omega)⟩
          obtain ⟨hst, hsf⟩ := SK_at HOR.out hp0
          obtain ⟨F, hF⟩ : ∃ F : Nat → Nat → UInt8, F = fun y a => Hyp.mul (R t y) ((osh L (from_.getD y 0)).getD a 0) := ⟨_, rfl⟩
          have HFF := Lib.hid hF
          clear hp0 hF
          go_upto_region 15 with (first | ((with_reducible refine gate_dst (N := 67) rfl ?_); go_loud (refine Kd.R_make BK (w0 := wa) wa.heap.size 5 rfl (N := 67) rfl 22 _ _ rfl (n : Int) rfl rfl Try.underlying22 (.int .u8 0) 1 infoB rfl (by decide) (by omega) 0 (ok := fun b => b ≠ bo) (okp := fun _ => False) rfl (fun _ hk => hk.elim) (by omega) (by omega) (by omega) (Below.refl _ _) (Nat.le_refl _) ?_; intro v5 w5 ho5 hb5 hg5 hown5; obtain ⟨g, c5, rfl, hgw, hg5b⟩ := R_own_form ho5 hown5; have hl5 : (List.replicate ((n : Nat) : Int).toNat (0 : Int)).length = n := (by simp); rw [hl5] at ho5 ⊢; have hst5 := (hb5.cell (p := ⟨bo, t, none⟩) hboR).trans hst; have hsf5 := (hb5.frozen (p := ⟨bo, t, none⟩) hboR).trans hsf; clear hown5 hg5 hl5 hst hsf)))
          obtain ⟨w6, hw6⟩ : ∃ w6, w6 = w5.setCell ⟨bo, t, none⟩ (.slice (some ⟨g, 0, none⟩) n c5) := ⟨_, rfl⟩
          have HS6 := Lib.hid (show SK.R 22 w6 w3.heap.size (· = bo) (.slice (some ⟨bo, 0, none⟩) xs.length c4) (ps.set t (some ⟨g, 0, none⟩, n, c5)) by
            have h := Kd.R_putn (Kd.R_below HOR.out hb5) ((t : Nat) : Int) (some ⟨g, 0, none⟩, n, c5)
            rw [Int.toNat_natCast] at h
            rw [hw6]; exact h)
          have HR6 := Lib.hid (show BK.R 5 w6 wa.heap.size (· ≠ bo) (.slice (some ⟨g, 0, none⟩) n c5) (by8 (upAt F 0 0 n)) by
            rw [hw6, upAt_start]
            exact Kd.R_far ho5 (p := ⟨bo, t, none⟩) (fun b hb => hb) _)
          have HK6 := Lib.hid (show K2 f bo wa w6 by rw [hw6]; exact (K2.of_kf ((Kf.refl f wa).below hb5)).put _)
          have HF6 := Lib.hid (show Fld w6 f by rw [hw6]; exact (HFd.out.below hb5).put hfbo _)
          have hgbo : g ≠ bo := by omega
          have hgf : g ≠ f := by have := HKR.out.size; omega
          rw [← hw6]
          clear hw6 ho5 hb5 hst5 hsf5 hg5b
          have HX6 := Lib.hid (HK3.out.trans (HK6.out.kf HKR.out hbo))
          have HPQ := Lib.hid (show (ps.set t (some ⟨g, 0, none⟩, n, c5))[t]? = some (some ⟨g, 0, none⟩, n, c5) by rw [List.getElem?_set, if_pos rfl, if_pos (by have := HPS.out; omega)])
          obtain ⟨ad, rfl, hok, hno, hsm⟩ := (HR.out.kf HX6.out).get t htL
          obtain ⟨x, hx⟩ : ∃ x, x = L.getD t none := ⟨_, rfl⟩
          rw [← hx] at hno hsm
          have HXL := Lib.hid hx
          clear hx
          cases x with
          | some l =>
            obtain ⟨A0, c0, h0, hl0, hF0⟩ := hsm l rfl
            have hln : l.length = n := HLEN.out l (by rw [HXL.out, getD_lt _ _ _ htL]; exact List.getElem_mem htL)
            rw [hln] at h0 hl0 hF0
            have HF0 := Lib.hid hF0
            obtain ⟨hs6, _⟩ := SK_at HS6.out HPQ.out
            clear hno hsm hln hF0
            go_upto_region 16 with (fail)
            refine start_ (n := 9) (S := fun w' => w'.cell? ⟨bo, t, none⟩ = some (.slice (some ⟨g, 0, none⟩) n c5) ∧ w'.cell? (ad.add t) = some (.slice (some A0) n c0)) (ds := [8]) #[false, false, false, false, false, false, false, false, false] (by kernel_rfl) rfl rfl ?hS (fun hHeld => ?_)
            case hS => exact ⟨hs6, h0⟩
            refine pure_ (i := 0) (N := some 74) (v := ?_) (a' := ?_) #[true, false, false, false, false, false, false, false, false] rfl rfl (by kernel_rfl) (fun _ _ _ h => h) (Or.inl ⟨by rfl, ?_⟩) ?_ ?_
            rotate_left
            · intro w'
              go_simp
              with_reducible rfl
            rotate_left
            · simp only [Act.put, List.setIfInBounds_toArray, List.set_cons_zero, List.set_cons_succ, i64_w, i32_w]
              rfl
            refine pure_ (i := 1) (N := some 75) (v := ?_) (a' := ?_) #[true, true, false, false, false, false, false, false, false] rfl rfl (by kernel_rfl) (fun _ _ _ h => h) (Or.inl ⟨by rfl, ?_⟩) ?_ ?_
            rotate_left
            · intro w'
              go_simp
              with_reducible rfl
            rotate_left
            · simp only [Act.put, List.setIfInBounds_toArray, List.set_cons_zero, List.set_cons_succ, i64_w, i32_w]
              rfl
            refine pure_ (i := 2) (N := some 76) (v := ?_) (a' := ?_) #[true, true, true, false, false, false, false, false, false] rfl rfl (by kernel_rfl) (fun _ _ _ h => h) (Or.inl ⟨by rfl, ?_⟩) ?_ ?_
            rotate_left
            · intro w'
              go_simp
              with_reducible rfl
            rotate_left
            · simp only [Act.put, List.setIfInBounds_toArray, List.set_cons_zero, List.set_cons_succ, i64_w, i32_w]
              rfl
            refine pure_ (i := 4) (N := some 78) (v := ?_) (a' := ?_) #[true, true, true, false, true, false, false, false, false] rfl rfl (by kernel_rfl) (fun _ _ _ h => h) (Or.inl ⟨by rfl, ?_⟩) ?_ ?_
            rotate_left
            · intro w'
              go_simp
              with_reducible rfl
            rotate_left
            · simp only [Act.put, List.setIfInBounds_toArray, List.set_cons_zero, List.set_cons_succ, i64_w, i32_w]
              rfl
            refine pure_ (i := 5) (N := some 79) (v := ?_) (a' := ?_) #[true, true, true, false, true, true, false, false, false] rfl rfl (by kernel_rfl) (fun _ _ _ h => h) (Or.inl ⟨by rfl, ?_⟩) ?_ ?_
            rotate_left
            · intro w'
              go_simp
              with_reducible rfl
            rotate_left
            · simp only [Act.put, List.setIfInBounds_toArray, List.set_cons_zero, List.set_cons_succ, i64_w, i32_w]
              rfl
            refine pure_ (i := 6) (N := some 80) (v := ?_) (a' := ?_) #[true, true, true, false, true, true, true, false, false] rfl rfl (by kernel_rfl) (fun _ _ _ h => h) (Or.inl ⟨by rfl, ?_⟩) ?_ ?_
            rotate_left
            · intro w'
              go_simp
              with_reducible rfl
            rotate_left
            · simp only [Act.put, List.setIfInBounds_toArray, List.set_cons_zero, List.set_cons_succ, i64_w, i32_w]
              rfl
            refine take_ (i := 3) (N := some 77) (v := ?_) (a' := ?_) #[true, true, true, true, true, true, true, false, false] rfl rfl (by kernel_rfl) (fun _ _ _ h => h) (Or.inl ⟨by rfl, ?_⟩) hHeld ?_ ?_
            rotate_left
            · rintro w' ⟨s0, s1⟩
              go_simp
              with_reducible rfl
            rotate_left
            · simp only [Act.put, List.setIfInBounds_toArray, List.set_cons_zero, List.set_cons_succ, i64_w, i32_w]
              rfl
            refine take_ (i := 7) (N := some 81) (v := ?_) (a' := ?_) #[true, true, true, true, true, true, true, true, false] rfl rfl (by kernel_rfl) (fun _ _ _ h => h) (Or.inl ⟨by rfl, ?_⟩) hHeld ?_ ?_
            rotate_left
            · rintro w' ⟨s0, s1⟩
              go_simp
              with_reducible rfl
            rotate_left
            · simp only [Act.put, List.setIfInBounds_toArray, List.set_cons_zero, List.set_cons_succ, i64_w, i32_w]
              rfl
            obtain ⟨w7, hrun, hr7, hg7⟩ := copy_run (A := some A0) (m := n) (c := c0) (Kd.R_drew HR6.out) (Kd.F_now (Kd.F_drew HF0.out))
            have HR7 := Lib.hid hr7
            have HG7 := Lib.hid hg7
            have HRUN := Lib.hid hrun
            clear hr7 hg7 hrun
            refine last_ (i := 8) (N := some 82) #[true, true, true, true, true, true, true, true, true] rfl rfl (by kernel_rfl) (by decide) (fun K hK => ?_)
            refine value_ (w1 := w7) (v := .int .i64 ((n : Nat) : Int)) (by rfl) rfl ?_ ?_
            · have hrun := HRUN.out
              simp [execOp, resolve, invoke, builtin, Act.eval, hrun]
              first | rfl | done
            refine hK.out _ _ ?_
            clear hK K
            refine norm_ (a' := ?_) ?_ ?_
            rotate_left
            · show Act.put _ (some 82) _ = _
              simp only [Act.put, List.setIfInBounds_toArray, List.set_cons_zero, List.set_cons_succ, i64_w, i32_w]
              rfl
            refine done_ (by kernel_rfl) ?_
            go_wp2
            go_roundw
            case rel =>
              have hrow : datRow xs L from_ R n t = l := by unfold datRow; rw [← HXL.out]
              have HK7 := HK6.out.drew.grown HG7.out hgw
              refine ⟨t + 1, ps.set t (some ⟨g, 0, none⟩, n, c5), by omega, by go_num, Lib.hid (by rw [List.length_set]; exact HPS.out), Lib.hid (Kd.R_grown (Kd.R_drew HS6.out) HG7.out (fun k hk e => hgbo (by injection e with e; omega))), Lib.hid ((HRW.out.k2 HK7 hf3).put (p := (some ⟨g, 0, none⟩, n, c5)) ?_), Lib.hid (HK7.kf HKR.out hbo), Lib.hid (Fld.grown (w := w6.drew) HF6.out HG7.out (fun e => hgf e.symm))⟩
              rw [hrow]
              exact Kd.R_lower HR7.out HKR.out.size
            case measure => simp [intOf]; omega
          | none =>
            have h0 := hno rfl
            clear hno hsm
            go_wp2
            go_loopw [85] (fun i wx => ∃ x : Nat, x ≤ from_.length ∧ i = .int .i64 x ∧ Hid (SK.R 22 wx w3.heap.size (· = bo) (.slice (some ⟨bo, 0, none⟩) xs.length c4) (ps.set t (some ⟨g, 0, none⟩, n, c5))) ∧ Hid (BK.R 5 wx wa.heap.size (· ≠ bo) (.slice (some ⟨g, 0, none⟩) n c5) (by8 (upAt F x 0 n))) ∧ Hid (K2 f bo wa wx) ∧ Hid (Fld wx f)) (fun i _ => from_.length - (intOf i).toNat)
            case atStart => exact ⟨0, Nat.zero_le _, rfl, HS6, HR6, HK6, HF6⟩
            case round =>
              obtain ⟨x, hxl, rfl, HSX, HRX, HKX, HFX2⟩ := hrel
              obtain ⟨wx, hwx⟩ : ∃ wx, wx = wr := ⟨_, rfl⟩
              subst hwx
              have HK3X := Lib.hid (HKX.out.kf HKR.out hbo)
              have HWX := Lib.hid (HK3.out.trans HK3X.out)
              by_cases hxlt : x < from_.length
              · obtain ⟨af, rfl, hcf, hnf⟩ := IK_F (Kd.F_grown HFR.out HWX.out (fun k hk e => hk (Option.some.inj e))) rfl x hxlt
                have hsl := HFX.out x hxlt
                have hsth := HTH.out x hxlt
                obtain ⟨s, hs⟩ : ∃ s, s = from_.getD x 0 := ⟨_, rfl⟩
                rw [← hs] at hcf hsl hsth
                have hsL : s < L.length := by omega
                obtain ⟨ls, hls⟩ : ∃ l, L.getD s none = some l := Option.ne_none_iff_exists'.1 hsth
                obtain ⟨ad2, he2, hok2, _, hsm2⟩ := HR.out.get s hsL
                cases he2
                obtain ⟨As, cs, hcs0, hlcs, hFs⟩ := hsm2 ls hls
                have hlsn : ls.length = n := HLEN.out ls (by rw [← hls, getD_lt _ _ _ hsL]; exact List.getElem_mem hsL)
                rw [hlsn] at hcs0 hlcs hFs
                have hcs := HWX.out.cell hcs0 (by rw [add_block]; exact hok2)
                have HFS := Lib.hid hFs
                have HLS := Lib.hid hls
                have HSE := Lib.hid hs
                obtain ⟨u, hu⟩ : ∃ u, u = R t x := ⟨_, rfl⟩
                have HU := Lib.hid hu
                clear hlsn hFs hls hs hsm2 hsth hcs0 hu
                go_wp2_with (first | (go_at_call 155; go_loud (refine (matAt_any (HMO.out.kf HK3X.out) t x _ _ rfl rfl (by omega) (by omega) (by omega)).mono ?_; rintro e w7 ⟨rfl, m7, rfl⟩; rw [← HU.out])))
                go_loopw [99] (fun i wq => ∃ q : Nat, q ≤ n ∧ i = .int .i64 q ∧ Hid (SK.R 22 wq w3.heap.size (· = bo) (.slice (some ⟨bo, 0, none⟩) xs.length c4) (ps.set t (some ⟨g, 0, none⟩, n, c5))) ∧ Hid (BK.R 5 wq wa.heap.size (· ≠ bo) (.slice (some ⟨g, 0, none⟩) n c5) (by8 (upAt F x q n))) ∧ Hid (K2 f bo wa wq) ∧ Hid (Fld wq f)) (fun i _ => n - (intOf i).toNat)
                case atStart => exact ⟨0, Nat.zero_le _, rfl, Lib.hid (Kd.R_drewN HSX.out _), Lib.hid (Kd.R_drewN HRX.out _), Lib.hid (HKX.out.drewN _), Lib.hid (HFX2.out.drewN _)⟩
                case round =>
                  obtain ⟨q, hq', rfl, HSQ, HRQ, HKQ, HFQ⟩ := hrel
                  obtain ⟨wq, hwq⟩ : ∃ wq, wq = wr := ⟨_, rfl⟩
                  subst hwq
                  have HWQ := Lib.hid (HK3.out.trans (HKQ.out.kf HKR.out hbo))
                  by_cases hlq : q < n
                  · obtain ⟨hg1, hg2⟩ := BK_at8 HRQ.out hlq
                    obtain ⟨hs1, _⟩ := SK_at HSQ.out HPQ.out
                    obtain ⟨ab, hab, hb, hnb⟩ := BK_F (Kd.F_grown HFS.out HWQ.out (fun k hk e => hk (Option.some.inj e))) q hlq
                    cases hab
                    rw [by8_getD] at hb
                    obtain ⟨b, hbe⟩ : ∃ b, b = ls.getD q 0 := ⟨_, rfl⟩
                    rw [← hbe] at hb
                    have HBE := Lib.hid hbe
                    obtain ⟨p, hpe⟩ : ∃ p, p = (upAt F x q n).getD q 0 := ⟨_, rfl⟩
                    rw [← hpe] at hg1
                    have HPE := Lib.hid hpe
                    obtain ⟨AX, cX, AY, cY, hc0', _, _, _, _, hcpf⟩ := (HC.out.keep HWQ.out).open_
                    obtain ⟨m, hm⟩ : ∃ m, m = Hyp.mul u b := ⟨_, rfl⟩
                    have HMF := Lib.hid (show m = F x q by
                      rw [hm, HFF.out, HU.out, HBE.out]
                      simp only [osh]
                      rw [← HSE.out, HLS.out]
                      rfl)
                    have hbx := bxor p m
                    have HM := Lib.hid hm
                    have hfwa : f < wa.heap.size := by have := HKR.out.size; omega
                    clear hbe hpe hm
                    go_upto_region 24 with (fail)
                    refine start_ (n := 17) (S := fun w' => w'.cell? ⟨bo, t, none⟩ = some (.slice (some ⟨g, 0, none⟩) n c5) ∧ w'.cell? ⟨g, q, none⟩ = some (.int .u8 (p.toNat : Int)) ∧ w'.cell? ⟨cp, 0, none⟩ = some (.pointer (some ⟨f, 0, none⟩))) (ds := [16]) #[false, false, false, false, false, false, false, false, false, false, false, false, false, false, false, false, false] (by kernel_rfl) rfl rfl ?hS (fun hHeld => ?_)
                    case hS => exact ⟨hs1, hg1, hc0'⟩
                    refine pure_ (i := 0) (N := some 104) (v := ?_) (a' := ?_) #[true, false, false, false, false, false, false, false, false, false, false, false, false, false, false, false, false] rfl rfl (by kernel_rfl) (fun _ _ _ h => h) (Or.inl ⟨by rfl, ?_⟩) ?_ ?_
                    rotate_left
                    · intro w'
                      go_simp
                      with_reducible rfl
                    rotate_left
                    · simp only [Act.put, List.setIfInBounds_toArray, List.set_cons_zero, List.set_cons_succ, i64_w, i32_w]
                      rfl
                    refine pure_ (i := 1) (N := some 105) (v := ?_) (a' := ?_) #[true, true, false, false, false, false, false, false, false, false, false, false, false, false, false, false, false] rfl rfl (by kernel_rfl) (fun _ _ _ h => h) (Or.inl ⟨by rfl, ?_⟩) ?_ ?_
                    rotate_left
                    · intro w'
                      go_simp
                      with_reducible rfl
                    rotate_left
                    · simp only [Act.put, List.setIfInBounds_toArray, List.set_cons_zero, List.set_cons_succ, i64_w, i32_w]
                      rfl
                    refine pure_ (i := 2) (N := some 106) (v := ?_) (a' := ?_) #[true, true, true, false, false, false, false, false, false, false, false, false, false, false, false, false, false] rfl rfl (by kernel_rfl) (fun _ _ _ h => h) (Or.inl ⟨by rfl, ?_⟩) ?_ ?_
                    rotate_left
                    · intro w'
                      go_simp
                      with_reducible rfl
                    rotate_left
                    · simp only [Act.put, List.setIfInBounds_toArray, List.set_cons_zero, List.set_cons_succ, i64_w, i32_w]
                      rfl
                    refine pure_ (i := 4) (N := some 108) (v := ?_) (a' := ?_) #[true, true, true, false, true, false, false, false, false, false, false, false, false, false, false, false, false] rfl rfl (by kernel_rfl) (fun _ _ _ h => h) (Or.inl ⟨by rfl, ?_⟩) ?_ ?_
                    rotate_left
                    · intro w'
                      go_simp
                      with_reducible rfl
                    rotate_left
                    · simp only [Act.put, List.setIfInBounds_toArray, List.set_cons_zero, List.set_cons_succ, i64_w, i32_w]
                      rfl
                    refine pure_ (i := 7) (N := some 111) (v := ?_) (a' := ?_) #[true, true, true, false, true, false, false, true, false, false, false, false, false, false, false, false, false] rfl rfl (by kernel_rfl) (fun _ _ _ h => h) (Or.inl ⟨by rfl, ?_⟩) ?_ ?_
                    rotate_left
                    · intro w'
                      go_simp
                      with_reducible rfl
                    rotate_left
                    · simp only [Act.put, List.setIfInBounds_toArray, List.set_cons_zero, List.set_cons_succ, i64_w, i32_w]
                      rfl
                    refine pure_ (i := 8) (N := some 112) (v := ?_) (a' := ?_) #[true, true, true, false, true, false, false, true, true, false, false, false, false, false, false, false, false] rfl rfl (by kernel_rfl) (fun _ _ _ h => h) (Or.inl ⟨by rfl, ?_⟩) ?_ ?_
                    rotate_left
                    · intro w'
                      go_simp
                      with_reducible rfl
                    rotate_left
                    · simp only [Act.put, List.setIfInBounds_toArray, List.set_cons_zero, List.set_cons_succ, i64_w, i32_w]
                      rfl
                    refine pure_ (i := 9) (N := some 113) (v := ?_) (a' := ?_) #[true, true, true, false, true, false, false, true, true, true, false, false, false, false, false, false, false] rfl rfl (by kernel_rfl) (fun _ _ _ h => h) (Or.inl ⟨by rfl, ?_⟩) ?_ ?_
                    rotate_left
                    · intro w'
                      go_simp
                      with_reducible rfl
                    rotate_left
                    · simp only [Act.put, List.setIfInBounds_toArray, List.set_cons_zero, List.set_cons_succ, i64_w, i32_w]
                      rfl
                    refine pure_ (i := 11) (N := some 115) (v := ?_) (a' := ?_) #[true, true, true, false, true, false, false, true, true, true, false, true, false, false, false, false, false] rfl rfl (by kernel_rfl) (fun _ _ _ h => h) (Or.inl ⟨by rfl, ?_⟩) ?_ ?_
                    rotate_left
                    · intro w'
                      go_simp
                      with_reducible rfl
                    rotate_left
                    · simp only [Act.put, List.setIfInBounds_toArray, List.set_cons_zero, List.set_cons_succ, i64_w, i32_w]
                      rfl
                    refine pure_ (i := 12) (N := some 116) (v := ?_) (a' := ?_) #[true, true, true, false, true, false, false, true, true, true, false, true, true, false, false, false, false] rfl rfl (by kernel_rfl) (fun _ _ _ h => h) (Or.inl ⟨by rfl, ?_⟩) ?_ ?_
                    rotate_left
                    · intro w'
                      go_simp
                      with_reducible rfl
                    rotate_left
                    · simp only [Act.put, List.setIfInBounds_toArray, List.set_cons_zero, List.set_cons_succ, i64_w, i32_w]
                      rfl
                    refine take_ (i := 3) (N := some 107) (v := ?_) (a' := ?_) #[true, true, true, true, true, false, false, true, true, true, false, true, true, false, false, false, false] rfl rfl (by kernel_rfl) (fun _ _ _ h => h) (Or.inl ⟨by rfl, ?_⟩) hHeld ?_ ?_
                    rotate_left
                    · rintro w' ⟨s0, s1, s2⟩
                      go_simp
                      with_reducible rfl
                    rotate_left
                    · simp only [Act.put, List.setIfInBounds_toArray, List.set_cons_zero, List.set_cons_succ, i64_w, i32_w]
                      rfl
                    refine pure_ (i := 5) (N := some 109) (v := ?_) (a' := ?_) #[true, true, true, true, true, true, false, true, true, true, false, true, true, false, false, false, false] rfl rfl (by kernel_rfl) (fun _ _ _ h => h) (Or.inl ⟨by rfl, ?_⟩) ?_ ?_
                    rotate_left
                    · intro w'
                      go_simp
                      with_reducible rfl
                    rotate_left
                    · simp only [Act.put, List.setIfInBounds_toArray, List.set_cons_zero, List.set_cons_succ, i64_w, i32_w]
                      rfl
                    refine take_ (i := 6) (N := some 110) (v := ?_) (a' := ?_) #[true, true, true, true, true, true, true, true, true, true, false, true, true, false, false, false, false] rfl rfl (by kernel_rfl) (fun _ _ _ h => h) (Or.inl ⟨by rfl, ?_⟩) hHeld ?_ ?_
                    rotate_left
                    · rintro w' ⟨s0, s1, s2⟩
                      go_simp
                      with_reducible rfl
                    rotate_left
                    · simp only [Act.put, List.setIfInBounds_toArray, List.set_cons_zero, List.set_cons_succ, i64_w, i32_w]
                      rfl
                    refine take_ (i := 10) (N := some 114) (v := ?_) (a' := ?_) #[true, true, true, true, true, true, true, true, true, true, true, true, true, false, false, false, false] rfl rfl (by kernel_rfl) (fun _ _ _ h => h) (Or.inl ⟨by rfl, ?_⟩) hHeld ?_ ?_
                    rotate_left
                    · rintro w' ⟨s0, s1, s2⟩
                      go_simp
                      with_reducible rfl
                    rotate_left
                    · simp only [Act.put, List.setIfInBounds_toArray, List.set_cons_zero, List.set_cons_succ, i64_w, i32_w]
                      rfl
                    refine one_ (i := 13) (N := some 117) #[true, true, true, true, true, true, true, true, true, true, true, true, true, true, false, false, false] rfl rfl (by kernel_rfl) (by decide) (fun K hK => ?_)
                    refine goes_ Try.func123 (by kernel_rfl) rfl #[.pointer (some ⟨f, 0, none⟩), .int .u8 (u.toNat : Int), .int .u8 (b.toNat : Int)] (by rfl) rfl rfl (by (try simp only [List.map_toArray, List.map_cons, List.map_nil]); first | done | rfl) ?_
                    refine (mul_any f u b _ (show Fld wq.drew f from HFQ.out)).mono ?_
                    rintro e w8 ⟨rfl, hk8, hf8⟩
                    rw [← HM.out]
                    have HKF8 := Lib.hid hk8
                    have HF8 := Lib.hid hf8
                    have HK8 := Lib.hid (HKQ.out.drew.trans (K2.of_kf hk8))
                    have HR8 := Lib.hid (R_kf (Kd.R_drew HRQ.out) hk8 hfwa)
                    have HS8 := Lib.hid (R_kf (Kd.R_drew HSQ.out) hk8 hf3)
                    have hz8 : w8.frozen? ⟨g, q, none⟩ = false := (Kf.frz hk8 hgf hg1).trans hg2
                    clear hk8 hf8
                    refine ⟨_, rfl, ?_⟩
                    refine hK.out _ _ (⟨HKF8.out.cell hHeld.1 (fun e => hfbo e.symm), HKF8.out.cell hHeld.2.1 hgf, HKF8.out.cell hHeld.2.2 hcpf⟩) (fun hHeld => ?_)
                    clear hK K
                    refine norm_ (a' := ?_) ?_ ?_
                    rotate_left
                    · show Act.put _ (some 117) _ = _
                      simp only [Act.put, List.setIfInBounds_toArray, List.set_cons_zero, List.set_cons_succ, i64_w, i32_w]
                      rfl
                    refine pure_ (i := 14) (N := some 118) (v := ?_) (a' := ?_) #[true, true, true, true, true, true, true, true, true, true, true, true, true, true, true, false, false] rfl rfl (by kernel_rfl) (fun _ _ _ h => h) (Or.inl ⟨by rfl, ?_⟩) ?_ ?_
                    rotate_left
                    · intro w'
                      go_simp
                      with_reducible rfl
                    rotate_left
                    · simp only [Act.put, List.setIfInBounds_toArray, List.set_cons_zero, List.set_cons_succ, i64_w, i32_w]
                      rfl
                    refine pure_ (i := 15) (N := some 119) (v := ?_) (a' := ?_) #[true, true, true, true, true, true, true, true, true, true, true, true, true, true, true, true, false] rfl rfl (by kernel_rfl) (fun _ _ _ h => h) (Or.inl ⟨by rfl, ?_⟩) ?_ ?_
                    rotate_left
                    · intro w'
                      go_simp
                      with_reducible rfl
                    rotate_left
                    · simp only [Act.put, List.setIfInBounds_toArray, List.set_cons_zero, List.set_cons_succ, i64_w, i32_w]
                      rfl
                    refine last_ (i := 16) (N := none) #[true, true, true, true, true, true, true, true, true, true, true, true, true, true, true, true, true] rfl rfl (by kernel_rfl) (by decide) (fun K hK => ?_)
                    refine skip_ (w1 := ?_) (by rfl) rfl ?_ ?_
                    rotate_left
                    · go_simp
                      rfl
                    refine hK.out _ _ ?_
                    clear hK K
                    refine done_ (by kernel_rfl) ?_
                    go_wp2
                    go_roundw
                    case rel =>
                      refine ⟨q + 1, by omega, by go_num, Lib.hid (Kd.R_far HS8.out (p := ⟨g, q, none⟩) (fun b hb => ?_) _), Lib.hid ?_, Lib.hid (HK8.out.new hgw _), Lib.hid (HF8.out.put (fun e => hgf e.symm) _)⟩
                      · show b ≠ g
                        omega
                      · have h1 := Kd.R_putn HR8.out ((q : Nat) : Int) ((p ^^^ m).toNat : Int)
                        have h2 := upAt_put F x q n hlq
                        rw [← HPE.out, ← HMF.out] at h2
                        rw [Int.toNat_natCast, h2] at h1
                        exact h1
                    case measure => simp [intOf]; omega
                  · have HON := Lib.hid (show BK.R 5 wq wa.heap.size (· ≠ bo) (.slice (some ⟨g, 0, none⟩) n c5) (by8 (upAt F (x + 1) 0 n)) by
                      rw [← upAt_next]
                      have h := HRQ.out
                      rwa [show q = n by omega] at h)
                    go_wp2
                    go_roundw
                    case rel => exact ⟨x + 1, by omega, by go_num, HSQ, HON, HKQ, HFQ⟩
                    case measure => simp [intOf]; omega
              · have HRE := Lib.hid (show BK.R 5 wx wa.heap.size (· ≠ bo) (.slice (some ⟨g, 0, none⟩) n c5) (by8 (datRow xs L from_ R n t)) by
                  have h := HRX.out
                  have e : upAt F x 0 n = datRow xs L from_ R n t := by
                    unfold datRow upAt
                    rw [← HXL.out, show x = xs.length by have := HFL.out; omega, HFF.out]
                    simp
                  rwa [e] at h)
                go_wp2
                go_roundw
                case rel =>
                  exact ⟨t + 1, ps.set t (some ⟨g, 0, none⟩, n, c5), by omega, by go_num, Lib.hid (by rw [List.length_set]; exact HPS.out), HSX, Lib.hid ((HRW.out.k2 HKX.out hf3).put (p := (some ⟨g, 0, none⟩, n, c5)) (Kd.R_lower HRE.out HKR.out.size)), HK3X, HFX2⟩
                case measure => simp [intOf]; omega
        · go_wp2
          go_ret
          refine ⟨_, R, rfl, fun v i hi => ?_, ?_, HK3.out.trans HKR.out, HFd.out⟩
          · have h := HINV.out v i hi
            rwa [HMM.out] at h
          · refine Kd.R_lower (SK_join (Kd.R_mono HOR.out (fun _ _ => trivial)) (by rw [ll8_length, dat_length]; exact HPS.out.symm) (fun j p l hp hl => ?_)) HK3.out.size
            have hjl : j < xs.length := by have := (List.getElem?_eq_some_iff.1 hp).1; have := HPS.out; omega
            have hrow := HRW.out j p (by omega) hp
            have e : l = by8 (datRow xs L from_ R n j) := by
              simp [ll8, dat, hjl] at hl
              exact hl.symm
            rw [e]
            exact Kd.R_mono hrow (fun b hb e => hb (by simpa [Value.ownBlock] using e))
end Go.Proofs.Ytnfodhagfcjfpaa

/- (*Code).Decode. -/
namespace Go.Proofs.Ytnfodhagfcjfpaa
open Go.RowKit Go.Proofs.YtnfodhagfcjfpaaW.PrintWords Go.Proofs.YtnfodhagfcjfpaaW.PrintLast Go.Proofs.YtnfodhagfcjfpaaW.PrintMore
set_option linter.unusedVariables false
set_option linter.unusedSimpArgs false

theorem R_F {α : Type} {d : Kd α} {e base : Nat} {w : World} {ok : Nat → Prop} {A : Option Addr} {n c : Nat} {xs : List α} (h : d.R e w base ok (.slice A n c) xs) : Kd.F d w (fun b => ok b ∧ base ≤ b) A n xs :=
  Kd.N_F (Kd.R_N (Kd.R_mono (Kd.R_bound h) (fun b hb => ⟨hb.1, hb.2.1⟩)))

/-- the data's rows, beside the row that is appended to: its head, or apart from it -/
def DIn (w : World) (f : Nat) (A : Option Addr) (k : Nat) (v : Value) (D : Shs) : Prop :=
  (∃ n c, v = .slice A n c) ∨ Kd.F LK w (fun b => b ≠ f ∧ some b ≠ v.ownBlock) A k (ll8 D)
theorem DIn.F {w : World} {f k base : Nat} {A : Option Addr} {v : Value} {D E : Shs} (h : DIn w f A k v D) (hr : LK.R 22 w base (fun _ => True) v (ll8 (D ++ E))) (hD : D.length = k) (hf : f < base) : Kd.F LK w (· ≠ f) A k (ll8 D) := by
  rcases h with ⟨n, c, rfl⟩ | h
  · have h2 := R_F (Kd.R_take (m := k) hr (by rw [ll8_length, List.length_append]; omega))
    rw [ll8_append, List.take_left' (by rw [ll8_length, hD])] at h2
    exact Kd.F_mono h2 (fun b hb => by have := hb.2; omega)
  · exact Kd.F_mono h (fun b hb => hb.1)
theorem DIn.kf {w w1 : World} {f k : Nat} {A : Option Addr} {v : Value} {D : Shs} (h : DIn w f A k v D) (hk : Kf f w w1) : DIn w1 f A k v D := by
  rcases h with h | h
  · exact .inl h
  · exact .inr (Kd.F_grown h hk (fun b hb e => hb.1 (Option.some.inj e)))
theorem DIn.append {W w1 : World} {o : Obj} {f k m base : Nat} {A : Option Addr} {v v1 : Value} {D E : Shs} (h : DIn W f A k v D) (hr : LK.R 22 W base (fun _ => True) v (ll8 (D ++ E))) (hD : D.length = k) (hf : f < base) (hg : Grew (W.alloc o) w1 v v1 m) : DIn w1 f A k v1 D := by
  have hF := Kd.F_bound (h.F hr hD hf)
  rcases hg with ⟨g, n, c, rfl, rfl, hg⟩ | ⟨hg, hv⟩ | ⟨rfl, rfl, rfl⟩
  · rcases h with ⟨n', c', e⟩ | h
    · injection e with e _ _
      exact .inl ⟨_, _, by rw [← e]⟩
    · exact .inr (Kd.F_grown (Kd.F_alloc h o) hg (fun b hb => hb.2))
  · refine .inr (Kd.F_mono (Kd.F_grown (Kd.F_alloc hF o) hg (fun b hb => by simp)) (fun b hb => ⟨hb.1, ?_⟩))
    rw [hv]
    intro e
    injection e with e
    have := hb.2
    simp at e
    omega
  · rcases h with h | h
    · exact .inl h
    · exact .inr (Kd.F_alloc h o)

theorem parity_len (f cp : Nat) (xs ys : List UInt8) (j n m : Nat) (D : Shs) (A : Option Addr) (c : Nat) (w : World) (hm : D.length = m) (hc : CodeU w f cp xs ys) (hf : Fld w f) (hl : ys.length ≤ 255 ∧ xs.length ≤ 255) (hj : j < ys.length)
    (hL : D.length ≤ xs.length) (hlen : ∀ i, i < D.length → (D.getD i []).length = n) (hn : n ≤ 64) (hR : Kd.F LK w (· ≠ f) A m (ll8 D)) :
    Calls Try.prog 87 #[.pointer (some ⟨cp, 0, none⟩), .int .i64 (j : Int), .int .i64 (n : Int), .slice A m c] w fun e w' => ∃ v, e = .returned v ∧ BK.R 5 w' w.heap.size (fun _ => True) v (by8 (par xs ys j n D)) ∧ Kf f w w' ∧ Fld w' f := by
  subst hm
  exact parity_any f cp xs ys j n D A c w hc hf hl hj hL hlen hn hR
theorem data_len (f cp : Nat) (xs ys : List UInt8) (n m : Nat) (L : Osh) (from_ : List Nat) (A A2 : Option Addr) (c c2 : Nat) (w : World) (hm : from_.length = m) (hc : CodeU w f cp xs ys) (hf : Fld w f) (hl : ys.length ≤ 14 ∧ xs.length ≤ 14) (hx : 1 ≤ xs.length)
    (hR : Shd w (· ≠ f) A L) (hLL : L.length = xs.length + ys.length) (hF : Kd.F IK w (· ≠ f) A2 m (natI from_)) (hfl : from_.length = xs.length) (hfr : ∀ i, i < from_.length → from_.getD i 0 < xs.length + ys.length)
    (hlen : ∀ l, some l ∈ L → l.length = n) (hn : n ≤ 64) (hth : ∀ x, x < from_.length → L.getD (from_.getD x 0) none ≠ none)
    (hker : Hyp.trivKer xs.length (fun i j => Hyp.gen xs.length (coef xs ys) (from_.getD i 0) j)) :
    Calls Try.prog 102 #[.pointer (some ⟨cp, 0, none⟩), .slice A L.length c, .slice A2 m c2, .int .i64 (n : Int)] w (DataPost f xs ys L from_ n w) := by
  subst hm
  exact data_any f cp xs ys n L from_ A A2 c c2 w hc hf hl hx hR hLL hF hfl hfr hlen hn hth hker

/-- the code's bytes are unlike -/
def Unlike (xs ys : List UInt8) : Prop := (xs ++ ys).Nodup
theorem unlike_ker {xs ys : List UInt8} (h : Unlike xs ys) (from_ : List Nat) (hlen : from_.length = xs.length) (hn : from_.Nodup) (hlt : ∀ s, s ∈ from_ → s < xs.length + ys.length) :
    Hyp.trivKer xs.length (fun i j => Hyp.gen xs.length (coef xs ys) (from_.getD i 0) j) := by
  obtain ⟨hx, hy, hxy⟩ := List.nodup_append.1 h
  have inj : ∀ (l : List UInt8), l.Nodup → ∀ i, i < l.length → ∀ j, j < l.length → l.getD i 0 = l.getD j 0 → i = j := by
    intro l hl i hi j hj e
    rw [getD_lt _ _ _ hi, getD_lt _ _ _ hj] at e
    exact (List.getElem_inj hl).1 e
  refine Hyp.gen_ker xs.length (fun i => xs.getD i 0) (fun j => ys.getD j 0) ys.length from_ hlen hn hlt (fun i hi j hj e => ?_) (inj xs hx) (inj ys hy)
  rw [getD_lt _ _ _ hi, getD_lt _ _ _ hj] at e
  exact hxy _ (List.getElem_mem hi) _ (List.getElem_mem hj) e.symm

/-- what Decode leaves, where it tells all -/
def DecPost (f : Nat) (xs ys : List UInt8) (L : Osh) (n : Nat) (w : World) (e : Ending) (w' : World) : Prop :=
  ∃ v R, e = .returned (.tuple #[v, .int .i64 0]) ∧ Turns xs ys ((thereFrom 0 L).take xs.length) R ∧ LK.R 22 w' w.heap.size (fun _ => True) v (ll8 (dec xs ys L ((thereFrom 0 L).take xs.length) R n)) ∧ Kf f w w' ∧ Fld w' f
def DecNo (f : Nat) (c : Int) (w : World) (e : Ending) (w' : World) : Prop := e = .returned (.tuple #[.slice none 0 0, .int .i64 c]) ∧ Kf f w w' ∧ Fld w' f

theorem longRes_form (o : Option (Option Nat)) : ∃ m b, longRes o = .tuple #[.int .i64 m, .bool b] := by
  rcases o with _ | _ | m
  · exact ⟨_, _, rfl⟩
  · exact ⟨_, _, rfl⟩
  · exact ⟨_, _, rfl⟩

set_option maxRecDepth 100000 in
set_option maxHeartbeats 4000000 in
/-- shards of another number, or not alike -/
theorem decode_arg (f cp : Nat) (xs ys : List UInt8) (L : Osh) (A : Option Addr) (c : Nat) (w : World) (hc : CodeU w f cp xs ys) (hf : Fld w f) (hl : ys.length ≤ 14 ∧ xs.length ≤ 14)
    (hR : Shd w (· ≠ f) A L) (hL : L.length ≤ 100) (hb : ∀ l, some l ∈ L → l.length ≤ 1000) (h : L.length ≠ xs.length + ys.length ∨ ∃ m, longRes (lenStep none L) = .tuple #[.int .i64 m, .bool false]) :
    Calls Try.prog 50 #[.pointer (some ⟨cp, 0, none⟩), .slice A L.length c] w (DecNo f 1 w) := by
  have HC := Lib.hid hc
  have HF := Lib.hid hf
  have HR := Lib.hid hR
  have HB := Lib.hid hb
  clear hc hf hR hb
  by_cases hk : L.length = xs.length + ys.length
  · obtain ⟨m, hm⟩ := h.resolve_left (fun hh => hh hk)
    have HM := Lib.hid hm
    have b1 : ((L.length : Int) != (xs.length : Int) + (ys.length : Int)) = false := by rw [bne_eq_false_iff_eq]; omega
    clear hm h hk
    go_enter Try.func50, Try.ntmps50
    go_wp2_with (first | (go_at_call 53; go_loud (refine (size_num f cp xs ys _ _ _ rfl rfl HC.out).mono ?_; rintro e w1 ⟨rfl, n1, rfl⟩)) | (go_at_call 100; go_loud (refine (long_any A c L (· ≠ f) _ (HR.out.kf ((Kf.refl f w).drewN _)) hL HB.out).mono ?_; rintro e w1 ⟨rfl, rfl⟩; rw [HM.out])))
    go_ret2
    exact ⟨rfl, (Kf.refl f w).drewN _, HF.out.drewN _⟩
  · obtain ⟨m, b, hm⟩ := longRes_form (lenStep none L)
    have HM := Lib.hid hm
    have b1 : ((L.length : Int) != (xs.length : Int) + (ys.length : Int)) = true := by rw [bne_iff_ne]; omega
    clear hm h hk
    go_enter Try.func50, Try.ntmps50
    go_wp2_with (first | (go_at_call 53; go_loud (refine (size_num f cp xs ys _ _ _ rfl rfl HC.out).mono ?_; rintro e w1 ⟨rfl, n1, rfl⟩)) | (go_at_call 100; go_loud (refine (long_any A c L (· ≠ f) _ (HR.out.kf ((Kf.refl f w).drewN _)) hL HB.out).mono ?_; rintro e w1 ⟨rfl, rfl⟩; rw [HM.out])))
    go_ret2
    exact ⟨rfl, (Kf.refl f w).drewN _, HF.out.drewN _⟩

set_option maxRecDepth 100000 in
set_option maxHeartbeats 4000000 in
/-- too few are there -/
theorem decode_lost (f cp : Nat) (xs ys : List UInt8) (L : Osh) (A : Option Addr) (c : Nat) (w : World) (hc : CodeU w f cp xs ys) (hf : Fld w f) (hl : ys.length ≤ 14 ∧ xs.length ≤ 14)
    (hR : Shd w (· ≠ f) A L) (hL : L.length = xs.length + ys.length) (hb : ∀ l, some l ∈ L → l.length ≤ 1000) (m : Int) (hm : longRes (lenStep none L) = .tuple #[.int .i64 m, .bool true]) (hth : (thereFrom 0 L).length < xs.length) :
    Calls Try.prog 50 #[.pointer (some ⟨cp, 0, none⟩), .slice A L.length c] w (DecNo f 3 w) := by
  have HC := Lib.hid hc
  have HF := Lib.hid hf
  have HR := Lib.hid hR
  have HB := Lib.hid hb
  have HM := Lib.hid hm
  have hL1 : L.length ≤ 100 := by omega
  have b1 : ((L.length : Int) != (xs.length : Int) + (ys.length : Int)) = false := by rw [bne_eq_false_iff_eq]; omega
  have hnl : (natI (thereFrom 0 L)).length = (thereFrom 0 L).length := by simp [natI]
  obtain ⟨T, hT⟩ : ∃ T, T = thereFrom 0 L := ⟨_, rfl⟩
  rw [← hT] at hnl hth
  have HT := Lib.hid hT
  have HNL := Lib.hid hnl
  have hfl := HF.out.lt
  clear hc hf hR hb hm hL hT hnl
  go_enter Try.func50, Try.ntmps50
  go_wp2_with (first | (go_at_call 53; go_loud (refine (size_num f cp xs ys _ _ _ rfl rfl HC.out).mono ?_; rintro e w1 ⟨rfl, n1, rfl⟩)) | (go_at_call 100; go_loud (refine (long_any A c L (· ≠ f) _ (HR.out.kf ((Kf.refl f w).drewN _)) hL1 HB.out).mono ?_; rintro e w1 ⟨rfl, rfl⟩; rw [HM.out])) | (go_at_call 101; go_loud (refine (there_any A c L f (w.drewN n1) hfl (HR.out.kf ((Kf.refl f w).drewN _)) hL1).mono ?_; rintro e w1 ⟨v, rfl, hv, hb1⟩; obtain ⟨A3, c3, rfl, _, _⟩ := Kd.R_reads hv; have HB1 := Lib.hid hb1; rw [← HT.out, HNL.out]; clear hv hb1)))
  go_ret2
  exact ⟨rfl, ((Kf.refl f w).drewN _).below HB1.out, Fld.below (w := w.drewN n1) HF.out HB1.out⟩
end Go.Proofs.Ytnfodhagfcjfpaa

/- (*Code).Decode, where it tells all. -/
namespace Go.Proofs.Ytnfodhagfcjfpaa
open Go.RowKit Go.Proofs.YtnfodhagfcjfpaaW.PrintWords Go.Proofs.YtnfodhagfcjfpaaW.PrintLast Go.Proofs.YtnfodhagfcjfpaaW.PrintMore
set_option linter.unusedVariables false
set_option linter.unusedSimpArgs false

theorem natI_take (l : List Nat) (k : Nat) : (natI l).take k = natI (l.take k) := by simp [natI, List.map_take]
theorem natI_length (l : List Nat) : (natI l).length = l.length := by simp [natI]

set_option maxRecDepth 100000 in
set_option maxHeartbeats 8000000 in
theorem decode_any (f cp : Nat) (xs ys : List UInt8) (n : Nat) (L : Osh) (A : Option Addr) (c : Nat) (w : World) (hc : CodeU w f cp xs ys) (hf : Fld w f) (hl : ys.length ≤ 14 ∧ xs.length ≤ 14) (hx : 1 ≤ xs.length) (hu : Unlike xs ys)
    (hR : Shd w (· ≠ f) A L) (hL : L.length = xs.length + ys.length) (hlen : ∀ l, some l ∈ L → l.length = n) (hn : n ≤ 64) (hm : longRes (lenStep none L) = .tuple #[.int .i64 (n : Int), .bool true]) (hth : xs.length ≤ (thereFrom 0 L).length) :
    Calls Try.prog 50 #[.pointer (some ⟨cp, 0, none⟩), .slice A L.length c] w (DecPost f xs ys L n w) := by
  have HC := Lib.hid hc
  have HF := Lib.hid hf
  have HR := Lib.hid hR
  have HLEN := Lib.hid hlen
  have HB := Lib.hid (show ∀ l, some l ∈ L → l.length ≤ 1000 from fun l hl => by rw [hlen l hl]; omega)
  have HM := Lib.hid hm
  have HL := Lib.hid hL
  have hL1 : L.length ≤ 100 := by omega
  have hLx : xs.length + ys.length ≤ L.length := by omega
  have b1 : ((L.length : Int) != (xs.length : Int) + (ys.length : Int)) = false := by rw [bne_eq_false_iff_eq]; omega
  have hnl := natI_length (thereFrom 0 L)
  obtain ⟨ht1, ht2, ht3⟩ := thereFrom_take L xs.length hth
  have hker := unlike_ker hu ((thereFrom 0 L).take xs.length) ht1 ht2 (fun s hs => by
    have h := (thereFrom_spec L 0 s (List.mem_of_mem_take hs)).2.1
    omega)
  obtain ⟨T, hT⟩ : ∃ T, T = thereFrom 0 L := ⟨_, rfl⟩
  obtain ⟨T2, hT2⟩ : ∃ T2, T2 = (thereFrom 0 L).take xs.length := ⟨_, rfl⟩
  unfold DecPost
  rw [← hT2] at ht1 ht2 ht3 hker ⊢
  rw [← hT] at hnl hth hT2
  have HT := Lib.hid hT
  have HT2 := Lib.hid hT2
  have HT1 := Lib.hid ht1
  have HT3 := Lib.hid ht3
  have HNL := Lib.hid hnl
  have HKER := Lib.hid hker
  have hfl := HF.out.lt
  clear hc hf hR hlen hm hL hT hnl hT2 ht1 ht2 ht3 hker
  go_enter Try.func50, Try.ntmps50
  go_wp2_with (first | (go_at_call 53; refine (size_num f cp xs ys _ _ _ rfl rfl HC.out).mono ?_; rintro e w1 ⟨rfl, n1, rfl⟩) | (go_at_call 100; refine (long_any A c L (· ≠ f) _ (HR.out.kf ((Kf.refl f w).drewN _)) hL1 HB.out).mono ?_; rintro e w1 ⟨rfl, rfl⟩; rw [HM.out]) | (go_at_call 101; refine (there_any A c L f (w.drewN n1) hfl (HR.out.kf ((Kf.refl f w).drewN _)) hL1).mono ?_; rintro e w1 ⟨v, rfl, hv, hb1⟩; obtain ⟨A3, c3, rfl, hc3, _⟩ := Kd.R_reads hv; have HV := Lib.hid hv; have HB1 := Lib.hid hb1; rw [← HT.out, HNL.out]; have hkc : xs.length ≤ c3 := (by rw [← HT.out, HNL.out] at hc3; omega); clear hv hb1 hc3) | (go_at_call 102; go_loud (have HK1 := Lib.hid (((Kf.refl f w).drewN n1).below HB1.out); have HF1 := Lib.hid (Fld.below (w := w.drewN n1) HF.out HB1.out); refine (data_len f cp xs ys n xs.length L T2 A A3 c c3 _ HT1.out (HC.out.keep HK1.out) HF1.out hl hx (HR.out.kf HK1.out) HL.out ?hF HT1.out (fun i hi => (by have h := (HT3.out i (by have := HT1.out; omega)).1; rw [HL.out] at h; exact h)) HLEN.out hn (fun x hx2 => (HT3.out x (by have := HT1.out; omega)).2) HKER.out).mono ?_)))
  case hF =>
    have h := HV.out
    rw [← HT.out] at h
    have h2 := R_F (Kd.R_take (m := xs.length) h (by rw [HNL.out]; exact hth))
    rw [natI_take, ← HT2.out] at h2
    exact Kd.F_mono h2 (fun b hb => by have := hb.2; simp at this; omega)
  rintro e w2 ⟨v2, R, rfl, hturn, hv2, hk2, hf2⟩
  have HTU := Lib.hid hturn
  have HK2 := Lib.hid (HK1.out.trans hk2)
  have HF2 := Lib.hid hf2
  obtain ⟨D, hD⟩ : ∃ D, D = dat xs L T2 R n := ⟨_, rfl⟩
  have hDl : D.length = xs.length := by rw [hD, dat_length]
  rw [← hD] at hv2
  obtain ⟨A4, c4, rfl, hc4, _⟩ := Kd.R_reads hv2
  have hl4 : (ll8 D).length = xs.length := by rw [ll8_length, hDl]
  rw [hl4] at hv2 ⊢
  have HDR := Lib.hid (show ∀ i, i < D.length → (D.getD i []).length = n by
    intro i hi
    rw [hD, dat_getD _ _ _ _ _ _ (by omega)]
    unfold datRow
    have hiL : i < L.length := by omega
    cases hxl : L.getD i none with
    | none => simp
    | some l => exact HLEN.out l (by rw [← hxl, getD_lt _ _ _ hiL]; exact List.getElem_mem hiL))
  have HDD := Lib.hid hD
  have HDL := Lib.hid hDl
  have HV2 := Lib.hid (show LK.R 22 w2 w1.heap.size (fun _ => True) (.slice A4 xs.length c4) (ll8 (D ++ decPars xs ys L n D 0)) by
    rw [show decPars xs ys L n D 0 = [] from rfl, List.append_nil]; exact hv2)
  have hf1 := HF1.out.lt
  have hk12 := hk2.size
  have HKa := Lib.hid hk2
  clear hv2 hk2 hf2 hturn hD hDl hl4 hc4
  go_wp2
  go_loopw [12, 50] (fun v i wr => ∃ j : Nat, j ≤ ys.length ∧ i = .int .i64 j ∧ Hid (LK.R 22 wr w1.heap.size (fun _ => True) v (ll8 (D ++ decPars xs ys L n D j))) ∧ Hid (DIn wr f A4 xs.length v D) ∧ Hid (Kf f w1 wr) ∧ Hid (Fld wr f)) (fun _ i _ => ys.length - (intOf i).toNat)
  case atStart => exact ⟨0, Nat.zero_le _, rfl, HV2, Lib.hid (.inl ⟨_, _, rfl⟩), HKa, HF2⟩
  case round =>
    obtain ⟨j, hj, rfl, HO, HDI, HKR, HFR⟩ := hrel
    by_cases hlt : j < ys.length
    · obtain ⟨wa, hwa⟩ : ∃ wa, wa = wr := ⟨_, rfl⟩
      subst hwa
      have hkj : xs.length + j < L.length := by omega
      have HWA := Lib.hid (HK1.out.trans HKR.out)
      have hwsz := HKR.out.size
      obtain ⟨ad, rfl, hok, hno, hsm⟩ := (HR.out.kf HWA.out).get (xs.length + j) hkj
      obtain ⟨x, hx2⟩ : ∃ x, x = L.getD (xs.length + j) none := ⟨_, rfl⟩
      rw [← hx2] at hno hsm
      have HX := Lib.hid hx2
      have HDF := Lib.hid (HDI.out.F HO.out HDL.out hf1)
      clear hx2
      cases x with
      | none =>
        have h0 := hno rfl
        have HP := Lib.hid (show decPar xs ys L n D j = par xs ys j n D by unfold decPar; rw [← HX.out])
        clear hno hsm
        go_wp2_with (first | (go_at_call 87; go_loud (refine (parity_len f cp xs ys j n xs.length D A4 c4 _ HDL.out (HC.out.keep HWA.out) HFR.out (by omega) hlt (by have := HDL.out; omega) HDR.out hn HDF.out).mono ?_; rintro e w7 ⟨v7, rfl, hv7, hk7, hf7⟩; have HV7 := Lib.hid hv7; have HK7 := Lib.hid hk7; have HF7 := Lib.hid hf7; obtain ⟨A7, c7, rfl, _, _⟩ := Kd.R_reads hv7; clear hv7 hk7 hf7)) | ((with_reducible refine gate_builtin (b := .append) (xs := #[.tmp 68, .tmp 74]) rfl ?_); at_builtin; go_loud (refine R_append2 LK (w0 := w7) w1.heap.size rfl (.tmp 68) (.tmp 74) 56 22 (.slice none 0 0) 24 rfl Try.underlying56 infoBs rfl (by decide) (by omega) u12 (ll8 (D ++ decPars xs ys L n D j)) (by8 (par xs ys j n D)) [.slice A7 (by8 (par xs ys j n D)).length c7] (fun _ => True) (fun b => wa.heap.size ≤ b) rfl rfl ?aP ?aF ?aO ?aR ?aB ?aS ?aL ?_)))
        case aP => exact Kd.M_row (Kd.R_mono (Kd.R_lower (Kd.R_bound HV7.out) hwsz) (fun b hb => hb.2.1))
        case aF => exact fun b hb => ⟨trivial, fun e => by have := Kd.R_lt HO.out b e.symm; omega⟩
        case aO => exact fun _ _ => trivial
        case aR => exact R_kf HO.out HK7.out hf1
        case aB => exact Below.refl _ _
        case aS => exact Nat.le_trans hwsz HK7.out.size
        case aL => rw [ll8_length, List.length_append, decPars_length]; have := HDL.out; omega
        intro v8 w8 hv8 hb8 hg8
        have HV8 := Lib.hid (show LK.R 22 w8 w1.heap.size (fun _ => True) v8 (ll8 (D ++ decPars xs ys L n D (j + 1))) by
          rw [decPars_succ, ← List.append_assoc, ll8_append, HP.out]; exact hv8)
        have HD8 := Lib.hid ((HDI.out.kf HK7.out).append (R_kf HO.out HK7.out hf1) HDL.out hf1 hg8)
        have HK8 := Lib.hid ((HKR.out.trans HK7.out).under hb8)
        have HF8 := Lib.hid (HF7.out.under hb8 hf1)
        clear hv8 hb8 hg8
        go_wp2
        go_roundw
        case rel => exact ⟨j + 1, by omega, by go_num, HV8, HD8, HK8, HF8⟩
        case measure => simp [intOf]; omega
      | some l =>
        obtain ⟨A0, c0, h0, hl0, hF0⟩ := hsm l rfl
        have hln : l.length = n := HLEN.out l (by rw [HX.out, getD_lt _ _ _ hkj]; exact List.getElem_mem hkj)
        rw [hln] at h0 hl0 hF0
        have HF0 := Lib.hid hF0
        have HP := Lib.hid (show decPar xs ys L n D j = l by unfold decPar; rw [← HX.out])
        have HBL := Lib.hid (show (by8 l).length = n by rw [by8_length, hln])
        clear hno hsm hln hF0
        go_wp2_with (first | ((with_reducible refine gate_dst (N := 63) rfl ?_); go_loud (refine R_make_room BK (w0 := wa) wa.heap.size 5 rfl (N := 63) rfl 22 _ _ rfl n rfl rfl Try.underlying22 (.int .u8 0) 1 infoB rfl (by decide) (by omega) (ok := fun _ => True) trivial (by omega) (Below.refl _ _) (Nat.le_refl _) ?_; intro w5 ho5 hb5 hg5; have HO5 := Lib.hid ho5; have HB5 := Lib.hid hb5; clear ho5 hb5 hg5)) | ((with_reducible refine gate_builtin (b := .append) (xs := #[.tmp 63, .tmp 64]) rfl ?_); at_builtin; go_loud (refine Kd.R_append_row (Value.int .u8) 0 (w0 := wa) wa.heap.size rfl (.tmp 63) (.tmp 64) 22 5 (.int .u8 0) 1 rfl Try.underlying22 infoB rfl (by omega) (.slice (some ⟨wa.heap.size, 0, none⟩) 0 n) [] (by8 l) (some A0) n c0 (fun _ => True) rfl rfl (fun _ _ => trivial) HO5.out (Kd.C_below (Kd.F_now HF0.out) HB5.out) HB5.out HB5.out.size (by simp; omega) ?_; intro v6 w6 hv6 hb6 hg6 hat6; rw [List.nil_append] at hv6; have HV6 := Lib.hid hv6; have HB6 := Lib.hid hb6; obtain ⟨A6, c6, rfl, _, _⟩ := Kd.R_reads hv6; clear hv6 hb6 hg6 hat6)) | ((with_reducible refine gate_builtin (b := .append) (xs := #[.tmp 61, .tmp 66]) rfl ?_); at_builtin; go_loud (refine R_append2 LK (w0 := w6) w1.heap.size rfl (.tmp 61) (.tmp 66) 56 22 (.slice none 0 0) 24 rfl Try.underlying56 infoBs rfl (by decide) (by omega) u12 (ll8 (D ++ decPars xs ys L n D j)) (by8 l) [.slice A6 (by8 l).length c6] (fun _ => True) (fun b => wa.heap.size ≤ b) rfl rfl ?aP ?aF ?aO ?aR ?aB ?aS ?aL ?_)))
        case aP => exact Kd.M_row (Kd.R_mono (Kd.R_lower (Kd.R_bound HV6.out) hwsz) (fun b hb => hb.2.1))
        case aF => exact fun b hb => ⟨trivial, fun e => by have := Kd.R_lt HO.out b e.symm; omega⟩
        case aO => exact fun _ _ => trivial
        case aR => exact Kd.R_below HO.out HB6.out
        case aB => exact Below.refl _ _
        case aS => exact Nat.le_trans hwsz HB6.out.size
        case aL => rw [ll8_length, List.length_append, decPars_length]; have := HDL.out; omega
        intro v8 w8 hv8 hb8 hg8
        have HK6 := (Kf.refl f wa).below HB6.out
        have HV8 := Lib.hid (show LK.R 22 w8 w1.heap.size (fun _ => True) v8 (ll8 (D ++ decPars xs ys L n D (j + 1))) by
          rw [decPars_succ, ← List.append_assoc, ll8_append, HP.out]; exact hv8)
        have HD8 := Lib.hid ((HDI.out.kf HK6).append (Kd.R_below HO.out HB6.out) HDL.out hf1 hg8)
        have HK8 := Lib.hid ((HKR.out.trans HK6).under hb8)
        have HF8 := Lib.hid ((HFR.out.below HB6.out).under hb8 hf1)
        clear hv8 hb8 hg8 HK6
        go_wp2
        go_roundw
        case rel => exact ⟨j + 1, by omega, by go_num, HV8, HD8, HK8, HF8⟩
        case measure => simp [intOf]; omega
    · obtain rfl : j = ys.length := by omega
      go_wp2
      go_ret2
      refine ⟨_, R, rfl, HTU.out, ?_, HK1.out.trans HKR.out, HFR.out⟩
      have h := HO.out
      unfold dec
      rw [← HDD.out]
      exact Kd.R_lower h HK1.out.size
end Go.Proofs.Ytnfodhagfcjfpaa
