/-
  No cell of these rows narrows 'for every input' (looked for: loops, veiled, ifaces, maps, wideKeys, modest, calm, conditions, laid).
  DERIVED. THE GIVEN ROWS OF THIS SEAT. 12 by the template 'for every input the law returns true; each argument reads behind the call as it read before'; 0 by the template 'total and deterministic' (their statements: YtnfodhagfcjfpaaTotals.lean).
  GIVEN WITH THE SEED: the statements are not yours to turn. If you find one false, say at which input.
  Laid BY PROGRAM, IN A SANDBOX (cutbox-rows.mjs): the forced cells as the released guide's own fill.sh prints them over the translation fee72dffde4d398c… (all of the seat's roots in one cut). By AI agents, Wed Nov 11 2026. No macro, syntax, notation, axiom, sorry.
-/
import Derived.Test.YtnfodhagfcjfpaaChecked
import GoSem.Claim
import GoSem.ClaimJoined
import GoSem.ClaimMapViews
import Derived.JoinedTies
import Derived.KernelRfl
namespace Go.Proofs.Ytnfodhagfcjfpaa
/- THE CELL 'sum', in the pinned program and in every row, IS THE sha256 OF THE DUMP (.gsa) THAT YtnfodhagfcjfpaaProg.lean LOADS. Nothing in Lean hashes anything: it is a label: what it is worth is what the hold of that sum in a sandbox is worth. -/
noncomputable def Try.pinned : Pinned := { name := "ytnfodhagfcjfpaa", sum := "fee72dffde4d398c0023be24cf42ee15d4d0fc0bdd0b62e5d467c041f774bc2f", checked := Try.checked }
namespace Rows
def none {H : Type} : Left H := { results := [], args := [] }

/-- 'hypocaustlaw10.RackDead': WHATEVER THE INPUT: true; the input reads as it did. -/
def rackDeadSpec : ChangeSpec := { name := "rackDead", fn := fun _ => fun
  | [d1, d2] => { results := [.lit (.bool true)], args := [d1, d2] }
  | _ => none }
def rackDeadRow : OpenClaim := { program := "ytnfodhagfcjfpaa", sum := "fee72dffde4d398c0023be24cf42ee15d4d0fc0bdd0b62e5d467c041f774bc2f", func := "hypocaust/hypocaustlaw10.RackDead", spec := "rackDead", unfollowed := true, recurses := true, apart := false }
def RackDeadSaid : Prop := rackDeadRow.holds Try.pinned (OpenSpec.ofChange rackDeadSpec)

/-- ITS FALSE NEIGHBOUR: 'it returns false'. Refute it at one input. -/
def rackDeadWrong : ChangeSpec := { name := "rackDead", fn := fun _ => fun
  | [d1, d2] => { results := [.lit (.bool false)], args := [d1, d2] }
  | _ => none }
def RackDeadWrongFalsely : Prop := rackDeadRow.holds Try.pinned (OpenSpec.ofChange rackDeadWrong)

/-- 'hypocaustlaw5.ConvParts': WHATEVER THE INPUT: true; the input reads as it did. -/
def convPartsSpec : ChangeSpec := { name := "convParts", fn := fun _ => fun
  | [d1, d2, d3] => { results := [.lit (.bool true)], args := [d1, d2, d3] }
  | _ => none }
def convPartsRow : OpenClaim := { program := "ytnfodhagfcjfpaa", sum := "fee72dffde4d398c0023be24cf42ee15d4d0fc0bdd0b62e5d467c041f774bc2f", func := "hypocaust/hypocaustlaw5.ConvParts", spec := "convParts", inPlace := ["sync/atomic.AddInt64", "sync/atomic.LoadUint32", "(*internal/sync.Mutex).Lock", "internal/race.Disable", "sync/atomic.CompareAndSwapInt32", "internal/race.Enable", "internal/race.Acquire", "(*internal/sync.Mutex).lockSlow", "internal/sync.runtime_canSpin", "internal/sync.runtime_doSpin", "internal/sync.throw", "internal/sync.runtime_nanotime", "internal/sync.runtime_SemacquireMutex", "sync/atomic.AddInt32", "(*internal/sync.Mutex).Unlock", "internal/race.ReleaseMerge", "(*internal/sync.Mutex).unlockSlow", "internal/sync.fatal", "internal/sync.runtime_Semrelease", "sync/atomic.StoreUint32"], unfollowed := true, recurses := true, apart := false }
def ConvPartsSaid : Prop := convPartsRow.holds Try.pinned (OpenSpec.ofChange convPartsSpec)

/-- ITS FALSE NEIGHBOUR: 'it returns false'. Refute it at one input. -/
def convPartsWrong : ChangeSpec := { name := "convParts", fn := fun _ => fun
  | [d1, d2, d3] => { results := [.lit (.bool false)], args := [d1, d2, d3] }
  | _ => none }
def ConvPartsWrongFalsely : Prop := convPartsRow.holds Try.pinned (OpenSpec.ofChange convPartsWrong)

/-- 'hypocaustlaw5.ConvRefuses': WHATEVER THE INPUT: true; the input reads as it did. -/
def convRefusesSpec : ChangeSpec := { name := "convRefuses", fn := fun _ => fun
  | [d1, d2, d3] => { results := [.lit (.bool true)], args := [d1, d2, d3] }
  | _ => none }
def convRefusesRow : OpenClaim := { program := "ytnfodhagfcjfpaa", sum := "fee72dffde4d398c0023be24cf42ee15d4d0fc0bdd0b62e5d467c041f774bc2f", func := "hypocaust/hypocaustlaw5.ConvRefuses", spec := "convRefuses", inPlace := ["sync/atomic.AddInt64", "sync/atomic.LoadUint32", "(*internal/sync.Mutex).Lock", "internal/race.Disable", "sync/atomic.CompareAndSwapInt32", "internal/race.Enable", "internal/race.Acquire", "(*internal/sync.Mutex).lockSlow", "internal/sync.runtime_canSpin", "internal/sync.runtime_doSpin", "internal/sync.throw", "internal/sync.runtime_nanotime", "internal/sync.runtime_SemacquireMutex", "sync/atomic.AddInt32", "(*internal/sync.Mutex).Unlock", "internal/race.ReleaseMerge", "(*internal/sync.Mutex).unlockSlow", "internal/sync.fatal", "internal/sync.runtime_Semrelease", "sync/atomic.StoreUint32"], unfollowed := true, recurses := true, apart := false }
def ConvRefusesSaid : Prop := convRefusesRow.holds Try.pinned (OpenSpec.ofChange convRefusesSpec)

/-- ITS FALSE NEIGHBOUR: 'it returns false'. Refute it at one input. -/
def convRefusesWrong : ChangeSpec := { name := "convRefuses", fn := fun _ => fun
  | [d1, d2, d3] => { results := [.lit (.bool false)], args := [d1, d2, d3] }
  | _ => none }
def ConvRefusesWrongFalsely : Prop := convRefusesRow.holds Try.pinned (OpenSpec.ofChange convRefusesWrong)

/-- 'hypocaustlaw5.ConvAgrees': WHATEVER THE INPUT: true; the input reads as it did. -/
def convAgreesSpec : ChangeSpec := { name := "convAgrees", fn := fun _ => fun
  | [d1, d2, d3] => { results := [.lit (.bool true)], args := [d1, d2, d3] }
  | _ => none }
def convAgreesRow : OpenClaim := { program := "ytnfodhagfcjfpaa", sum := "fee72dffde4d398c0023be24cf42ee15d4d0fc0bdd0b62e5d467c041f774bc2f", func := "hypocaust/hypocaustlaw5.ConvAgrees", spec := "convAgrees", inPlace := ["sync/atomic.AddInt64", "sync/atomic.LoadUint32", "(*internal/sync.Mutex).Lock", "internal/race.Disable", "sync/atomic.CompareAndSwapInt32", "internal/race.Enable", "internal/race.Acquire", "(*internal/sync.Mutex).lockSlow", "internal/sync.runtime_canSpin", "internal/sync.runtime_doSpin", "internal/sync.throw", "internal/sync.runtime_nanotime", "internal/sync.runtime_SemacquireMutex", "sync/atomic.AddInt32", "(*internal/sync.Mutex).Unlock", "internal/race.ReleaseMerge", "(*internal/sync.Mutex).unlockSlow", "internal/sync.fatal", "internal/sync.runtime_Semrelease", "sync/atomic.StoreUint32"], unfollowed := true, recurses := true, apart := false }
def ConvAgreesSaid : Prop := convAgreesRow.holds Try.pinned (OpenSpec.ofChange convAgreesSpec)

/-- ITS FALSE NEIGHBOUR: 'it returns false'. Refute it at one input. -/
def convAgreesWrong : ChangeSpec := { name := "convAgrees", fn := fun _ => fun
  | [d1, d2, d3] => { results := [.lit (.bool false)], args := [d1, d2, d3] }
  | _ => none }
def ConvAgreesWrongFalsely : Prop := convAgreesRow.holds Try.pinned (OpenSpec.ofChange convAgreesWrong)

/-- 'hypocaustlaw14.MetaNext': WHATEVER THE INPUT: true; the input reads as it did. -/
def metaNextSpec : ChangeSpec := { name := "metaNext", fn := fun _ => fun
  | [d] => { results := [.lit (.bool true)], args := [d] }
  | _ => none }
def metaNextRow : OpenClaim := { program := "ytnfodhagfcjfpaa", sum := "fee72dffde4d398c0023be24cf42ee15d4d0fc0bdd0b62e5d467c041f774bc2f", func := "hypocaust/hypocaustlaw14.MetaNext", spec := "metaNext", unfollowed := true, recurses := true, apart := false }
def MetaNextSaid : Prop := metaNextRow.holds Try.pinned (OpenSpec.ofChange metaNextSpec)

/-- ITS FALSE NEIGHBOUR: 'it returns false'. Refute it at one input. -/
def metaNextWrong : ChangeSpec := { name := "metaNext", fn := fun _ => fun
  | [d] => { results := [.lit (.bool false)], args := [d] }
  | _ => none }
def MetaNextWrongFalsely : Prop := metaNextRow.holds Try.pinned (OpenSpec.ofChange metaNextWrong)

/-- 'hypocaustlaw14.MetaWay': WHATEVER THE INPUT: true; the input reads as it did. -/
def metaWaySpec : ChangeSpec := { name := "metaWay", fn := fun _ => fun
  | [d1, d2, d3, d4] => { results := [.lit (.bool true)], args := [d1, d2, d3, d4] }
  | _ => none }
def metaWayRow : OpenClaim := { program := "ytnfodhagfcjfpaa", sum := "fee72dffde4d398c0023be24cf42ee15d4d0fc0bdd0b62e5d467c041f774bc2f", func := "hypocaust/hypocaustlaw14.MetaWay", spec := "metaWay", unfollowed := true, recurses := true, apart := false }
def MetaWaySaid : Prop := metaWayRow.holds Try.pinned (OpenSpec.ofChange metaWaySpec)

/-- ITS FALSE NEIGHBOUR: 'it returns false'. Refute it at one input. -/
def metaWayWrong : ChangeSpec := { name := "metaWay", fn := fun _ => fun
  | [d1, d2, d3, d4] => { results := [.lit (.bool false)], args := [d1, d2, d3, d4] }
  | _ => none }
def MetaWayWrongFalsely : Prop := metaWayRow.holds Try.pinned (OpenSpec.ofChange metaWayWrong)

/-- 'hypocaustlaw4.CodeEmpty': WHATEVER THE INPUT: true; the input reads as it did. -/
def codeEmptySpec : ChangeSpec := { name := "codeEmpty", fn := fun _ => fun
  | [d1, d2, d3, d4] => { results := [.lit (.bool true)], args := [d1, d2, d3, d4] }
  | _ => none }
def codeEmptyRow : OpenClaim := { program := "ytnfodhagfcjfpaa", sum := "fee72dffde4d398c0023be24cf42ee15d4d0fc0bdd0b62e5d467c041f774bc2f", func := "hypocaust/hypocaustlaw4.CodeEmpty", spec := "codeEmpty", inPlace := ["sync/atomic.AddInt64", "sync/atomic.LoadUint32", "(*internal/sync.Mutex).Lock", "internal/race.Disable", "sync/atomic.CompareAndSwapInt32", "internal/race.Enable", "internal/race.Acquire", "(*internal/sync.Mutex).lockSlow", "internal/sync.runtime_canSpin", "internal/sync.runtime_doSpin", "internal/sync.throw", "internal/sync.runtime_nanotime", "internal/sync.runtime_SemacquireMutex", "sync/atomic.AddInt32", "(*internal/sync.Mutex).Unlock", "internal/race.ReleaseMerge", "(*internal/sync.Mutex).unlockSlow", "internal/sync.fatal", "internal/sync.runtime_Semrelease", "sync/atomic.StoreUint32"], unfollowed := true, recurses := true, apart := false }
def CodeEmptySaid : Prop := codeEmptyRow.holds Try.pinned (OpenSpec.ofChange codeEmptySpec)

/-- ITS FALSE NEIGHBOUR: 'it returns false'. Refute it at one input. -/
def codeEmptyWrong : ChangeSpec := { name := "codeEmpty", fn := fun _ => fun
  | [d1, d2, d3, d4] => { results := [.lit (.bool false)], args := [d1, d2, d3, d4] }
  | _ => none }
def CodeEmptyWrongFalsely : Prop := codeEmptyRow.holds Try.pinned (OpenSpec.ofChange codeEmptyWrong)

/-- 'hypocaustlaw4.CodeMakes': WHATEVER THE INPUT: true; the input reads as it did. -/
def codeMakesSpec : ChangeSpec := { name := "codeMakes", fn := fun _ => fun
  | [d1, d2, d3, d4, d5, d6, d7, d8, d9] => { results := [.lit (.bool true)], args := [d1, d2, d3, d4, d5, d6, d7, d8, d9] }
  | _ => none }
def codeMakesRow : OpenClaim := { program := "ytnfodhagfcjfpaa", sum := "fee72dffde4d398c0023be24cf42ee15d4d0fc0bdd0b62e5d467c041f774bc2f", func := "hypocaust/hypocaustlaw4.CodeMakes", spec := "codeMakes", inPlace := ["sync/atomic.AddInt64", "sync/atomic.LoadUint32", "(*internal/sync.Mutex).Lock", "internal/race.Disable", "sync/atomic.CompareAndSwapInt32", "internal/race.Enable", "internal/race.Acquire", "(*internal/sync.Mutex).lockSlow", "internal/sync.runtime_canSpin", "internal/sync.runtime_doSpin", "internal/sync.throw", "internal/sync.runtime_nanotime", "internal/sync.runtime_SemacquireMutex", "sync/atomic.AddInt32", "(*internal/sync.Mutex).Unlock", "internal/race.ReleaseMerge", "(*internal/sync.Mutex).unlockSlow", "internal/sync.fatal", "internal/sync.runtime_Semrelease", "sync/atomic.StoreUint32"], unfollowed := true, recurses := true, apart := false }
def CodeMakesSaid : Prop := codeMakesRow.holds Try.pinned (OpenSpec.ofChange codeMakesSpec)

/-- ITS FALSE NEIGHBOUR: 'it returns false'. Refute it at one input. -/
def codeMakesWrong : ChangeSpec := { name := "codeMakes", fn := fun _ => fun
  | [d1, d2, d3, d4, d5, d6, d7, d8, d9] => { results := [.lit (.bool false)], args := [d1, d2, d3, d4, d5, d6, d7, d8, d9] }
  | _ => none }
def CodeMakesWrongFalsely : Prop := codeMakesRow.holds Try.pinned (OpenSpec.ofChange codeMakesWrong)

/-- 'hypocaustlaw4.CodeLinear': WHATEVER THE INPUT: true; the input reads as it did. -/
def codeLinearSpec : ChangeSpec := { name := "codeLinear", fn := fun _ => fun
  | [d1, d2, d3, d4, d5, d6, d7] => { results := [.lit (.bool true)], args := [d1, d2, d3, d4, d5, d6, d7] }
  | _ => none }
def codeLinearRow : OpenClaim := { program := "ytnfodhagfcjfpaa", sum := "fee72dffde4d398c0023be24cf42ee15d4d0fc0bdd0b62e5d467c041f774bc2f", func := "hypocaust/hypocaustlaw4.CodeLinear", spec := "codeLinear", inPlace := ["sync/atomic.AddInt64", "sync/atomic.LoadUint32", "(*internal/sync.Mutex).Lock", "internal/race.Disable", "sync/atomic.CompareAndSwapInt32", "internal/race.Enable", "internal/race.Acquire", "(*internal/sync.Mutex).lockSlow", "internal/sync.runtime_canSpin", "internal/sync.runtime_doSpin", "internal/sync.throw", "internal/sync.runtime_nanotime", "internal/sync.runtime_SemacquireMutex", "sync/atomic.AddInt32", "(*internal/sync.Mutex).Unlock", "internal/race.ReleaseMerge", "(*internal/sync.Mutex).unlockSlow", "internal/sync.fatal", "internal/sync.runtime_Semrelease", "sync/atomic.StoreUint32"], unfollowed := true, recurses := true, apart := false }
def CodeLinearSaid : Prop := codeLinearRow.holds Try.pinned (OpenSpec.ofChange codeLinearSpec)

/-- ITS FALSE NEIGHBOUR: 'it returns false'. Refute it at one input. -/
def codeLinearWrong : ChangeSpec := { name := "codeLinear", fn := fun _ => fun
  | [d1, d2, d3, d4, d5, d6, d7] => { results := [.lit (.bool false)], args := [d1, d2, d3, d4, d5, d6, d7] }
  | _ => none }
def CodeLinearWrongFalsely : Prop := codeLinearRow.holds Try.pinned (OpenSpec.ofChange codeLinearWrong)

/-- 'hypocaustlaw5.ConvTwo': WHATEVER THE INPUT: true; the input reads as it did. -/
def convTwoSpec : ChangeSpec := { name := "convTwo", fn := fun _ => fun
  | [d1, d2, d3, d4] => { results := [.lit (.bool true)], args := [d1, d2, d3, d4] }
  | _ => none }
def convTwoRow : OpenClaim := { program := "ytnfodhagfcjfpaa", sum := "fee72dffde4d398c0023be24cf42ee15d4d0fc0bdd0b62e5d467c041f774bc2f", func := "hypocaust/hypocaustlaw5.ConvTwo", spec := "convTwo", inPlace := ["sync/atomic.AddInt64", "sync/atomic.LoadUint32", "(*internal/sync.Mutex).Lock", "internal/race.Disable", "sync/atomic.CompareAndSwapInt32", "internal/race.Enable", "internal/race.Acquire", "(*internal/sync.Mutex).lockSlow", "internal/sync.runtime_canSpin", "internal/sync.runtime_doSpin", "internal/sync.throw", "internal/sync.runtime_nanotime", "internal/sync.runtime_SemacquireMutex", "sync/atomic.AddInt32", "(*internal/sync.Mutex).Unlock", "internal/race.ReleaseMerge", "(*internal/sync.Mutex).unlockSlow", "internal/sync.fatal", "internal/sync.runtime_Semrelease", "sync/atomic.StoreUint32"], unfollowed := true, recurses := true, apart := false }
def ConvTwoSaid : Prop := convTwoRow.holds Try.pinned (OpenSpec.ofChange convTwoSpec)

/-- ITS FALSE NEIGHBOUR: 'it returns false'. Refute it at one input. -/
def convTwoWrong : ChangeSpec := { name := "convTwo", fn := fun _ => fun
  | [d1, d2, d3, d4] => { results := [.lit (.bool false)], args := [d1, d2, d3, d4] }
  | _ => none }
def ConvTwoWrongFalsely : Prop := convTwoRow.holds Try.pinned (OpenSpec.ofChange convTwoWrong)

/-- 'hypocaustlaw4.CodeAny': WHATEVER THE INPUT: true; the input reads as it did. -/
def codeAnySpec : ChangeSpec := { name := "codeAny", fn := fun _ => fun
  | [d1, d2, d3, d4, d5, d6] => { results := [.lit (.bool true)], args := [d1, d2, d3, d4, d5, d6] }
  | _ => none }
def codeAnyRow : OpenClaim := { program := "ytnfodhagfcjfpaa", sum := "fee72dffde4d398c0023be24cf42ee15d4d0fc0bdd0b62e5d467c041f774bc2f", func := "hypocaust/hypocaustlaw4.CodeAny", spec := "codeAny", inPlace := ["sync/atomic.AddInt64", "sync/atomic.LoadUint32", "(*internal/sync.Mutex).Lock", "internal/race.Disable", "sync/atomic.CompareAndSwapInt32", "internal/race.Enable", "internal/race.Acquire", "(*internal/sync.Mutex).lockSlow", "internal/sync.runtime_canSpin", "internal/sync.runtime_doSpin", "internal/sync.throw", "internal/sync.runtime_nanotime", "internal/sync.runtime_SemacquireMutex", "sync/atomic.AddInt32", "(*internal/sync.Mutex).Unlock", "internal/race.ReleaseMerge", "(*internal/sync.Mutex).unlockSlow", "internal/sync.fatal", "internal/sync.runtime_Semrelease", "sync/atomic.StoreUint32"], unfollowed := true, recurses := true, apart := false }
def CodeAnySaid : Prop := codeAnyRow.holds Try.pinned (OpenSpec.ofChange codeAnySpec)

/-- ITS FALSE NEIGHBOUR: 'it returns false'. Refute it at one input. -/
def codeAnyWrong : ChangeSpec := { name := "codeAny", fn := fun _ => fun
  | [d1, d2, d3, d4, d5, d6] => { results := [.lit (.bool false)], args := [d1, d2, d3, d4, d5, d6] }
  | _ => none }
def CodeAnyWrongFalsely : Prop := codeAnyRow.holds Try.pinned (OpenSpec.ofChange codeAnyWrong)

/-- 'hypocaustlaw4.CodeWhole': WHATEVER THE INPUT: true; the input reads as it did. -/
def codeWholeSpec : ChangeSpec := { name := "codeWhole", fn := fun _ => fun
  | [d1, d2, d3, d4, d5] => { results := [.lit (.bool true)], args := [d1, d2, d3, d4, d5] }
  | _ => none }
def codeWholeRow : OpenClaim := { program := "ytnfodhagfcjfpaa", sum := "fee72dffde4d398c0023be24cf42ee15d4d0fc0bdd0b62e5d467c041f774bc2f", func := "hypocaust/hypocaustlaw4.CodeWhole", spec := "codeWhole", inPlace := ["sync/atomic.AddInt64", "sync/atomic.LoadUint32", "(*internal/sync.Mutex).Lock", "internal/race.Disable", "sync/atomic.CompareAndSwapInt32", "internal/race.Enable", "internal/race.Acquire", "(*internal/sync.Mutex).lockSlow", "internal/sync.runtime_canSpin", "internal/sync.runtime_doSpin", "internal/sync.throw", "internal/sync.runtime_nanotime", "internal/sync.runtime_SemacquireMutex", "sync/atomic.AddInt32", "(*internal/sync.Mutex).Unlock", "internal/race.ReleaseMerge", "(*internal/sync.Mutex).unlockSlow", "internal/sync.fatal", "internal/sync.runtime_Semrelease", "sync/atomic.StoreUint32"], unfollowed := true, recurses := true, apart := false }
def CodeWholeSaid : Prop := codeWholeRow.holds Try.pinned (OpenSpec.ofChange codeWholeSpec)

/-- ITS FALSE NEIGHBOUR: 'it returns false'. Refute it at one input. -/
def codeWholeWrong : ChangeSpec := { name := "codeWhole", fn := fun _ => fun
  | [d1, d2, d3, d4, d5] => { results := [.lit (.bool false)], args := [d1, d2, d3, d4, d5] }
  | _ => none }
def CodeWholeWrongFalsely : Prop := codeWholeRow.holds Try.pinned (OpenSpec.ofChange codeWholeWrong)

/- THE SECOND FORM. 'bulk': how many values and letters a reading holds, each counted each time it is reached (what is shared counts as often as it is met; a slice's spare places count too). A statement '..UptoSaid' is the law's where the arguments, and the package variables that the reading takes, are together of bulk at most 1048576: NARROWER than '..Said'. Prove '..Said' where nothing that the law and all that it calls make is longer than what came in: it says more and counts as full. Else prove '..UptoSaid'. A law counts once. -/
mutual
def uptoBulk {H : Type} : DataW H → Nat
  | .lit (.string bytes) => bytes.length + 1
  | .lit _ => 1
  | .nil => 1
  | .ptr d => uptoBulk d + 1
  | .slice elems spare => uptoBulkAll elems + uptoBulkAll spare + 1
  | .agg parts => uptoBulkAll parts + 1
  | .iface _ d => uptoBulk d + 1
  | .map entries => uptoBulkEntries entries + 1
  | .held _ => 1
def uptoBulkAll {H : Type} : List (DataW H) → Nat
  | [] => 0
  | d :: r => uptoBulk d + uptoBulkAll r
def uptoBulkEntries {H : Type} : List (Lit × DataW H) → Nat
  | [] => 0
  | x :: r => uptoBulkEntry x + uptoBulkEntries r
def uptoBulkEntry {H : Type} : Lit × DataW H → Nat
  | (.string bytes, d) => bytes.length + uptoBulk d + 1
  | (_, d) => uptoBulk d + 1
 end
def uptoSmall : (H : Type) → List (DataW H) → Bool := fun _ ds => decide (uptoBulkAll ds ≤ 1048576)
def OpenSpec.upto (s : _root_.Go.ChangeSpec) : _root_.Go.OpenSpec := { _root_.Go.OpenSpec.ofChange s with cond := some uptoSmall }

/-- 'hypocaustlaw10.RackDead', WHERE WHAT IT READS IS OF BULK AT MOST 1048576: true; the input reads as it did. -/
def rackDeadUptoRow : OpenClaim := { program := "ytnfodhagfcjfpaa", sum := "fee72dffde4d398c0023be24cf42ee15d4d0fc0bdd0b62e5d467c041f774bc2f", func := "hypocaust/hypocaustlaw10.RackDead", spec := "rackDead", unfollowed := true, recurses := true, apart := false, narrowed := true }
def RackDeadUptoSaid : Prop := rackDeadUptoRow.holds Try.pinned (OpenSpec.upto rackDeadSpec)

/-- 'hypocaustlaw5.ConvParts', WHERE WHAT IT READS IS OF BULK AT MOST 1048576: true; the input reads as it did. -/
def convPartsUptoRow : OpenClaim := { program := "ytnfodhagfcjfpaa", sum := "fee72dffde4d398c0023be24cf42ee15d4d0fc0bdd0b62e5d467c041f774bc2f", func := "hypocaust/hypocaustlaw5.ConvParts", spec := "convParts", inPlace := ["sync/atomic.AddInt64", "sync/atomic.LoadUint32", "(*internal/sync.Mutex).Lock", "internal/race.Disable", "sync/atomic.CompareAndSwapInt32", "internal/race.Enable", "internal/race.Acquire", "(*internal/sync.Mutex).lockSlow", "internal/sync.runtime_canSpin", "internal/sync.runtime_doSpin", "internal/sync.throw", "internal/sync.runtime_nanotime", "internal/sync.runtime_SemacquireMutex", "sync/atomic.AddInt32", "(*internal/sync.Mutex).Unlock", "internal/race.ReleaseMerge", "(*internal/sync.Mutex).unlockSlow", "internal/sync.fatal", "internal/sync.runtime_Semrelease", "sync/atomic.StoreUint32"], unfollowed := true, recurses := true, apart := false, narrowed := true }
def ConvPartsUptoSaid : Prop := convPartsUptoRow.holds Try.pinned (OpenSpec.upto convPartsSpec)

/-- 'hypocaustlaw5.ConvRefuses', WHERE WHAT IT READS IS OF BULK AT MOST 1048576: true; the input reads as it did. -/
def convRefusesUptoRow : OpenClaim := { program := "ytnfodhagfcjfpaa", sum := "fee72dffde4d398c0023be24cf42ee15d4d0fc0bdd0b62e5d467c041f774bc2f", func := "hypocaust/hypocaustlaw5.ConvRefuses", spec := "convRefuses", inPlace := ["sync/atomic.AddInt64", "sync/atomic.LoadUint32", "(*internal/sync.Mutex).Lock", "internal/race.Disable", "sync/atomic.CompareAndSwapInt32", "internal/race.Enable", "internal/race.Acquire", "(*internal/sync.Mutex).lockSlow", "internal/sync.runtime_canSpin", "internal/sync.runtime_doSpin", "internal/sync.throw", "internal/sync.runtime_nanotime", "internal/sync.runtime_SemacquireMutex", "sync/atomic.AddInt32", "(*internal/sync.Mutex).Unlock", "internal/race.ReleaseMerge", "(*internal/sync.Mutex).unlockSlow", "internal/sync.fatal", "internal/sync.runtime_Semrelease", "sync/atomic.StoreUint32"], unfollowed := true, recurses := true, apart := false, narrowed := true }
def ConvRefusesUptoSaid : Prop := convRefusesUptoRow.holds Try.pinned (OpenSpec.upto convRefusesSpec)

/-- 'hypocaustlaw5.ConvAgrees', WHERE WHAT IT READS IS OF BULK AT MOST 1048576: true; the input reads as it did. -/
def convAgreesUptoRow : OpenClaim := { program := "ytnfodhagfcjfpaa", sum := "fee72dffde4d398c0023be24cf42ee15d4d0fc0bdd0b62e5d467c041f774bc2f", func := "hypocaust/hypocaustlaw5.ConvAgrees", spec := "convAgrees", inPlace := ["sync/atomic.AddInt64", "sync/atomic.LoadUint32", "(*internal/sync.Mutex).Lock", "internal/race.Disable", "sync/atomic.CompareAndSwapInt32", "internal/race.Enable", "internal/race.Acquire", "(*internal/sync.Mutex).lockSlow", "internal/sync.runtime_canSpin", "internal/sync.runtime_doSpin", "internal/sync.throw", "internal/sync.runtime_nanotime", "internal/sync.runtime_SemacquireMutex", "sync/atomic.AddInt32", "(*internal/sync.Mutex).Unlock", "internal/race.ReleaseMerge", "(*internal/sync.Mutex).unlockSlow", "internal/sync.fatal", "internal/sync.runtime_Semrelease", "sync/atomic.StoreUint32"], unfollowed := true, recurses := true, apart := false, narrowed := true }
def ConvAgreesUptoSaid : Prop := convAgreesUptoRow.holds Try.pinned (OpenSpec.upto convAgreesSpec)

/-- 'hypocaustlaw14.MetaNext', WHERE WHAT IT READS IS OF BULK AT MOST 1048576: true; the input reads as it did. -/
def metaNextUptoRow : OpenClaim := { program := "ytnfodhagfcjfpaa", sum := "fee72dffde4d398c0023be24cf42ee15d4d0fc0bdd0b62e5d467c041f774bc2f", func := "hypocaust/hypocaustlaw14.MetaNext", spec := "metaNext", unfollowed := true, recurses := true, apart := false, narrowed := true }
def MetaNextUptoSaid : Prop := metaNextUptoRow.holds Try.pinned (OpenSpec.upto metaNextSpec)

/-- 'hypocaustlaw14.MetaWay', WHERE WHAT IT READS IS OF BULK AT MOST 1048576: true; the input reads as it did. -/
def metaWayUptoRow : OpenClaim := { program := "ytnfodhagfcjfpaa", sum := "fee72dffde4d398c0023be24cf42ee15d4d0fc0bdd0b62e5d467c041f774bc2f", func := "hypocaust/hypocaustlaw14.MetaWay", spec := "metaWay", unfollowed := true, recurses := true, apart := false, narrowed := true }
def MetaWayUptoSaid : Prop := metaWayUptoRow.holds Try.pinned (OpenSpec.upto metaWaySpec)

/-- 'hypocaustlaw4.CodeEmpty', WHERE WHAT IT READS IS OF BULK AT MOST 1048576: true; the input reads as it did. -/
def codeEmptyUptoRow : OpenClaim := { program := "ytnfodhagfcjfpaa", sum := "fee72dffde4d398c0023be24cf42ee15d4d0fc0bdd0b62e5d467c041f774bc2f", func := "hypocaust/hypocaustlaw4.CodeEmpty", spec := "codeEmpty", inPlace := ["sync/atomic.AddInt64", "sync/atomic.LoadUint32", "(*internal/sync.Mutex).Lock", "internal/race.Disable", "sync/atomic.CompareAndSwapInt32", "internal/race.Enable", "internal/race.Acquire", "(*internal/sync.Mutex).lockSlow", "internal/sync.runtime_canSpin", "internal/sync.runtime_doSpin", "internal/sync.throw", "internal/sync.runtime_nanotime", "internal/sync.runtime_SemacquireMutex", "sync/atomic.AddInt32", "(*internal/sync.Mutex).Unlock", "internal/race.ReleaseMerge", "(*internal/sync.Mutex).unlockSlow", "internal/sync.fatal", "internal/sync.runtime_Semrelease", "sync/atomic.StoreUint32"], unfollowed := true, recurses := true, apart := false, narrowed := true }
def CodeEmptyUptoSaid : Prop := codeEmptyUptoRow.holds Try.pinned (OpenSpec.upto codeEmptySpec)

/-- 'hypocaustlaw4.CodeMakes', WHERE WHAT IT READS IS OF BULK AT MOST 1048576: true; the input reads as it did. -/
def codeMakesUptoRow : OpenClaim := { program := "ytnfodhagfcjfpaa", sum := "fee72dffde4d398c0023be24cf42ee15d4d0fc0bdd0b62e5d467c041f774bc2f", func := "hypocaust/hypocaustlaw4.CodeMakes", spec := "codeMakes", inPlace := ["sync/atomic.AddInt64", "sync/atomic.LoadUint32", "(*internal/sync.Mutex).Lock", "internal/race.Disable", "sync/atomic.CompareAndSwapInt32", "internal/race.Enable", "internal/race.Acquire", "(*internal/sync.Mutex).lockSlow", "internal/sync.runtime_canSpin", "internal/sync.runtime_doSpin", "internal/sync.throw", "internal/sync.runtime_nanotime", "internal/sync.runtime_SemacquireMutex", "sync/atomic.AddInt32", "(*internal/sync.Mutex).Unlock", "internal/race.ReleaseMerge", "(*internal/sync.Mutex).unlockSlow", "internal/sync.fatal", "internal/sync.runtime_Semrelease", "sync/atomic.StoreUint32"], unfollowed := true, recurses := true, apart := false, narrowed := true }
def CodeMakesUptoSaid : Prop := codeMakesUptoRow.holds Try.pinned (OpenSpec.upto codeMakesSpec)

/-- 'hypocaustlaw4.CodeLinear', WHERE WHAT IT READS IS OF BULK AT MOST 1048576: true; the input reads as it did. -/
def codeLinearUptoRow : OpenClaim := { program := "ytnfodhagfcjfpaa", sum := "fee72dffde4d398c0023be24cf42ee15d4d0fc0bdd0b62e5d467c041f774bc2f", func := "hypocaust/hypocaustlaw4.CodeLinear", spec := "codeLinear", inPlace := ["sync/atomic.AddInt64", "sync/atomic.LoadUint32", "(*internal/sync.Mutex).Lock", "internal/race.Disable", "sync/atomic.CompareAndSwapInt32", "internal/race.Enable", "internal/race.Acquire", "(*internal/sync.Mutex).lockSlow", "internal/sync.runtime_canSpin", "internal/sync.runtime_doSpin", "internal/sync.throw", "internal/sync.runtime_nanotime", "internal/sync.runtime_SemacquireMutex", "sync/atomic.AddInt32", "(*internal/sync.Mutex).Unlock", "internal/race.ReleaseMerge", "(*internal/sync.Mutex).unlockSlow", "internal/sync.fatal", "internal/sync.runtime_Semrelease", "sync/atomic.StoreUint32"], unfollowed := true, recurses := true, apart := false, narrowed := true }
def CodeLinearUptoSaid : Prop := codeLinearUptoRow.holds Try.pinned (OpenSpec.upto codeLinearSpec)

/-- 'hypocaustlaw5.ConvTwo', WHERE WHAT IT READS IS OF BULK AT MOST 1048576: true; the input reads as it did. -/
def convTwoUptoRow : OpenClaim := { program := "ytnfodhagfcjfpaa", sum := "fee72dffde4d398c0023be24cf42ee15d4d0fc0bdd0b62e5d467c041f774bc2f", func := "hypocaust/hypocaustlaw5.ConvTwo", spec := "convTwo", inPlace := ["sync/atomic.AddInt64", "sync/atomic.LoadUint32", "(*internal/sync.Mutex).Lock", "internal/race.Disable", "sync/atomic.CompareAndSwapInt32", "internal/race.Enable", "internal/race.Acquire", "(*internal/sync.Mutex).lockSlow", "internal/sync.runtime_canSpin", "internal/sync.runtime_doSpin", "internal/sync.throw", "internal/sync.runtime_nanotime", "internal/sync.runtime_SemacquireMutex", "sync/atomic.AddInt32", "(*internal/sync.Mutex).Unlock", "internal/race.ReleaseMerge", "(*internal/sync.Mutex).unlockSlow", "internal/sync.fatal", "internal/sync.runtime_Semrelease", "sync/atomic.StoreUint32"], unfollowed := true, recurses := true, apart := false, narrowed := true }
def ConvTwoUptoSaid : Prop := convTwoUptoRow.holds Try.pinned (OpenSpec.upto convTwoSpec)

/-- 'hypocaustlaw4.CodeAny', WHERE WHAT IT READS IS OF BULK AT MOST 1048576: true; the input reads as it did. -/
def codeAnyUptoRow : OpenClaim := { program := "ytnfodhagfcjfpaa", sum := "fee72dffde4d398c0023be24cf42ee15d4d0fc0bdd0b62e5d467c041f774bc2f", func := "hypocaust/hypocaustlaw4.CodeAny", spec := "codeAny", inPlace := ["sync/atomic.AddInt64", "sync/atomic.LoadUint32", "(*internal/sync.Mutex).Lock", "internal/race.Disable", "sync/atomic.CompareAndSwapInt32", "internal/race.Enable", "internal/race.Acquire", "(*internal/sync.Mutex).lockSlow", "internal/sync.runtime_canSpin", "internal/sync.runtime_doSpin", "internal/sync.throw", "internal/sync.runtime_nanotime", "internal/sync.runtime_SemacquireMutex", "sync/atomic.AddInt32", "(*internal/sync.Mutex).Unlock", "internal/race.ReleaseMerge", "(*internal/sync.Mutex).unlockSlow", "internal/sync.fatal", "internal/sync.runtime_Semrelease", "sync/atomic.StoreUint32"], unfollowed := true, recurses := true, apart := false, narrowed := true }
def CodeAnyUptoSaid : Prop := codeAnyUptoRow.holds Try.pinned (OpenSpec.upto codeAnySpec)

/-- 'hypocaustlaw4.CodeWhole', WHERE WHAT IT READS IS OF BULK AT MOST 1048576: true; the input reads as it did. -/
def codeWholeUptoRow : OpenClaim := { program := "ytnfodhagfcjfpaa", sum := "fee72dffde4d398c0023be24cf42ee15d4d0fc0bdd0b62e5d467c041f774bc2f", func := "hypocaust/hypocaustlaw4.CodeWhole", spec := "codeWhole", inPlace := ["sync/atomic.AddInt64", "sync/atomic.LoadUint32", "(*internal/sync.Mutex).Lock", "internal/race.Disable", "sync/atomic.CompareAndSwapInt32", "internal/race.Enable", "internal/race.Acquire", "(*internal/sync.Mutex).lockSlow", "internal/sync.runtime_canSpin", "internal/sync.runtime_doSpin", "internal/sync.throw", "internal/sync.runtime_nanotime", "internal/sync.runtime_SemacquireMutex", "sync/atomic.AddInt32", "(*internal/sync.Mutex).Unlock", "internal/race.ReleaseMerge", "(*internal/sync.Mutex).unlockSlow", "internal/sync.fatal", "internal/sync.runtime_Semrelease", "sync/atomic.StoreUint32"], unfollowed := true, recurses := true, apart := false, narrowed := true }
def CodeWholeUptoSaid : Prop := codeWholeUptoRow.holds Try.pinned (OpenSpec.upto codeWholeSpec)

end Rows
end Go.Proofs.Ytnfodhagfcjfpaa
