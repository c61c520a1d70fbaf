/-
  No cell of these rows narrows 'for every input' (looked for: loops, veiled, ifaces, maps, wideKeys, modest, calm, conditions, laid).
  DERIVED. THE GIVEN ROWS OF THIS SEAT. 5 by the template 'for every input the law returns true; each argument reads behind the call as it read before'; 0 by the template 'total and deterministic' (their statements: YtljajnednggebaaTotals.lean).
  GIVEN WITH THE SEED: the statements are not yours to turn. If you find one false, say at which input.
  Laid BY PROGRAM, IN A SANDBOX (cutbox-rows.mjs): the forced cells as the released guide's own fill.sh prints them over the translation 000d790405b8b36e… (all of the seat's roots in one cut). By AI agents, Wed Nov 11 2026. No macro, syntax, notation, axiom, sorry.
-/
import Derived.Test.YtljajnednggebaaChecked
import GoSem.Claim
import GoSem.ClaimJoined
import GoSem.ClaimMapViews
import Derived.JoinedTies
import Derived.KernelRfl
namespace Go.Proofs.Ytljajnednggebaa
/- THE CELL 'sum', in the pinned program and in every row, IS THE sha256 OF THE DUMP (.gsa) THAT YtljajnednggebaaProg.lean LOADS. Nothing in Lean hashes anything: it is a label: what it is worth is what the hold of that sum in a sandbox is worth. -/
noncomputable def Try.pinned : Pinned := { name := "ytljajnednggebaa", sum := "000d790405b8b36ee91255f5b508026c9608e42520c975d74b6622d7d06dcbe3", checked := Try.checked }
namespace Rows
def none {H : Type} : Left H := { results := [], args := [] }

/-- 'thalweglaw11.WheelParts': WHATEVER THE INPUT: true; the input reads as it did. -/
def wheelPartsSpec : ChangeSpec := { name := "wheelParts", fn := fun _ => fun
  | [d1, d2, d3] => { results := [.lit (.bool true)], args := [d1, d2, d3] }
  | _ => none }
def wheelPartsRow : OpenClaim := { program := "ytljajnednggebaa", sum := "000d790405b8b36ee91255f5b508026c9608e42520c975d74b6622d7d06dcbe3", func := "thalweg/thalweglaw11.WheelParts", spec := "wheelParts", inPlace := ["sync/atomic.LoadUint32", "(*internal/sync.Mutex).Lock", "internal/race.Disable", "sync/atomic.CompareAndSwapInt32", "internal/race.Enable", "internal/race.Acquire", "(*internal/sync.Mutex).lockSlow", "internal/sync.runtime_canSpin", "internal/sync.runtime_doSpin", "internal/sync.throw", "internal/sync.runtime_nanotime", "internal/sync.runtime_SemacquireMutex", "sync/atomic.AddInt32", "(*internal/sync.Mutex).Unlock", "internal/race.ReleaseMerge", "(*internal/sync.Mutex).unlockSlow", "internal/sync.fatal", "internal/sync.runtime_Semrelease", "sync/atomic.StoreUint32", "slices.overlaps[thalweg/api.Timer]"], unfollowed := true, recurses := true, apart := false }
def WheelPartsSaid : Prop := wheelPartsRow.holds Try.pinned (OpenSpec.ofChange wheelPartsSpec)

/-- ITS FALSE NEIGHBOUR: 'it returns false'. Refute it at one input. -/
def wheelPartsWrong : ChangeSpec := { name := "wheelParts", fn := fun _ => fun
  | [d1, d2, d3] => { results := [.lit (.bool false)], args := [d1, d2, d3] }
  | _ => none }
def WheelPartsWrongFalsely : Prop := wheelPartsRow.holds Try.pinned (OpenSpec.ofChange wheelPartsWrong)

/-- 'thalweglaw11.WheelAll': WHATEVER THE INPUT: true; the input reads as it did. -/
def wheelAllSpec : ChangeSpec := { name := "wheelAll", fn := fun _ => fun
  | [d] => { results := [.lit (.bool true)], args := [d] }
  | _ => none }
def wheelAllRow : OpenClaim := { program := "ytljajnednggebaa", sum := "000d790405b8b36ee91255f5b508026c9608e42520c975d74b6622d7d06dcbe3", func := "thalweg/thalweglaw11.WheelAll", spec := "wheelAll", inPlace := ["sync/atomic.LoadUint32", "(*internal/sync.Mutex).Lock", "internal/race.Disable", "sync/atomic.CompareAndSwapInt32", "internal/race.Enable", "internal/race.Acquire", "(*internal/sync.Mutex).lockSlow", "internal/sync.runtime_canSpin", "internal/sync.runtime_doSpin", "internal/sync.throw", "internal/sync.runtime_nanotime", "internal/sync.runtime_SemacquireMutex", "sync/atomic.AddInt32", "(*internal/sync.Mutex).Unlock", "internal/race.ReleaseMerge", "(*internal/sync.Mutex).unlockSlow", "internal/sync.fatal", "internal/sync.runtime_Semrelease", "sync/atomic.StoreUint32", "slices.overlaps[thalweg/api.Timer]"], unfollowed := true, recurses := true, apart := false }
def WheelAllSaid : Prop := wheelAllRow.holds Try.pinned (OpenSpec.ofChange wheelAllSpec)

/-- ITS FALSE NEIGHBOUR: 'it returns false'. Refute it at one input. -/
def wheelAllWrong : ChangeSpec := { name := "wheelAll", fn := fun _ => fun
  | [d] => { results := [.lit (.bool false)], args := [d] }
  | _ => none }
def WheelAllWrongFalsely : Prop := wheelAllRow.holds Try.pinned (OpenSpec.ofChange wheelAllWrong)

/-- 'thalweglaw11.WheelDoes': WHATEVER THE INPUT: true; the input reads as it did. -/
def wheelDoesSpec : ChangeSpec := { name := "wheelDoes", fn := fun _ => fun
  | [d1, d2] => { results := [.lit (.bool true)], args := [d1, d2] }
  | _ => none }
def wheelDoesRow : OpenClaim := { program := "ytljajnednggebaa", sum := "000d790405b8b36ee91255f5b508026c9608e42520c975d74b6622d7d06dcbe3", func := "thalweg/thalweglaw11.WheelDoes", spec := "wheelDoes", inPlace := ["sync/atomic.LoadUint32", "(*internal/sync.Mutex).Lock", "internal/race.Disable", "sync/atomic.CompareAndSwapInt32", "internal/race.Enable", "internal/race.Acquire", "(*internal/sync.Mutex).lockSlow", "internal/sync.runtime_canSpin", "internal/sync.runtime_doSpin", "internal/sync.throw", "internal/sync.runtime_nanotime", "internal/sync.runtime_SemacquireMutex", "sync/atomic.AddInt32", "(*internal/sync.Mutex).Unlock", "internal/race.ReleaseMerge", "(*internal/sync.Mutex).unlockSlow", "internal/sync.fatal", "internal/sync.runtime_Semrelease", "sync/atomic.StoreUint32", "slices.overlaps[thalweg/api.Timer]"], unfollowed := true, recurses := true, apart := false }
def WheelDoesSaid : Prop := wheelDoesRow.holds Try.pinned (OpenSpec.ofChange wheelDoesSpec)

/-- ITS FALSE NEIGHBOUR: 'it returns false'. Refute it at one input. -/
def wheelDoesWrong : ChangeSpec := { name := "wheelDoes", fn := fun _ => fun
  | [d1, d2] => { results := [.lit (.bool false)], args := [d1, d2] }
  | _ => none }
def WheelDoesWrongFalsely : Prop := wheelDoesRow.holds Try.pinned (OpenSpec.ofChange wheelDoesWrong)

/-- 'thalweglaw11.WheelLast': WHATEVER THE INPUT: true; the input reads as it did. -/
def wheelLastSpec : ChangeSpec := { name := "wheelLast", fn := fun _ => fun
  | [d1, d2, d3, d4] => { results := [.lit (.bool true)], args := [d1, d2, d3, d4] }
  | _ => none }
def wheelLastRow : OpenClaim := { program := "ytljajnednggebaa", sum := "000d790405b8b36ee91255f5b508026c9608e42520c975d74b6622d7d06dcbe3", func := "thalweg/thalweglaw11.WheelLast", spec := "wheelLast", inPlace := ["sync/atomic.LoadUint32", "(*internal/sync.Mutex).Lock", "internal/race.Disable", "sync/atomic.CompareAndSwapInt32", "internal/race.Enable", "internal/race.Acquire", "(*internal/sync.Mutex).lockSlow", "internal/sync.runtime_canSpin", "internal/sync.runtime_doSpin", "internal/sync.throw", "internal/sync.runtime_nanotime", "internal/sync.runtime_SemacquireMutex", "sync/atomic.AddInt32", "(*internal/sync.Mutex).Unlock", "internal/race.ReleaseMerge", "(*internal/sync.Mutex).unlockSlow", "internal/sync.fatal", "internal/sync.runtime_Semrelease", "sync/atomic.StoreUint32", "slices.overlaps[thalweg/api.Timer]"], unfollowed := true, recurses := true, apart := false }
def WheelLastSaid : Prop := wheelLastRow.holds Try.pinned (OpenSpec.ofChange wheelLastSpec)

/-- ITS FALSE NEIGHBOUR: 'it returns false'. Refute it at one input. -/
def wheelLastWrong : ChangeSpec := { name := "wheelLast", fn := fun _ => fun
  | [d1, d2, d3, d4] => { results := [.lit (.bool false)], args := [d1, d2, d3, d4] }
  | _ => none }
def WheelLastWrongFalsely : Prop := wheelLastRow.holds Try.pinned (OpenSpec.ofChange wheelLastWrong)

/-- 'thalweglaw11.WheelNil': WHATEVER THE INPUT: true; the input reads as it did. -/
def wheelNilSpec : ChangeSpec := { name := "wheelNil", fn := fun _ => fun
  | [d1, d2] => { results := [.lit (.bool true)], args := [d1, d2] }
  | _ => none }
def wheelNilRow : OpenClaim := { program := "ytljajnednggebaa", sum := "000d790405b8b36ee91255f5b508026c9608e42520c975d74b6622d7d06dcbe3", func := "thalweg/thalweglaw11.WheelNil", spec := "wheelNil", inPlace := ["sync/atomic.LoadUint32", "(*internal/sync.Mutex).Lock", "internal/race.Disable", "sync/atomic.CompareAndSwapInt32", "internal/race.Enable", "internal/race.Acquire", "(*internal/sync.Mutex).lockSlow", "internal/sync.runtime_canSpin", "internal/sync.runtime_doSpin", "internal/sync.throw", "internal/sync.runtime_nanotime", "internal/sync.runtime_SemacquireMutex", "sync/atomic.AddInt32", "(*internal/sync.Mutex).Unlock", "internal/race.ReleaseMerge", "(*internal/sync.Mutex).unlockSlow", "internal/sync.fatal", "internal/sync.runtime_Semrelease", "sync/atomic.StoreUint32", "slices.overlaps[thalweg/api.Timer]"], unfollowed := true, recurses := true, apart := false }
def WheelNilSaid : Prop := wheelNilRow.holds Try.pinned (OpenSpec.ofChange wheelNilSpec)

/-- ITS FALSE NEIGHBOUR: 'it returns false'. Refute it at one input. -/
def wheelNilWrong : ChangeSpec := { name := "wheelNil", fn := fun _ => fun
  | [d1, d2] => { results := [.lit (.bool false)], args := [d1, d2] }
  | _ => none }
def WheelNilWrongFalsely : Prop := wheelNilRow.holds Try.pinned (OpenSpec.ofChange wheelNilWrong)

/- THE SECOND FORM. 'bulk': how many values and letters a reading holds, each counted each time it is reached (what is shared counts as often as it is met; a slice's spare places count too). A statement '..UptoSaid' is the law's where the arguments, and the package variables that the reading takes, are together of bulk at most 1048576: NARROWER than '..Said'. Prove '..Said' where nothing that the law and all that it calls make is longer than what came in: it says more and counts as full. Else prove '..UptoSaid'. A law counts once. -/
mutual
def uptoBulk {H : Type} : DataW H → Nat
  | .lit (.string bytes) => bytes.length + 1
  | .lit _ => 1
  | .nil => 1
  | .ptr d => uptoBulk d + 1
  | .slice elems spare => uptoBulkAll elems + uptoBulkAll spare + 1
  | .agg parts => uptoBulkAll parts + 1
  | .iface _ d => uptoBulk d + 1
  | .map entries => uptoBulkEntries entries + 1
  | .held _ => 1
def uptoBulkAll {H : Type} : List (DataW H) → Nat
  | [] => 0
  | d :: r => uptoBulk d + uptoBulkAll r
def uptoBulkEntries {H : Type} : List (Lit × DataW H) → Nat
  | [] => 0
  | x :: r => uptoBulkEntry x + uptoBulkEntries r
def uptoBulkEntry {H : Type} : Lit × DataW H → Nat
  | (.string bytes, d) => bytes.length + uptoBulk d + 1
  | (_, d) => uptoBulk d + 1
 end
def uptoSmall : (H : Type) → List (DataW H) → Bool := fun _ ds => decide (uptoBulkAll ds ≤ 1048576)
def OpenSpec.upto (s : _root_.Go.ChangeSpec) : _root_.Go.OpenSpec := { _root_.Go.OpenSpec.ofChange s with cond := some uptoSmall }

/-- 'thalweglaw11.WheelParts', WHERE WHAT IT READS IS OF BULK AT MOST 1048576: true; the input reads as it did. -/
def wheelPartsUptoRow : OpenClaim := { program := "ytljajnednggebaa", sum := "000d790405b8b36ee91255f5b508026c9608e42520c975d74b6622d7d06dcbe3", func := "thalweg/thalweglaw11.WheelParts", spec := "wheelParts", inPlace := ["sync/atomic.LoadUint32", "(*internal/sync.Mutex).Lock", "internal/race.Disable", "sync/atomic.CompareAndSwapInt32", "internal/race.Enable", "internal/race.Acquire", "(*internal/sync.Mutex).lockSlow", "internal/sync.runtime_canSpin", "internal/sync.runtime_doSpin", "internal/sync.throw", "internal/sync.runtime_nanotime", "internal/sync.runtime_SemacquireMutex", "sync/atomic.AddInt32", "(*internal/sync.Mutex).Unlock", "internal/race.ReleaseMerge", "(*internal/sync.Mutex).unlockSlow", "internal/sync.fatal", "internal/sync.runtime_Semrelease", "sync/atomic.StoreUint32", "slices.overlaps[thalweg/api.Timer]"], unfollowed := true, recurses := true, apart := false, narrowed := true }
def WheelPartsUptoSaid : Prop := wheelPartsUptoRow.holds Try.pinned (OpenSpec.upto wheelPartsSpec)

/-- 'thalweglaw11.WheelAll', WHERE WHAT IT READS IS OF BULK AT MOST 1048576: true; the input reads as it did. -/
def wheelAllUptoRow : OpenClaim := { program := "ytljajnednggebaa", sum := "000d790405b8b36ee91255f5b508026c9608e42520c975d74b6622d7d06dcbe3", func := "thalweg/thalweglaw11.WheelAll", spec := "wheelAll", inPlace := ["sync/atomic.LoadUint32", "(*internal/sync.Mutex).Lock", "internal/race.Disable", "sync/atomic.CompareAndSwapInt32", "internal/race.Enable", "internal/race.Acquire", "(*internal/sync.Mutex).lockSlow", "internal/sync.runtime_canSpin", "internal/sync.runtime_doSpin", "internal/sync.throw", "internal/sync.runtime_nanotime", "internal/sync.runtime_SemacquireMutex", "sync/atomic.AddInt32", "(*internal/sync.Mutex).Unlock", "internal/race.ReleaseMerge", "(*internal/sync.Mutex).unlockSlow", "internal/sync.fatal", "internal/sync.runtime_Semrelease", "sync/atomic.StoreUint32", "slices.overlaps[thalweg/api.Timer]"], unfollowed := true, recurses := true, apart := false, narrowed := true }
def WheelAllUptoSaid : Prop := wheelAllUptoRow.holds Try.pinned (OpenSpec.upto wheelAllSpec)

/-- 'thalweglaw11.WheelDoes', WHERE WHAT IT READS IS OF BULK AT MOST 1048576: true; the input reads as it did. -/
def wheelDoesUptoRow : OpenClaim := { program := "ytljajnednggebaa", sum := "000d790405b8b36ee91255f5b508026c9608e42520c975d74b6622d7d06dcbe3", func := "thalweg/thalweglaw11.WheelDoes", spec := "wheelDoes", inPlace := ["sync/atomic.LoadUint32", "(*internal/sync.Mutex).Lock", "internal/race.Disable", "sync/atomic.CompareAndSwapInt32", "internal/race.Enable", "internal/race.Acquire", "(*internal/sync.Mutex).lockSlow", "internal/sync.runtime_canSpin", "internal/sync.runtime_doSpin", "internal/sync.throw", "internal/sync.runtime_nanotime", "internal/sync.runtime_SemacquireMutex", "sync/atomic.AddInt32", "(*internal/sync.Mutex).Unlock", "internal/race.ReleaseMerge", "(*internal/sync.Mutex).unlockSlow", "internal/sync.fatal", "internal/sync.runtime_Semrelease", "sync/atomic.StoreUint32", "slices.overlaps[thalweg/api.Timer]"], unfollowed := true, recurses := true, apart := false, narrowed := true }
def WheelDoesUptoSaid : Prop := wheelDoesUptoRow.holds Try.pinned (OpenSpec.upto wheelDoesSpec)

/-- 'thalweglaw11.WheelLast', WHERE WHAT IT READS IS OF BULK AT MOST 1048576: true; the input reads as it did. -/
def wheelLastUptoRow : OpenClaim := { program := "ytljajnednggebaa", sum := "000d790405b8b36ee91255f5b508026c9608e42520c975d74b6622d7d06dcbe3", func := "thalweg/thalweglaw11.WheelLast", spec := "wheelLast", inPlace := ["sync/atomic.LoadUint32", "(*internal/sync.Mutex).Lock", "internal/race.Disable", "sync/atomic.CompareAndSwapInt32", "internal/race.Enable", "internal/race.Acquire", "(*internal/sync.Mutex).lockSlow", "internal/sync.runtime_canSpin", "internal/sync.runtime_doSpin", "internal/sync.throw", "internal/sync.runtime_nanotime", "internal/sync.runtime_SemacquireMutex", "sync/atomic.AddInt32", "(*internal/sync.Mutex).Unlock", "internal/race.ReleaseMerge", "(*internal/sync.Mutex).unlockSlow", "internal/sync.fatal", "internal/sync.runtime_Semrelease", "sync/atomic.StoreUint32", "slices.overlaps[thalweg/api.Timer]"], unfollowed := true, recurses := true, apart := false, narrowed := true }
def WheelLastUptoSaid : Prop := wheelLastUptoRow.holds Try.pinned (OpenSpec.upto wheelLastSpec)

/-- 'thalweglaw11.WheelNil', WHERE WHAT IT READS IS OF BULK AT MOST 1048576: true; the input reads as it did. -/
def wheelNilUptoRow : OpenClaim := { program := "ytljajnednggebaa", sum := "000d790405b8b36ee91255f5b508026c9608e42520c975d74b6622d7d06dcbe3", func := "thalweg/thalweglaw11.WheelNil", spec := "wheelNil", inPlace := ["sync/atomic.LoadUint32", "(*internal/sync.Mutex).Lock", "internal/race.Disable", "sync/atomic.CompareAndSwapInt32", "internal/race.Enable", "internal/race.Acquire", "(*internal/sync.Mutex).lockSlow", "internal/sync.runtime_canSpin", "internal/sync.runtime_doSpin", "internal/sync.throw", "internal/sync.runtime_nanotime", "internal/sync.runtime_SemacquireMutex", "sync/atomic.AddInt32", "(*internal/sync.Mutex).Unlock", "internal/race.ReleaseMerge", "(*internal/sync.Mutex).unlockSlow", "internal/sync.fatal", "internal/sync.runtime_Semrelease", "sync/atomic.StoreUint32", "slices.overlaps[thalweg/api.Timer]"], unfollowed := true, recurses := true, apart := false, narrowed := true }
def WheelNilUptoSaid : Prop := wheelNilUptoRow.holds Try.pinned (OpenSpec.upto wheelNilSpec)

end Rows
end Go.Proofs.Ytljajnednggebaa
