/-
  No cell of these rows narrows 'for every input' (looked for: loops, veiled, ifaces, maps, wideKeys, modest, calm, conditions, laid).
  DERIVED. THE GIVEN ROWS OF THIS SEAT. 5 by the template 'for every input the law returns true; each argument reads behind the call as it read before'; 0 by the template 'total and deterministic' (their statements: YtpgmmnlkiogamaaTotals.lean).
  GIVEN WITH THE SEED: the statements are not yours to turn. If you find one false, say at which input.
  Laid BY PROGRAM, IN A SANDBOX (cutbox-rows.mjs): the forced cells as the released guide's own fill.sh prints them over the translation fea93d904a021cb3… (all of the seat's roots in one cut). By AI agents, Wed Nov 11 2026. No macro, syntax, notation, axiom, sorry.
-/
import Derived.Test.YtpgmmnlkiogamaaChecked
import GoSem.Claim
import GoSem.ClaimJoined
import GoSem.ClaimMapViews
import Derived.JoinedTies
import Derived.KernelRfl
namespace Go.Proofs.Ytpgmmnlkiogamaa
/- THE CELL 'sum', in the pinned program and in every row, IS THE sha256 OF THE DUMP (.gsa) THAT YtpgmmnlkiogamaaProg.lean LOADS. Nothing in Lean hashes anything: it is a label: what it is worth is what the hold of that sum in a sandbox is worth. -/
noncomputable def Try.pinned : Pinned := { name := "ytpgmmnlkiogamaa", sum := "fea93d904a021cb34989c272b3b7aaa12bd47945f0e4f06dbb9692de8c79a29c", checked := Try.checked }
namespace Rows
def none {H : Type} : Left H := { results := [], args := [] }

/-- 'thalweglaw09.FrameDoes': WHATEVER THE INPUT: true; the input reads as it did. -/
def frameDoesSpec : ChangeSpec := { name := "frameDoes", fn := fun _ => fun
  | [d1, d2] => { results := [.lit (.bool true)], args := [d1, d2] }
  | _ => none }
def frameDoesRow : OpenClaim := { program := "ytpgmmnlkiogamaa", sum := "fea93d904a021cb34989c272b3b7aaa12bd47945f0e4f06dbb9692de8c79a29c", func := "thalweg/thalweglaw09.FrameDoes", spec := "frameDoes", inPlace := ["sync/atomic.StoreUint64", "sync/atomic.LoadUint64", "sync/atomic.LoadPointer", "sync/atomic.CompareAndSwapPointer"], unfollowed := true, recurses := true, apart := false }
def FrameDoesSaid : Prop := frameDoesRow.holds Try.pinned (OpenSpec.ofChange frameDoesSpec)

/-- ITS FALSE NEIGHBOUR: 'it returns false'. Refute it at one input. -/
def frameDoesWrong : ChangeSpec := { name := "frameDoes", fn := fun _ => fun
  | [d1, d2] => { results := [.lit (.bool false)], args := [d1, d2] }
  | _ => none }
def FrameDoesWrongFalsely : Prop := frameDoesRow.holds Try.pinned (OpenSpec.ofChange frameDoesWrong)

/-- 'thalweglaw09.FrameBack': WHATEVER THE INPUT: true; the input reads as it did. -/
def frameBackSpec : ChangeSpec := { name := "frameBack", fn := fun _ => fun
  | [d1, d2] => { results := [.lit (.bool true)], args := [d1, d2] }
  | _ => none }
def frameBackRow : OpenClaim := { program := "ytpgmmnlkiogamaa", sum := "fea93d904a021cb34989c272b3b7aaa12bd47945f0e4f06dbb9692de8c79a29c", func := "thalweg/thalweglaw09.FrameBack", spec := "frameBack", inPlace := ["sync/atomic.StoreUint64", "sync/atomic.LoadUint64", "sync/atomic.LoadPointer", "sync/atomic.CompareAndSwapPointer"], unfollowed := true, recurses := true, apart := false }
def FrameBackSaid : Prop := frameBackRow.holds Try.pinned (OpenSpec.ofChange frameBackSpec)

/-- ITS FALSE NEIGHBOUR: 'it returns false'. Refute it at one input. -/
def frameBackWrong : ChangeSpec := { name := "frameBack", fn := fun _ => fun
  | [d1, d2] => { results := [.lit (.bool false)], args := [d1, d2] }
  | _ => none }
def FrameBackWrongFalsely : Prop := frameBackRow.holds Try.pinned (OpenSpec.ofChange frameBackWrong)

/-- 'thalweglaw09.FrameSteady': WHATEVER THE INPUT: true; the input reads as it did. -/
def frameSteadySpec : ChangeSpec := { name := "frameSteady", fn := fun _ => fun
  | [d] => { results := [.lit (.bool true)], args := [d] }
  | _ => none }
def frameSteadyRow : OpenClaim := { program := "ytpgmmnlkiogamaa", sum := "fea93d904a021cb34989c272b3b7aaa12bd47945f0e4f06dbb9692de8c79a29c", func := "thalweg/thalweglaw09.FrameSteady", spec := "frameSteady", inPlace := ["sync/atomic.LoadPointer", "sync/atomic.CompareAndSwapPointer", "sync/atomic.StoreUint64", "sync/atomic.LoadUint64"], unfollowed := true, recurses := true, apart := false }
def FrameSteadySaid : Prop := frameSteadyRow.holds Try.pinned (OpenSpec.ofChange frameSteadySpec)

/-- ITS FALSE NEIGHBOUR: 'it returns false'. Refute it at one input. -/
def frameSteadyWrong : ChangeSpec := { name := "frameSteady", fn := fun _ => fun
  | [d] => { results := [.lit (.bool false)], args := [d] }
  | _ => none }
def FrameSteadyWrongFalsely : Prop := frameSteadyRow.holds Try.pinned (OpenSpec.ofChange frameSteadyWrong)

/-- 'thalweglaw09.FrameTurned': WHATEVER THE INPUT: true; the input reads as it did. -/
def frameTurnedSpec : ChangeSpec := { name := "frameTurned", fn := fun _ => fun
  | [d1, d2, d3] => { results := [.lit (.bool true)], args := [d1, d2, d3] }
  | _ => none }
def frameTurnedRow : OpenClaim := { program := "ytpgmmnlkiogamaa", sum := "fea93d904a021cb34989c272b3b7aaa12bd47945f0e4f06dbb9692de8c79a29c", func := "thalweg/thalweglaw09.FrameTurned", spec := "frameTurned", inPlace := ["sync/atomic.StoreUint64", "sync/atomic.LoadUint64", "sync/atomic.LoadPointer", "sync/atomic.CompareAndSwapPointer"], unfollowed := true, recurses := true, apart := false }
def FrameTurnedSaid : Prop := frameTurnedRow.holds Try.pinned (OpenSpec.ofChange frameTurnedSpec)

/-- ITS FALSE NEIGHBOUR: 'it returns false'. Refute it at one input. -/
def frameTurnedWrong : ChangeSpec := { name := "frameTurned", fn := fun _ => fun
  | [d1, d2, d3] => { results := [.lit (.bool false)], args := [d1, d2, d3] }
  | _ => none }
def FrameTurnedWrongFalsely : Prop := frameTurnedRow.holds Try.pinned (OpenSpec.ofChange frameTurnedWrong)

/-- 'thalweglaw09.FrameParts': WHATEVER THE INPUT: true; the input reads as it did. -/
def framePartsSpec : ChangeSpec := { name := "frameParts", fn := fun _ => fun
  | [d1, d2] => { results := [.lit (.bool true)], args := [d1, d2] }
  | _ => none }
def framePartsRow : OpenClaim := { program := "ytpgmmnlkiogamaa", sum := "fea93d904a021cb34989c272b3b7aaa12bd47945f0e4f06dbb9692de8c79a29c", func := "thalweg/thalweglaw09.FrameParts", spec := "frameParts", inPlace := ["sync/atomic.StoreUint64", "sync/atomic.LoadUint64", "sync/atomic.LoadPointer", "sync/atomic.CompareAndSwapPointer"], unfollowed := true, recurses := true, apart := false }
def FramePartsSaid : Prop := framePartsRow.holds Try.pinned (OpenSpec.ofChange framePartsSpec)

/-- ITS FALSE NEIGHBOUR: 'it returns false'. Refute it at one input. -/
def framePartsWrong : ChangeSpec := { name := "frameParts", fn := fun _ => fun
  | [d1, d2] => { results := [.lit (.bool false)], args := [d1, d2] }
  | _ => none }
def FramePartsWrongFalsely : Prop := framePartsRow.holds Try.pinned (OpenSpec.ofChange framePartsWrong)

/- THE SECOND FORM. 'bulk': how many values and letters a reading holds, each counted each time it is reached (what is shared counts as often as it is met; a slice's spare places count too). A statement '..UptoSaid' is the law's where the arguments, and the package variables that the reading takes, are together of bulk at most 1048576: NARROWER than '..Said'. Prove '..Said' where nothing that the law and all that it calls make is longer than what came in: it says more and counts as full. Else prove '..UptoSaid'. A law counts once. -/
mutual
def uptoBulk {H : Type} : DataW H → Nat
  | .lit (.string bytes) => bytes.length + 1
  | .lit _ => 1
  | .nil => 1
  | .ptr d => uptoBulk d + 1
  | .slice elems spare => uptoBulkAll elems + uptoBulkAll spare + 1
  | .agg parts => uptoBulkAll parts + 1
  | .iface _ d => uptoBulk d + 1
  | .map entries => uptoBulkEntries entries + 1
  | .held _ => 1
def uptoBulkAll {H : Type} : List (DataW H) → Nat
  | [] => 0
  | d :: r => uptoBulk d + uptoBulkAll r
def uptoBulkEntries {H : Type} : List (Lit × DataW H) → Nat
  | [] => 0
  | x :: r => uptoBulkEntry x + uptoBulkEntries r
def uptoBulkEntry {H : Type} : Lit × DataW H → Nat
  | (.string bytes, d) => bytes.length + uptoBulk d + 1
  | (_, d) => uptoBulk d + 1
 end
def uptoSmall : (H : Type) → List (DataW H) → Bool := fun _ ds => decide (uptoBulkAll ds ≤ 1048576)
def OpenSpec.upto (s : _root_.Go.ChangeSpec) : _root_.Go.OpenSpec := { _root_.Go.OpenSpec.ofChange s with cond := some uptoSmall }

/-- 'thalweglaw09.FrameDoes', WHERE WHAT IT READS IS OF BULK AT MOST 1048576: true; the input reads as it did. -/
def frameDoesUptoRow : OpenClaim := { program := "ytpgmmnlkiogamaa", sum := "fea93d904a021cb34989c272b3b7aaa12bd47945f0e4f06dbb9692de8c79a29c", func := "thalweg/thalweglaw09.FrameDoes", spec := "frameDoes", inPlace := ["sync/atomic.StoreUint64", "sync/atomic.LoadUint64", "sync/atomic.LoadPointer", "sync/atomic.CompareAndSwapPointer"], unfollowed := true, recurses := true, apart := false, narrowed := true }
def FrameDoesUptoSaid : Prop := frameDoesUptoRow.holds Try.pinned (OpenSpec.upto frameDoesSpec)

/-- 'thalweglaw09.FrameBack', WHERE WHAT IT READS IS OF BULK AT MOST 1048576: true; the input reads as it did. -/
def frameBackUptoRow : OpenClaim := { program := "ytpgmmnlkiogamaa", sum := "fea93d904a021cb34989c272b3b7aaa12bd47945f0e4f06dbb9692de8c79a29c", func := "thalweg/thalweglaw09.FrameBack", spec := "frameBack", inPlace := ["sync/atomic.StoreUint64", "sync/atomic.LoadUint64", "sync/atomic.LoadPointer", "sync/atomic.CompareAndSwapPointer"], unfollowed := true, recurses := true, apart := false, narrowed := true }
def FrameBackUptoSaid : Prop := frameBackUptoRow.holds Try.pinned (OpenSpec.upto frameBackSpec)

/-- 'thalweglaw09.FrameSteady', WHERE WHAT IT READS IS OF BULK AT MOST 1048576: true; the input reads as it did. -/
def frameSteadyUptoRow : OpenClaim := { program := "ytpgmmnlkiogamaa", sum := "fea93d904a021cb34989c272b3b7aaa12bd47945f0e4f06dbb9692de8c79a29c", func := "thalweg/thalweglaw09.FrameSteady", spec := "frameSteady", inPlace := ["sync/atomic.LoadPointer", "sync/atomic.CompareAndSwapPointer", "sync/atomic.StoreUint64", "sync/atomic.LoadUint64"], unfollowed := true, recurses := true, apart := false, narrowed := true }
def FrameSteadyUptoSaid : Prop := frameSteadyUptoRow.holds Try.pinned (OpenSpec.upto frameSteadySpec)

/-- 'thalweglaw09.FrameTurned', WHERE WHAT IT READS IS OF BULK AT MOST 1048576: true; the input reads as it did. -/
def frameTurnedUptoRow : OpenClaim := { program := "ytpgmmnlkiogamaa", sum := "fea93d904a021cb34989c272b3b7aaa12bd47945f0e4f06dbb9692de8c79a29c", func := "thalweg/thalweglaw09.FrameTurned", spec := "frameTurned", inPlace := ["sync/atomic.StoreUint64", "sync/atomic.LoadUint64", "sync/atomic.LoadPointer", "sync/atomic.CompareAndSwapPointer"], unfollowed := true, recurses := true, apart := false, narrowed := true }
def FrameTurnedUptoSaid : Prop := frameTurnedUptoRow.holds Try.pinned (OpenSpec.upto frameTurnedSpec)

/-- 'thalweglaw09.FrameParts', WHERE WHAT IT READS IS OF BULK AT MOST 1048576: true; the input reads as it did. -/
def framePartsUptoRow : OpenClaim := { program := "ytpgmmnlkiogamaa", sum := "fea93d904a021cb34989c272b3b7aaa12bd47945f0e4f06dbb9692de8c79a29c", func := "thalweg/thalweglaw09.FrameParts", spec := "frameParts", inPlace := ["sync/atomic.StoreUint64", "sync/atomic.LoadUint64", "sync/atomic.LoadPointer", "sync/atomic.CompareAndSwapPointer"], unfollowed := true, recurses := true, apart := false, narrowed := true }
def FramePartsUptoSaid : Prop := framePartsUptoRow.holds Try.pinned (OpenSpec.upto framePartsSpec)

end Rows
end Go.Proofs.Ytpgmmnlkiogamaa
