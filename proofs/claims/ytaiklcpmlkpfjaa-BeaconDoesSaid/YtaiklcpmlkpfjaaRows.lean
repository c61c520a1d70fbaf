/-
  No cell of these rows narrows 'for every input' (looked for: loops, veiled, ifaces, maps, wideKeys, modest, calm, conditions, laid).
  DERIVED. THE GIVEN ROWS OF THIS SEAT. 5 by the template 'for every input the law returns true; each argument reads behind the call as it read before'; 0 by the template 'total and deterministic' (their statements: YtaiklcpmlkpfjaaTotals.lean).
  GIVEN WITH THE SEED: the statements are not yours to turn. If you find one false, say at which input.
  Laid BY PROGRAM, IN A SANDBOX (cutbox-rows.mjs): the forced cells as the released guide's own fill.sh prints them over the translation 7027f1e4121feb25… (all of the seat's roots in one cut). By AI agents, Wed Nov 11 2026. No macro, syntax, notation, axiom, sorry.
-/
import Derived.Test.YtaiklcpmlkpfjaaChecked
import GoSem.Claim
import GoSem.ClaimJoined
import GoSem.ClaimMapViews
import Derived.JoinedTies
import Derived.KernelRfl
namespace Go.Proofs.Ytaiklcpmlkpfjaa
/- THE CELL 'sum', in the pinned program and in every row, IS THE sha256 OF THE DUMP (.gsa) THAT YtaiklcpmlkpfjaaProg.lean LOADS. Nothing in Lean hashes anything: it is a label: what it is worth is what the hold of that sum in a sandbox is worth. -/
noncomputable def Try.pinned : Pinned := { name := "ytaiklcpmlkpfjaa", sum := "7027f1e4121feb25ce39630c28786b7faf5c3653ddc4e735bc5b6cbebc19ca05", checked := Try.checked }
namespace Rows
def none {H : Type} : Left H := { results := [], args := [] }

/-- 'thalweglaw06.BeaconReads': WHATEVER THE INPUT: true; the input reads as it did. -/
def beaconReadsSpec : ChangeSpec := { name := "beaconReads", fn := fun _ => fun
  | [d1, d2] => { results := [.lit (.bool true)], args := [d1, d2] }
  | _ => none }
def beaconReadsRow : OpenClaim := { program := "ytaiklcpmlkpfjaa", sum := "7027f1e4121feb25ce39630c28786b7faf5c3653ddc4e735bc5b6cbebc19ca05", func := "thalweg/thalweglaw06.BeaconReads", spec := "beaconReads", inPlace := ["sync/atomic.LoadPointer", "sync/atomic.CompareAndSwapPointer", "sync/atomic.StoreUint64", "sync/atomic.LoadUint64"], apart := false }
def BeaconReadsSaid : Prop := beaconReadsRow.holds Try.pinned (OpenSpec.ofChange beaconReadsSpec)

/-- ITS FALSE NEIGHBOUR: 'it returns false'. Refute it at one input. -/
def beaconReadsWrong : ChangeSpec := { name := "beaconReads", fn := fun _ => fun
  | [d1, d2] => { results := [.lit (.bool false)], args := [d1, d2] }
  | _ => none }
def BeaconReadsWrongFalsely : Prop := beaconReadsRow.holds Try.pinned (OpenSpec.ofChange beaconReadsWrong)

/-- 'thalweglaw06.BeaconBack': WHATEVER THE INPUT: true; the input reads as it did. -/
def beaconBackSpec : ChangeSpec := { name := "beaconBack", fn := fun _ => fun
  | [d1, d2, d3] => { results := [.lit (.bool true)], args := [d1, d2, d3] }
  | _ => none }
def beaconBackRow : OpenClaim := { program := "ytaiklcpmlkpfjaa", sum := "7027f1e4121feb25ce39630c28786b7faf5c3653ddc4e735bc5b6cbebc19ca05", func := "thalweg/thalweglaw06.BeaconBack", spec := "beaconBack", inPlace := ["sync/atomic.LoadPointer", "sync/atomic.CompareAndSwapPointer", "sync/atomic.StoreUint64", "sync/atomic.LoadUint64"], apart := false }
def BeaconBackSaid : Prop := beaconBackRow.holds Try.pinned (OpenSpec.ofChange beaconBackSpec)

/-- ITS FALSE NEIGHBOUR: 'it returns false'. Refute it at one input. -/
def beaconBackWrong : ChangeSpec := { name := "beaconBack", fn := fun _ => fun
  | [d1, d2, d3] => { results := [.lit (.bool false)], args := [d1, d2, d3] }
  | _ => none }
def BeaconBackWrongFalsely : Prop := beaconBackRow.holds Try.pinned (OpenSpec.ofChange beaconBackWrong)

/-- 'thalweglaw06.BeaconOrder': WHATEVER THE INPUT: true; the input reads as it did. -/
def beaconOrderSpec : ChangeSpec := { name := "beaconOrder", fn := fun _ => fun
  | [d1, d2, d3, d4, d5] => { results := [.lit (.bool true)], args := [d1, d2, d3, d4, d5] }
  | _ => none }
def beaconOrderRow : OpenClaim := { program := "ytaiklcpmlkpfjaa", sum := "7027f1e4121feb25ce39630c28786b7faf5c3653ddc4e735bc5b6cbebc19ca05", func := "thalweg/thalweglaw06.BeaconOrder", spec := "beaconOrder", inPlace := ["sync/atomic.StoreUint64", "sync/atomic.LoadUint64", "slices.overlaps[thalweg/api.Echo]"], unfollowed := true, recurses := true, apart := false }
def BeaconOrderSaid : Prop := beaconOrderRow.holds Try.pinned (OpenSpec.ofChange beaconOrderSpec)

/-- ITS FALSE NEIGHBOUR: 'it returns false'. Refute it at one input. -/
def beaconOrderWrong : ChangeSpec := { name := "beaconOrder", fn := fun _ => fun
  | [d1, d2, d3, d4, d5] => { results := [.lit (.bool false)], args := [d1, d2, d3, d4, d5] }
  | _ => none }
def BeaconOrderWrongFalsely : Prop := beaconOrderRow.holds Try.pinned (OpenSpec.ofChange beaconOrderWrong)

/-- 'thalweglaw06.BeaconDoes': WHATEVER THE INPUT: true; the input reads as it did. -/
def beaconDoesSpec : ChangeSpec := { name := "beaconDoes", fn := fun _ => fun
  | [d1, d2, d3] => { results := [.lit (.bool true)], args := [d1, d2, d3] }
  | _ => none }
def beaconDoesRow : OpenClaim := { program := "ytaiklcpmlkpfjaa", sum := "7027f1e4121feb25ce39630c28786b7faf5c3653ddc4e735bc5b6cbebc19ca05", func := "thalweg/thalweglaw06.BeaconDoes", spec := "beaconDoes", inPlace := ["sync/atomic.StoreUint64", "sync/atomic.LoadUint64", "slices.overlaps[thalweg/api.Echo]"], unfollowed := true, recurses := true, apart := false }
def BeaconDoesSaid : Prop := beaconDoesRow.holds Try.pinned (OpenSpec.ofChange beaconDoesSpec)

/-- ITS FALSE NEIGHBOUR: 'it returns false'. Refute it at one input. -/
def beaconDoesWrong : ChangeSpec := { name := "beaconDoes", fn := fun _ => fun
  | [d1, d2, d3] => { results := [.lit (.bool false)], args := [d1, d2, d3] }
  | _ => none }
def BeaconDoesWrongFalsely : Prop := beaconDoesRow.holds Try.pinned (OpenSpec.ofChange beaconDoesWrong)

/-- 'thalweglaw06.BeaconHears': WHATEVER THE INPUT: true; the input reads as it did. -/
def beaconHearsSpec : ChangeSpec := { name := "beaconHears", fn := fun _ => fun
  | [d1, d2, d3, d4] => { results := [.lit (.bool true)], args := [d1, d2, d3, d4] }
  | _ => none }
def beaconHearsRow : OpenClaim := { program := "ytaiklcpmlkpfjaa", sum := "7027f1e4121feb25ce39630c28786b7faf5c3653ddc4e735bc5b6cbebc19ca05", func := "thalweg/thalweglaw06.BeaconHears", spec := "beaconHears", inPlace := ["slices.overlaps[thalweg/api.Echo]", "sync/atomic.StoreUint64", "sync/atomic.LoadUint64"], unfollowed := true, recurses := true, apart := false }
def BeaconHearsSaid : Prop := beaconHearsRow.holds Try.pinned (OpenSpec.ofChange beaconHearsSpec)

/-- ITS FALSE NEIGHBOUR: 'it returns false'. Refute it at one input. -/
def beaconHearsWrong : ChangeSpec := { name := "beaconHears", fn := fun _ => fun
  | [d1, d2, d3, d4] => { results := [.lit (.bool false)], args := [d1, d2, d3, d4] }
  | _ => none }
def BeaconHearsWrongFalsely : Prop := beaconHearsRow.holds Try.pinned (OpenSpec.ofChange beaconHearsWrong)

/- THE SECOND FORM. 'bulk': how many values and letters a reading holds, each counted each time it is reached (what is shared counts as often as it is met; a slice's spare places count too). A statement '..UptoSaid' is the law's where the arguments, and the package variables that the reading takes, are together of bulk at most 1048576: NARROWER than '..Said'. Prove '..Said' where nothing that the law and all that it calls make is longer than what came in: it says more and counts as full. Else prove '..UptoSaid'. A law counts once. -/
mutual
def uptoBulk {H : Type} : DataW H → Nat
  | .lit (.string bytes) => bytes.length + 1
  | .lit _ => 1
  | .nil => 1
  | .ptr d => uptoBulk d + 1
  | .slice elems spare => uptoBulkAll elems + uptoBulkAll spare + 1
  | .agg parts => uptoBulkAll parts + 1
  | .iface _ d => uptoBulk d + 1
  | .map entries => uptoBulkEntries entries + 1
  | .held _ => 1
def uptoBulkAll {H : Type} : List (DataW H) → Nat
  | [] => 0
  | d :: r => uptoBulk d + uptoBulkAll r
def uptoBulkEntries {H : Type} : List (Lit × DataW H) → Nat
  | [] => 0
  | x :: r => uptoBulkEntry x + uptoBulkEntries r
def uptoBulkEntry {H : Type} : Lit × DataW H → Nat
  | (.string bytes, d) => bytes.length + uptoBulk d + 1
  | (_, d) => uptoBulk d + 1
 end
def uptoSmall : (H : Type) → List (DataW H) → Bool := fun _ ds => decide (uptoBulkAll ds ≤ 1048576)
def OpenSpec.upto (s : _root_.Go.ChangeSpec) : _root_.Go.OpenSpec := { _root_.Go.OpenSpec.ofChange s with cond := some uptoSmall }

/-- 'thalweglaw06.BeaconReads', WHERE WHAT IT READS IS OF BULK AT MOST 1048576: true; the input reads as it did. -/
def beaconReadsUptoRow : OpenClaim := { program := "ytaiklcpmlkpfjaa", sum := "7027f1e4121feb25ce39630c28786b7faf5c3653ddc4e735bc5b6cbebc19ca05", func := "thalweg/thalweglaw06.BeaconReads", spec := "beaconReads", inPlace := ["sync/atomic.LoadPointer", "sync/atomic.CompareAndSwapPointer", "sync/atomic.StoreUint64", "sync/atomic.LoadUint64"], apart := false, narrowed := true }
def BeaconReadsUptoSaid : Prop := beaconReadsUptoRow.holds Try.pinned (OpenSpec.upto beaconReadsSpec)

/-- 'thalweglaw06.BeaconBack', WHERE WHAT IT READS IS OF BULK AT MOST 1048576: true; the input reads as it did. -/
def beaconBackUptoRow : OpenClaim := { program := "ytaiklcpmlkpfjaa", sum := "7027f1e4121feb25ce39630c28786b7faf5c3653ddc4e735bc5b6cbebc19ca05", func := "thalweg/thalweglaw06.BeaconBack", spec := "beaconBack", inPlace := ["sync/atomic.LoadPointer", "sync/atomic.CompareAndSwapPointer", "sync/atomic.StoreUint64", "sync/atomic.LoadUint64"], apart := false, narrowed := true }
def BeaconBackUptoSaid : Prop := beaconBackUptoRow.holds Try.pinned (OpenSpec.upto beaconBackSpec)

/-- 'thalweglaw06.BeaconOrder', WHERE WHAT IT READS IS OF BULK AT MOST 1048576: true; the input reads as it did. -/
def beaconOrderUptoRow : OpenClaim := { program := "ytaiklcpmlkpfjaa", sum := "7027f1e4121feb25ce39630c28786b7faf5c3653ddc4e735bc5b6cbebc19ca05", func := "thalweg/thalweglaw06.BeaconOrder", spec := "beaconOrder", inPlace := ["sync/atomic.StoreUint64", "sync/atomic.LoadUint64", "slices.overlaps[thalweg/api.Echo]"], unfollowed := true, recurses := true, apart := false, narrowed := true }
def BeaconOrderUptoSaid : Prop := beaconOrderUptoRow.holds Try.pinned (OpenSpec.upto beaconOrderSpec)

/-- 'thalweglaw06.BeaconDoes', WHERE WHAT IT READS IS OF BULK AT MOST 1048576: true; the input reads as it did. -/
def beaconDoesUptoRow : OpenClaim := { program := "ytaiklcpmlkpfjaa", sum := "7027f1e4121feb25ce39630c28786b7faf5c3653ddc4e735bc5b6cbebc19ca05", func := "thalweg/thalweglaw06.BeaconDoes", spec := "beaconDoes", inPlace := ["sync/atomic.StoreUint64", "sync/atomic.LoadUint64", "slices.overlaps[thalweg/api.Echo]"], unfollowed := true, recurses := true, apart := false, narrowed := true }
def BeaconDoesUptoSaid : Prop := beaconDoesUptoRow.holds Try.pinned (OpenSpec.upto beaconDoesSpec)

/-- 'thalweglaw06.BeaconHears', WHERE WHAT IT READS IS OF BULK AT MOST 1048576: true; the input reads as it did. -/
def beaconHearsUptoRow : OpenClaim := { program := "ytaiklcpmlkpfjaa", sum := "7027f1e4121feb25ce39630c28786b7faf5c3653ddc4e735bc5b6cbebc19ca05", func := "thalweg/thalweglaw06.BeaconHears", spec := "beaconHears", inPlace := ["slices.overlaps[thalweg/api.Echo]", "sync/atomic.StoreUint64", "sync/atomic.LoadUint64"], unfollowed := true, recurses := true, apart := false, narrowed := true }
def BeaconHearsUptoSaid : Prop := beaconHearsUptoRow.holds Try.pinned (OpenSpec.upto beaconHearsSpec)

end Rows
end Go.Proofs.Ytaiklcpmlkpfjaa
