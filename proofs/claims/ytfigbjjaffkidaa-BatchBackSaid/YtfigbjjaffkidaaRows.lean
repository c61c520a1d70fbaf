/-
  No cell of these rows narrows 'for every input' (looked for: loops, veiled, ifaces, maps, wideKeys, modest, calm, conditions, laid).
  DERIVED. THE GIVEN ROWS OF THIS SEAT. 5 by the template 'for every input the law returns true; each argument reads behind the call as it read before'; 0 by the template 'total and deterministic' (their statements: YtfigbjjaffkidaaTotals.lean).
  GIVEN WITH THE SEED: the statements are not yours to turn. If you find one false, say at which input.
  Laid BY PROGRAM, IN A SANDBOX (cutbox-rows.mjs): the forced cells as the released guide's own fill.sh prints them over the translation c18a0479dbc854ce… (all of the seat's roots in one cut). By AI agents, Wed Nov 11 2026. No macro, syntax, notation, axiom, sorry.
-/
import Derived.Test.YtfigbjjaffkidaaChecked
import GoSem.Claim
import GoSem.ClaimJoined
import GoSem.ClaimMapViews
import Derived.JoinedTies
import Derived.KernelRfl
namespace Go.Proofs.Ytfigbjjaffkidaa
/- THE CELL 'sum', in the pinned program and in every row, IS THE sha256 OF THE DUMP (.gsa) THAT YtfigbjjaffkidaaProg.lean LOADS. Nothing in Lean hashes anything: it is a label: what it is worth is what the hold of that sum in a sandbox is worth. -/
noncomputable def Try.pinned : Pinned := { name := "ytfigbjjaffkidaa", sum := "c18a0479dbc854ce1a7d1f5c898ad1f0c966e4fc1d9f5f6a77714a21aaeaa502", checked := Try.checked }
namespace Rows
def none {H : Type} : Left H := { results := [], args := [] }

/-- 'thalweglaw05.BatchDoes': WHATEVER THE INPUT: true; the input reads as it did. -/
def batchDoesSpec : ChangeSpec := { name := "batchDoes", fn := fun _ => fun
  | [d] => { results := [.lit (.bool true)], args := [d] }
  | _ => none }
def batchDoesRow : OpenClaim := { program := "ytfigbjjaffkidaa", sum := "c18a0479dbc854ce1a7d1f5c898ad1f0c966e4fc1d9f5f6a77714a21aaeaa502", func := "thalweg/thalweglaw05.BatchDoes", spec := "batchDoes", inPlace := ["sync/atomic.StoreUint64", "sync/atomic.LoadUint64"], unfollowed := true, recurses := true, apart := false }
def BatchDoesSaid : Prop := batchDoesRow.holds Try.pinned (OpenSpec.ofChange batchDoesSpec)

/-- ITS FALSE NEIGHBOUR: 'it returns false'. Refute it at one input. -/
def batchDoesWrong : ChangeSpec := { name := "batchDoes", fn := fun _ => fun
  | [d] => { results := [.lit (.bool false)], args := [d] }
  | _ => none }
def BatchDoesWrongFalsely : Prop := batchDoesRow.holds Try.pinned (OpenSpec.ofChange batchDoesWrong)

/-- 'thalweglaw05.BatchPacks': WHATEVER THE INPUT: true; the input reads as it did. -/
def batchPacksSpec : ChangeSpec := { name := "batchPacks", fn := fun _ => fun
  | [d1, d2, d3] => { results := [.lit (.bool true)], args := [d1, d2, d3] }
  | _ => none }
def batchPacksRow : OpenClaim := { program := "ytfigbjjaffkidaa", sum := "c18a0479dbc854ce1a7d1f5c898ad1f0c966e4fc1d9f5f6a77714a21aaeaa502", func := "thalweg/thalweglaw05.BatchPacks", spec := "batchPacks", inPlace := ["sync/atomic.StoreUint64", "sync/atomic.LoadUint64"], unfollowed := true, recurses := true, apart := false }
def BatchPacksSaid : Prop := batchPacksRow.holds Try.pinned (OpenSpec.ofChange batchPacksSpec)

/-- ITS FALSE NEIGHBOUR: 'it returns false'. Refute it at one input. -/
def batchPacksWrong : ChangeSpec := { name := "batchPacks", fn := fun _ => fun
  | [d1, d2, d3] => { results := [.lit (.bool false)], args := [d1, d2, d3] }
  | _ => none }
def BatchPacksWrongFalsely : Prop := batchPacksRow.holds Try.pinned (OpenSpec.ofChange batchPacksWrong)

/-- 'thalweglaw05.BatchFull': WHATEVER THE INPUT: true; the input reads as it did. -/
def batchFullSpec : ChangeSpec := { name := "batchFull", fn := fun _ => fun
  | [d1, d2, d3] => { results := [.lit (.bool true)], args := [d1, d2, d3] }
  | _ => none }
def batchFullRow : OpenClaim := { program := "ytfigbjjaffkidaa", sum := "c18a0479dbc854ce1a7d1f5c898ad1f0c966e4fc1d9f5f6a77714a21aaeaa502", func := "thalweg/thalweglaw05.BatchFull", spec := "batchFull", inPlace := ["sync/atomic.StoreUint64", "sync/atomic.LoadUint64"], unfollowed := true, recurses := true, apart := false }
def BatchFullSaid : Prop := batchFullRow.holds Try.pinned (OpenSpec.ofChange batchFullSpec)

/-- ITS FALSE NEIGHBOUR: 'it returns false'. Refute it at one input. -/
def batchFullWrong : ChangeSpec := { name := "batchFull", fn := fun _ => fun
  | [d1, d2, d3] => { results := [.lit (.bool false)], args := [d1, d2, d3] }
  | _ => none }
def BatchFullWrongFalsely : Prop := batchFullRow.holds Try.pinned (OpenSpec.ofChange batchFullWrong)

/-- 'thalweglaw05.BatchWhole': WHATEVER THE INPUT: true; the input reads as it did. -/
def batchWholeSpec : ChangeSpec := { name := "batchWhole", fn := fun _ => fun
  | [d1, d2, d3, d4] => { results := [.lit (.bool true)], args := [d1, d2, d3, d4] }
  | _ => none }
def batchWholeRow : OpenClaim := { program := "ytfigbjjaffkidaa", sum := "c18a0479dbc854ce1a7d1f5c898ad1f0c966e4fc1d9f5f6a77714a21aaeaa502", func := "thalweg/thalweglaw05.BatchWhole", spec := "batchWhole", inPlace := ["sync/atomic.StoreUint64", "sync/atomic.LoadUint64"], unfollowed := true, recurses := true, apart := false }
def BatchWholeSaid : Prop := batchWholeRow.holds Try.pinned (OpenSpec.ofChange batchWholeSpec)

/-- ITS FALSE NEIGHBOUR: 'it returns false'. Refute it at one input. -/
def batchWholeWrong : ChangeSpec := { name := "batchWhole", fn := fun _ => fun
  | [d1, d2, d3, d4] => { results := [.lit (.bool false)], args := [d1, d2, d3, d4] }
  | _ => none }
def BatchWholeWrongFalsely : Prop := batchWholeRow.holds Try.pinned (OpenSpec.ofChange batchWholeWrong)

/-- 'thalweglaw05.BatchBack': WHATEVER THE INPUT: true; the input reads as it did. -/
def batchBackSpec : ChangeSpec := { name := "batchBack", fn := fun _ => fun
  | [d1, d2, d3] => { results := [.lit (.bool true)], args := [d1, d2, d3] }
  | _ => none }
def batchBackRow : OpenClaim := { program := "ytfigbjjaffkidaa", sum := "c18a0479dbc854ce1a7d1f5c898ad1f0c966e4fc1d9f5f6a77714a21aaeaa502", func := "thalweg/thalweglaw05.BatchBack", spec := "batchBack", inPlace := ["sync/atomic.StoreUint64", "sync/atomic.LoadUint64"], unfollowed := true, recurses := true, apart := false }
def BatchBackSaid : Prop := batchBackRow.holds Try.pinned (OpenSpec.ofChange batchBackSpec)

/-- ITS FALSE NEIGHBOUR: 'it returns false'. Refute it at one input. -/
def batchBackWrong : ChangeSpec := { name := "batchBack", fn := fun _ => fun
  | [d1, d2, d3] => { results := [.lit (.bool false)], args := [d1, d2, d3] }
  | _ => none }
def BatchBackWrongFalsely : Prop := batchBackRow.holds Try.pinned (OpenSpec.ofChange batchBackWrong)

/- THE SECOND FORM. 'bulk': how many values and letters a reading holds, each counted each time it is reached (what is shared counts as often as it is met; a slice's spare places count too). A statement '..UptoSaid' is the law's where the arguments, and the package variables that the reading takes, are together of bulk at most 1048576: NARROWER than '..Said'. Prove '..Said' where nothing that the law and all that it calls make is longer than what came in: it says more and counts as full. Else prove '..UptoSaid'. A law counts once. -/
mutual
def uptoBulk {H : Type} : DataW H → Nat
  | .lit (.string bytes) => bytes.length + 1
  | .lit _ => 1
  | .nil => 1
  | .ptr d => uptoBulk d + 1
  | .slice elems spare => uptoBulkAll elems + uptoBulkAll spare + 1
  | .agg parts => uptoBulkAll parts + 1
  | .iface _ d => uptoBulk d + 1
  | .map entries => uptoBulkEntries entries + 1
  | .held _ => 1
def uptoBulkAll {H : Type} : List (DataW H) → Nat
  | [] => 0
  | d :: r => uptoBulk d + uptoBulkAll r
def uptoBulkEntries {H : Type} : List (Lit × DataW H) → Nat
  | [] => 0
  | x :: r => uptoBulkEntry x + uptoBulkEntries r
def uptoBulkEntry {H : Type} : Lit × DataW H → Nat
  | (.string bytes, d) => bytes.length + uptoBulk d + 1
  | (_, d) => uptoBulk d + 1
 end
def uptoSmall : (H : Type) → List (DataW H) → Bool := fun _ ds => decide (uptoBulkAll ds ≤ 1048576)
def OpenSpec.upto (s : _root_.Go.ChangeSpec) : _root_.Go.OpenSpec := { _root_.Go.OpenSpec.ofChange s with cond := some uptoSmall }

/-- 'thalweglaw05.BatchDoes', WHERE WHAT IT READS IS OF BULK AT MOST 1048576: true; the input reads as it did. -/
def batchDoesUptoRow : OpenClaim := { program := "ytfigbjjaffkidaa", sum := "c18a0479dbc854ce1a7d1f5c898ad1f0c966e4fc1d9f5f6a77714a21aaeaa502", func := "thalweg/thalweglaw05.BatchDoes", spec := "batchDoes", inPlace := ["sync/atomic.StoreUint64", "sync/atomic.LoadUint64"], unfollowed := true, recurses := true, apart := false, narrowed := true }
def BatchDoesUptoSaid : Prop := batchDoesUptoRow.holds Try.pinned (OpenSpec.upto batchDoesSpec)

/-- 'thalweglaw05.BatchPacks', WHERE WHAT IT READS IS OF BULK AT MOST 1048576: true; the input reads as it did. -/
def batchPacksUptoRow : OpenClaim := { program := "ytfigbjjaffkidaa", sum := "c18a0479dbc854ce1a7d1f5c898ad1f0c966e4fc1d9f5f6a77714a21aaeaa502", func := "thalweg/thalweglaw05.BatchPacks", spec := "batchPacks", inPlace := ["sync/atomic.StoreUint64", "sync/atomic.LoadUint64"], unfollowed := true, recurses := true, apart := false, narrowed := true }
def BatchPacksUptoSaid : Prop := batchPacksUptoRow.holds Try.pinned (OpenSpec.upto batchPacksSpec)

/-- 'thalweglaw05.BatchFull', WHERE WHAT IT READS IS OF BULK AT MOST 1048576: true; the input reads as it did. -/
def batchFullUptoRow : OpenClaim := { program := "ytfigbjjaffkidaa", sum := "c18a0479dbc854ce1a7d1f5c898ad1f0c966e4fc1d9f5f6a77714a21aaeaa502", func := "thalweg/thalweglaw05.BatchFull", spec := "batchFull", inPlace := ["sync/atomic.StoreUint64", "sync/atomic.LoadUint64"], unfollowed := true, recurses := true, apart := false, narrowed := true }
def BatchFullUptoSaid : Prop := batchFullUptoRow.holds Try.pinned (OpenSpec.upto batchFullSpec)

/-- 'thalweglaw05.BatchWhole', WHERE WHAT IT READS IS OF BULK AT MOST 1048576: true; the input reads as it did. -/
def batchWholeUptoRow : OpenClaim := { program := "ytfigbjjaffkidaa", sum := "c18a0479dbc854ce1a7d1f5c898ad1f0c966e4fc1d9f5f6a77714a21aaeaa502", func := "thalweg/thalweglaw05.BatchWhole", spec := "batchWhole", inPlace := ["sync/atomic.StoreUint64", "sync/atomic.LoadUint64"], unfollowed := true, recurses := true, apart := false, narrowed := true }
def BatchWholeUptoSaid : Prop := batchWholeUptoRow.holds Try.pinned (OpenSpec.upto batchWholeSpec)

/-- 'thalweglaw05.BatchBack', WHERE WHAT IT READS IS OF BULK AT MOST 1048576: true; the input reads as it did. -/
def batchBackUptoRow : OpenClaim := { program := "ytfigbjjaffkidaa", sum := "c18a0479dbc854ce1a7d1f5c898ad1f0c966e4fc1d9f5f6a77714a21aaeaa502", func := "thalweg/thalweglaw05.BatchBack", spec := "batchBack", inPlace := ["sync/atomic.StoreUint64", "sync/atomic.LoadUint64"], unfollowed := true, recurses := true, apart := false, narrowed := true }
def BatchBackUptoSaid : Prop := batchBackUptoRow.holds Try.pinned (OpenSpec.upto batchBackSpec)

end Rows
end Go.Proofs.Ytfigbjjaffkidaa
