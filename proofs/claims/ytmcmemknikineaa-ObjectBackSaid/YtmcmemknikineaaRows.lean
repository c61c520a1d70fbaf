/-
  No cell of these rows narrows 'for every input' (looked for: loops, veiled, ifaces, maps, wideKeys, modest, calm, conditions, laid).
  DERIVED. THE GIVEN ROWS OF THIS SEAT. 4 by the template 'for every input the law returns true; each argument reads behind the call as it read before'; 0 by the template 'total and deterministic' (their statements: YtmcmemknikineaaTotals.lean).
  GIVEN WITH THE SEED: the statements are not yours to turn. If you find one false, say at which input.
  Laid BY PROGRAM, IN A SANDBOX (cutbox-rows.mjs): the forced cells as the released guide's own fill.sh prints them over the translation 9bb65ca76d6aa94d… (all of the seat's roots in one cut). By AI agents, Wed Nov 11 2026. No macro, syntax, notation, axiom, sorry.
-/
import Derived.Test.YtmcmemknikineaaChecked
import GoSem.Claim
import GoSem.ClaimJoined
import GoSem.ClaimMapViews
import Derived.JoinedTies
import Derived.KernelRfl
namespace Go.Proofs.Ytmcmemknikineaa
/- THE CELL 'sum', in the pinned program and in every row, IS THE sha256 OF THE DUMP (.gsa) THAT YtmcmemknikineaaProg.lean LOADS. Nothing in Lean hashes anything: it is a label: what it is worth is what the hold of that sum in a sandbox is worth. -/
noncomputable def Try.pinned : Pinned := { name := "ytmcmemknikineaa", sum := "9bb65ca76d6aa94d8edead1a145fa6cca350252f19ce783f97a5216dcab491a6", checked := Try.checked }
namespace Rows
def none {H : Type} : Left H := { results := [], args := [] }

/-- 'thalweglaw04.ObjectApart': WHATEVER THE INPUT: true; the input reads as it did. -/
def objectApartSpec : ChangeSpec := { name := "objectApart", fn := fun _ => fun
  | [d1, d2] => { results := [.lit (.bool true)], args := [d1, d2] }
  | _ => none }
def objectApartRow : OpenClaim := { program := "ytmcmemknikineaa", sum := "9bb65ca76d6aa94d8edead1a145fa6cca350252f19ce783f97a5216dcab491a6", func := "thalweg/thalweglaw04.ObjectApart", spec := "objectApart", inPlace := ["sync/atomic.StoreUint64", "sync/atomic.LoadUint64"], apart := false }
def ObjectApartSaid : Prop := objectApartRow.holds Try.pinned (OpenSpec.ofChange objectApartSpec)

/-- ITS FALSE NEIGHBOUR: 'it returns false'. Refute it at one input. -/
def objectApartWrong : ChangeSpec := { name := "objectApart", fn := fun _ => fun
  | [d1, d2] => { results := [.lit (.bool false)], args := [d1, d2] }
  | _ => none }
def ObjectApartWrongFalsely : Prop := objectApartRow.holds Try.pinned (OpenSpec.ofChange objectApartWrong)

/-- 'thalweglaw04.ObjectDoes': WHATEVER THE INPUT: true; the input reads as it did. -/
def objectDoesSpec : ChangeSpec := { name := "objectDoes", fn := fun _ => fun
  | [d] => { results := [.lit (.bool true)], args := [d] }
  | _ => none }
def objectDoesRow : OpenClaim := { program := "ytmcmemknikineaa", sum := "9bb65ca76d6aa94d8edead1a145fa6cca350252f19ce783f97a5216dcab491a6", func := "thalweg/thalweglaw04.ObjectDoes", spec := "objectDoes", inPlace := ["sync/atomic.StoreUint64", "sync/atomic.LoadUint64"], apart := false }
def ObjectDoesSaid : Prop := objectDoesRow.holds Try.pinned (OpenSpec.ofChange objectDoesSpec)

/-- ITS FALSE NEIGHBOUR: 'it returns false'. Refute it at one input. -/
def objectDoesWrong : ChangeSpec := { name := "objectDoes", fn := fun _ => fun
  | [d] => { results := [.lit (.bool false)], args := [d] }
  | _ => none }
def ObjectDoesWrongFalsely : Prop := objectDoesRow.holds Try.pinned (OpenSpec.ofChange objectDoesWrong)

/-- 'thalweglaw04.ObjectSizes': WHATEVER THE INPUT: true; the input reads as it did. -/
def objectSizesSpec : ChangeSpec := { name := "objectSizes", fn := fun _ => fun
  | [d] => { results := [.lit (.bool true)], args := [d] }
  | _ => none }
def objectSizesRow : OpenClaim := { program := "ytmcmemknikineaa", sum := "9bb65ca76d6aa94d8edead1a145fa6cca350252f19ce783f97a5216dcab491a6", func := "thalweg/thalweglaw04.ObjectSizes", spec := "objectSizes", inPlace := ["sync/atomic.StoreUint64", "sync/atomic.LoadUint64"], apart := false }
def ObjectSizesSaid : Prop := objectSizesRow.holds Try.pinned (OpenSpec.ofChange objectSizesSpec)

/-- ITS FALSE NEIGHBOUR: 'it returns false'. Refute it at one input. -/
def objectSizesWrong : ChangeSpec := { name := "objectSizes", fn := fun _ => fun
  | [d] => { results := [.lit (.bool false)], args := [d] }
  | _ => none }
def ObjectSizesWrongFalsely : Prop := objectSizesRow.holds Try.pinned (OpenSpec.ofChange objectSizesWrong)

/-- 'thalweglaw04.ObjectBack': WHATEVER THE INPUT: true; the input reads as it did. -/
def objectBackSpec : ChangeSpec := { name := "objectBack", fn := fun _ => fun
  | [d1, d2, d3] => { results := [.lit (.bool true)], args := [d1, d2, d3] }
  | _ => none }
def objectBackRow : OpenClaim := { program := "ytmcmemknikineaa", sum := "9bb65ca76d6aa94d8edead1a145fa6cca350252f19ce783f97a5216dcab491a6", func := "thalweg/thalweglaw04.ObjectBack", spec := "objectBack", inPlace := ["sync/atomic.StoreUint64", "sync/atomic.LoadUint64"], apart := false }
def ObjectBackSaid : Prop := objectBackRow.holds Try.pinned (OpenSpec.ofChange objectBackSpec)

/-- ITS FALSE NEIGHBOUR: 'it returns false'. Refute it at one input. -/
def objectBackWrong : ChangeSpec := { name := "objectBack", fn := fun _ => fun
  | [d1, d2, d3] => { results := [.lit (.bool false)], args := [d1, d2, d3] }
  | _ => none }
def ObjectBackWrongFalsely : Prop := objectBackRow.holds Try.pinned (OpenSpec.ofChange objectBackWrong)

/- THE SECOND FORM. 'bulk': how many values and letters a reading holds, each counted each time it is reached (what is shared counts as often as it is met; a slice's spare places count too). A statement '..UptoSaid' is the law's where the arguments, and the package variables that the reading takes, are together of bulk at most 1048576: NARROWER than '..Said'. Prove '..Said' where nothing that the law and all that it calls make is longer than what came in: it says more and counts as full. Else prove '..UptoSaid'. A law counts once. -/
mutual
def uptoBulk {H : Type} : DataW H → Nat
  | .lit (.string bytes) => bytes.length + 1
  | .lit _ => 1
  | .nil => 1
  | .ptr d => uptoBulk d + 1
  | .slice elems spare => uptoBulkAll elems + uptoBulkAll spare + 1
  | .agg parts => uptoBulkAll parts + 1
  | .iface _ d => uptoBulk d + 1
  | .map entries => uptoBulkEntries entries + 1
  | .held _ => 1
def uptoBulkAll {H : Type} : List (DataW H) → Nat
  | [] => 0
  | d :: r => uptoBulk d + uptoBulkAll r
def uptoBulkEntries {H : Type} : List (Lit × DataW H) → Nat
  | [] => 0
  | x :: r => uptoBulkEntry x + uptoBulkEntries r
def uptoBulkEntry {H : Type} : Lit × DataW H → Nat
  | (.string bytes, d) => bytes.length + uptoBulk d + 1
  | (_, d) => uptoBulk d + 1
 end
def uptoSmall : (H : Type) → List (DataW H) → Bool := fun _ ds => decide (uptoBulkAll ds ≤ 1048576)
def OpenSpec.upto (s : _root_.Go.ChangeSpec) : _root_.Go.OpenSpec := { _root_.Go.OpenSpec.ofChange s with cond := some uptoSmall }

/-- 'thalweglaw04.ObjectApart', WHERE WHAT IT READS IS OF BULK AT MOST 1048576: true; the input reads as it did. -/
def objectApartUptoRow : OpenClaim := { program := "ytmcmemknikineaa", sum := "9bb65ca76d6aa94d8edead1a145fa6cca350252f19ce783f97a5216dcab491a6", func := "thalweg/thalweglaw04.ObjectApart", spec := "objectApart", inPlace := ["sync/atomic.StoreUint64", "sync/atomic.LoadUint64"], apart := false, narrowed := true }
def ObjectApartUptoSaid : Prop := objectApartUptoRow.holds Try.pinned (OpenSpec.upto objectApartSpec)

/-- 'thalweglaw04.ObjectDoes', WHERE WHAT IT READS IS OF BULK AT MOST 1048576: true; the input reads as it did. -/
def objectDoesUptoRow : OpenClaim := { program := "ytmcmemknikineaa", sum := "9bb65ca76d6aa94d8edead1a145fa6cca350252f19ce783f97a5216dcab491a6", func := "thalweg/thalweglaw04.ObjectDoes", spec := "objectDoes", inPlace := ["sync/atomic.StoreUint64", "sync/atomic.LoadUint64"], apart := false, narrowed := true }
def ObjectDoesUptoSaid : Prop := objectDoesUptoRow.holds Try.pinned (OpenSpec.upto objectDoesSpec)

/-- 'thalweglaw04.ObjectSizes', WHERE WHAT IT READS IS OF BULK AT MOST 1048576: true; the input reads as it did. -/
def objectSizesUptoRow : OpenClaim := { program := "ytmcmemknikineaa", sum := "9bb65ca76d6aa94d8edead1a145fa6cca350252f19ce783f97a5216dcab491a6", func := "thalweg/thalweglaw04.ObjectSizes", spec := "objectSizes", inPlace := ["sync/atomic.StoreUint64", "sync/atomic.LoadUint64"], apart := false, narrowed := true }
def ObjectSizesUptoSaid : Prop := objectSizesUptoRow.holds Try.pinned (OpenSpec.upto objectSizesSpec)

/-- 'thalweglaw04.ObjectBack', WHERE WHAT IT READS IS OF BULK AT MOST 1048576: true; the input reads as it did. -/
def objectBackUptoRow : OpenClaim := { program := "ytmcmemknikineaa", sum := "9bb65ca76d6aa94d8edead1a145fa6cca350252f19ce783f97a5216dcab491a6", func := "thalweg/thalweglaw04.ObjectBack", spec := "objectBack", inPlace := ["sync/atomic.StoreUint64", "sync/atomic.LoadUint64"], apart := false, narrowed := true }
def ObjectBackUptoSaid : Prop := objectBackUptoRow.holds Try.pinned (OpenSpec.upto objectBackSpec)

end Rows
end Go.Proofs.Ytmcmemknikineaa
