/-
  No cell of these rows narrows 'for every input' (looked for: loops, veiled, ifaces, maps, wideKeys, modest, calm, conditions, laid).
  DERIVED. THE GIVEN ROWS OF THIS SEAT. 5 by the template 'for every input the law returns true; each argument reads behind the call as it read before'; 0 by the template 'total and deterministic' (their statements: YtolfbnkdmafomaaTotals.lean).
  GIVEN WITH THE SEED: the statements are not yours to turn. If you find one false, say at which input.
  Laid BY PROGRAM, IN A SANDBOX (cutbox-rows.mjs): the forced cells as the released guide's own fill.sh prints them over the translation 5488570ebc66949d… (all of the seat's roots in one cut). By AI agents, Wed Nov 11 2026. No macro, syntax, notation, axiom, sorry.
-/
import Derived.Test.YtolfbnkdmafomaaChecked
import GoSem.Claim
import GoSem.ClaimJoined
import GoSem.ClaimMapViews
import Derived.JoinedTies
import Derived.KernelRfl
namespace Go.Proofs.Ytolfbnkdmafomaa
/- THE CELL 'sum', in the pinned program and in every row, IS THE sha256 OF THE DUMP (.gsa) THAT YtolfbnkdmafomaaProg.lean LOADS. Nothing in Lean hashes anything: it is a label: what it is worth is what the hold of that sum in a sandbox is worth. -/
noncomputable def Try.pinned : Pinned := { name := "ytolfbnkdmafomaa", sum := "5488570ebc66949de567ef1a24db90182fbbb4032d855dd811ef1acd2e44068d", checked := Try.checked }
namespace Rows
def none {H : Type} : Left H := { results := [], args := [] }

/-- 'thalweglaw07.AckTells': WHATEVER THE INPUT: true; the input reads as it did. -/
def ackTellsSpec : ChangeSpec := { name := "ackTells", fn := fun _ => fun
  | [d1, d2, d3] => { results := [.lit (.bool true)], args := [d1, d2, d3] }
  | _ => none }
def ackTellsRow : OpenClaim := { program := "ytolfbnkdmafomaa", sum := "5488570ebc66949de567ef1a24db90182fbbb4032d855dd811ef1acd2e44068d", func := "thalweg/thalweglaw07.AckTells", spec := "ackTells", unfollowed := true, recurses := true, apart := false }
def AckTellsSaid : Prop := ackTellsRow.holds Try.pinned (OpenSpec.ofChange ackTellsSpec)

/-- ITS FALSE NEIGHBOUR: 'it returns false'. Refute it at one input. -/
def ackTellsWrong : ChangeSpec := { name := "ackTells", fn := fun _ => fun
  | [d1, d2, d3] => { results := [.lit (.bool false)], args := [d1, d2, d3] }
  | _ => none }
def AckTellsWrongFalsely : Prop := ackTellsRow.holds Try.pinned (OpenSpec.ofChange ackTellsWrong)

/-- 'thalweglaw07.AckMore': WHATEVER THE INPUT: true; the input reads as it did. -/
def ackMoreSpec : ChangeSpec := { name := "ackMore", fn := fun _ => fun
  | [d1, d2, d3, d4] => { results := [.lit (.bool true)], args := [d1, d2, d3, d4] }
  | _ => none }
def ackMoreRow : OpenClaim := { program := "ytolfbnkdmafomaa", sum := "5488570ebc66949de567ef1a24db90182fbbb4032d855dd811ef1acd2e44068d", func := "thalweg/thalweglaw07.AckMore", spec := "ackMore", unfollowed := true, recurses := true, apart := false }
def AckMoreSaid : Prop := ackMoreRow.holds Try.pinned (OpenSpec.ofChange ackMoreSpec)

/-- ITS FALSE NEIGHBOUR: 'it returns false'. Refute it at one input. -/
def ackMoreWrong : ChangeSpec := { name := "ackMore", fn := fun _ => fun
  | [d1, d2, d3, d4] => { results := [.lit (.bool false)], args := [d1, d2, d3, d4] }
  | _ => none }
def AckMoreWrongFalsely : Prop := ackMoreRow.holds Try.pinned (OpenSpec.ofChange ackMoreWrong)

/-- 'thalweglaw07.AckDoes': WHATEVER THE INPUT: true; the input reads as it did. -/
def ackDoesSpec : ChangeSpec := { name := "ackDoes", fn := fun _ => fun
  | [d1, d2, d3, d4] => { results := [.lit (.bool true)], args := [d1, d2, d3, d4] }
  | _ => none }
def ackDoesRow : OpenClaim := { program := "ytolfbnkdmafomaa", sum := "5488570ebc66949de567ef1a24db90182fbbb4032d855dd811ef1acd2e44068d", func := "thalweg/thalweglaw07.AckDoes", spec := "ackDoes", inPlace := ["sync/atomic.StoreUint64", "sync/atomic.LoadUint64"], unfollowed := true, recurses := true, apart := false }
def AckDoesSaid : Prop := ackDoesRow.holds Try.pinned (OpenSpec.ofChange ackDoesSpec)

/-- ITS FALSE NEIGHBOUR: 'it returns false'. Refute it at one input. -/
def ackDoesWrong : ChangeSpec := { name := "ackDoes", fn := fun _ => fun
  | [d1, d2, d3, d4] => { results := [.lit (.bool false)], args := [d1, d2, d3, d4] }
  | _ => none }
def AckDoesWrongFalsely : Prop := ackDoesRow.holds Try.pinned (OpenSpec.ofChange ackDoesWrong)

/-- 'thalweglaw07.AckReads': WHATEVER THE INPUT: true; the input reads as it did. -/
def ackReadsSpec : ChangeSpec := { name := "ackReads", fn := fun _ => fun
  | [d1, d2] => { results := [.lit (.bool true)], args := [d1, d2] }
  | _ => none }
def ackReadsRow : OpenClaim := { program := "ytolfbnkdmafomaa", sum := "5488570ebc66949de567ef1a24db90182fbbb4032d855dd811ef1acd2e44068d", func := "thalweg/thalweglaw07.AckReads", spec := "ackReads", unfollowed := true, recurses := true, apart := false }
def AckReadsSaid : Prop := ackReadsRow.holds Try.pinned (OpenSpec.ofChange ackReadsSpec)

/-- ITS FALSE NEIGHBOUR: 'it returns false'. Refute it at one input. -/
def ackReadsWrong : ChangeSpec := { name := "ackReads", fn := fun _ => fun
  | [d1, d2] => { results := [.lit (.bool false)], args := [d1, d2] }
  | _ => none }
def AckReadsWrongFalsely : Prop := ackReadsRow.holds Try.pinned (OpenSpec.ofChange ackReadsWrong)

/-- 'thalweglaw07.AckBack': WHATEVER THE INPUT: true; the input reads as it did. -/
def ackBackSpec : ChangeSpec := { name := "ackBack", fn := fun _ => fun
  | [d1, d2, d3] => { results := [.lit (.bool true)], args := [d1, d2, d3] }
  | _ => none }
def ackBackRow : OpenClaim := { program := "ytolfbnkdmafomaa", sum := "5488570ebc66949de567ef1a24db90182fbbb4032d855dd811ef1acd2e44068d", func := "thalweg/thalweglaw07.AckBack", spec := "ackBack", inPlace := ["sync/atomic.StoreUint64", "sync/atomic.LoadUint64"], unfollowed := true, recurses := true, apart := false }
def AckBackSaid : Prop := ackBackRow.holds Try.pinned (OpenSpec.ofChange ackBackSpec)

/-- ITS FALSE NEIGHBOUR: 'it returns false'. Refute it at one input. -/
def ackBackWrong : ChangeSpec := { name := "ackBack", fn := fun _ => fun
  | [d1, d2, d3] => { results := [.lit (.bool false)], args := [d1, d2, d3] }
  | _ => none }
def AckBackWrongFalsely : Prop := ackBackRow.holds Try.pinned (OpenSpec.ofChange ackBackWrong)

/- THE SECOND FORM. 'bulk': how many values and letters a reading holds, each counted each time it is reached (what is shared counts as often as it is met; a slice's spare places count too). A statement '..UptoSaid' is the law's where the arguments, and the package variables that the reading takes, are together of bulk at most 1048576: NARROWER than '..Said'. Prove '..Said' where nothing that the law and all that it calls make is longer than what came in: it says more and counts as full. Else prove '..UptoSaid'. A law counts once. -/
mutual
def uptoBulk {H : Type} : DataW H → Nat
  | .lit (.string bytes) => bytes.length + 1
  | .lit _ => 1
  | .nil => 1
  | .ptr d => uptoBulk d + 1
  | .slice elems spare => uptoBulkAll elems + uptoBulkAll spare + 1
  | .agg parts => uptoBulkAll parts + 1
  | .iface _ d => uptoBulk d + 1
  | .map entries => uptoBulkEntries entries + 1
  | .held _ => 1
def uptoBulkAll {H : Type} : List (DataW H) → Nat
  | [] => 0
  | d :: r => uptoBulk d + uptoBulkAll r
def uptoBulkEntries {H : Type} : List (Lit × DataW H) → Nat
  | [] => 0
  | x :: r => uptoBulkEntry x + uptoBulkEntries r
def uptoBulkEntry {H : Type} : Lit × DataW H → Nat
  | (.string bytes, d) => bytes.length + uptoBulk d + 1
  | (_, d) => uptoBulk d + 1
 end
def uptoSmall : (H : Type) → List (DataW H) → Bool := fun _ ds => decide (uptoBulkAll ds ≤ 1048576)
def OpenSpec.upto (s : _root_.Go.ChangeSpec) : _root_.Go.OpenSpec := { _root_.Go.OpenSpec.ofChange s with cond := some uptoSmall }

/-- 'thalweglaw07.AckTells', WHERE WHAT IT READS IS OF BULK AT MOST 1048576: true; the input reads as it did. -/
def ackTellsUptoRow : OpenClaim := { program := "ytolfbnkdmafomaa", sum := "5488570ebc66949de567ef1a24db90182fbbb4032d855dd811ef1acd2e44068d", func := "thalweg/thalweglaw07.AckTells", spec := "ackTells", unfollowed := true, recurses := true, apart := false, narrowed := true }
def AckTellsUptoSaid : Prop := ackTellsUptoRow.holds Try.pinned (OpenSpec.upto ackTellsSpec)

/-- 'thalweglaw07.AckMore', WHERE WHAT IT READS IS OF BULK AT MOST 1048576: true; the input reads as it did. -/
def ackMoreUptoRow : OpenClaim := { program := "ytolfbnkdmafomaa", sum := "5488570ebc66949de567ef1a24db90182fbbb4032d855dd811ef1acd2e44068d", func := "thalweg/thalweglaw07.AckMore", spec := "ackMore", unfollowed := true, recurses := true, apart := false, narrowed := true }
def AckMoreUptoSaid : Prop := ackMoreUptoRow.holds Try.pinned (OpenSpec.upto ackMoreSpec)

/-- 'thalweglaw07.AckDoes', WHERE WHAT IT READS IS OF BULK AT MOST 1048576: true; the input reads as it did. -/
def ackDoesUptoRow : OpenClaim := { program := "ytolfbnkdmafomaa", sum := "5488570ebc66949de567ef1a24db90182fbbb4032d855dd811ef1acd2e44068d", func := "thalweg/thalweglaw07.AckDoes", spec := "ackDoes", inPlace := ["sync/atomic.StoreUint64", "sync/atomic.LoadUint64"], unfollowed := true, recurses := true, apart := false, narrowed := true }
def AckDoesUptoSaid : Prop := ackDoesUptoRow.holds Try.pinned (OpenSpec.upto ackDoesSpec)

/-- 'thalweglaw07.AckReads', WHERE WHAT IT READS IS OF BULK AT MOST 1048576: true; the input reads as it did. -/
def ackReadsUptoRow : OpenClaim := { program := "ytolfbnkdmafomaa", sum := "5488570ebc66949de567ef1a24db90182fbbb4032d855dd811ef1acd2e44068d", func := "thalweg/thalweglaw07.AckReads", spec := "ackReads", unfollowed := true, recurses := true, apart := false, narrowed := true }
def AckReadsUptoSaid : Prop := ackReadsUptoRow.holds Try.pinned (OpenSpec.upto ackReadsSpec)

/-- 'thalweglaw07.AckBack', WHERE WHAT IT READS IS OF BULK AT MOST 1048576: true; the input reads as it did. -/
def ackBackUptoRow : OpenClaim := { program := "ytolfbnkdmafomaa", sum := "5488570ebc66949de567ef1a24db90182fbbb4032d855dd811ef1acd2e44068d", func := "thalweg/thalweglaw07.AckBack", spec := "ackBack", inPlace := ["sync/atomic.StoreUint64", "sync/atomic.LoadUint64"], unfollowed := true, recurses := true, apart := false, narrowed := true }
def AckBackUptoSaid : Prop := ackBackUptoRow.holds Try.pinned (OpenSpec.upto ackBackSpec)

end Rows
end Go.Proofs.Ytolfbnkdmafomaa
