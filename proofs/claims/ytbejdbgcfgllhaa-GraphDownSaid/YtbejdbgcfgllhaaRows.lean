/-
  No cell of these rows narrows 'for every input' (looked for: loops, veiled, ifaces, maps, wideKeys, modest, calm, conditions, laid).
  DERIVED. THE GIVEN ROWS OF THIS SEAT. 5 by the template 'for every input the law returns true; each argument reads behind the call as it read before'; 0 by the template 'total and deterministic' (their statements: YtbejdbgcfgllhaaTotals.lean).
  GIVEN WITH THE SEED: the statements are not yours to turn. If you find one false, say at which input.
  Laid BY PROGRAM, IN A SANDBOX (cutbox-rows.mjs): the forced cells as the released guide's own fill.sh prints them over the translation 8f36092f0ea0f0d9… (all of the seat's roots in one cut). By AI agents, Wed Nov 11 2026. No macro, syntax, notation, axiom, sorry.
-/
import Derived.Test.YtbejdbgcfgllhaaChecked
import GoSem.Claim
import GoSem.ClaimJoined
import GoSem.ClaimMapViews
import Derived.JoinedTies
import Derived.KernelRfl
namespace Go.Proofs.Ytbejdbgcfgllhaa
/- THE CELL 'sum', in the pinned program and in every row, IS THE sha256 OF THE DUMP (.gsa) THAT YtbejdbgcfgllhaaProg.lean LOADS. Nothing in Lean hashes anything: it is a label: what it is worth is what the hold of that sum in a sandbox is worth. -/
noncomputable def Try.pinned : Pinned := { name := "ytbejdbgcfgllhaa", sum := "8f36092f0ea0f0d9359b1e87bec0e179937e712ffd8362225242b0813b07cdc1", checked := Try.checked }
namespace Rows
def none {H : Type} : Left H := { results := [], args := [] }

/-- 'thalweglaw25.GraphWays': WHATEVER THE INPUT: true; the input reads as it did. -/
def graphWaysSpec : ChangeSpec := { name := "graphWays", fn := fun _ => fun
  | [d1, d2, d3] => { results := [.lit (.bool true)], args := [d1, d2, d3] }
  | _ => none }
def graphWaysRow : OpenClaim := { program := "ytbejdbgcfgllhaa", sum := "8f36092f0ea0f0d9359b1e87bec0e179937e712ffd8362225242b0813b07cdc1", func := "thalweg/thalweglaw25.GraphWays", spec := "graphWays", apart := false }
def GraphWaysSaid : Prop := graphWaysRow.holds Try.pinned (OpenSpec.ofChange graphWaysSpec)

/-- ITS FALSE NEIGHBOUR: 'it returns false'. Refute it at one input. -/
def graphWaysWrong : ChangeSpec := { name := "graphWays", fn := fun _ => fun
  | [d1, d2, d3] => { results := [.lit (.bool false)], args := [d1, d2, d3] }
  | _ => none }
def GraphWaysWrongFalsely : Prop := graphWaysRow.holds Try.pinned (OpenSpec.ofChange graphWaysWrong)

/-- 'thalweglaw25.GraphTells': WHATEVER THE INPUT: true; the input reads as it did. -/
def graphTellsSpec : ChangeSpec := { name := "graphTells", fn := fun _ => fun
  | [d1, d2, d3, d4, d5] => { results := [.lit (.bool true)], args := [d1, d2, d3, d4, d5] }
  | _ => none }
def graphTellsRow : OpenClaim := { program := "ytbejdbgcfgllhaa", sum := "8f36092f0ea0f0d9359b1e87bec0e179937e712ffd8362225242b0813b07cdc1", func := "thalweg/thalweglaw25.GraphTells", spec := "graphTells", apart := false }
def GraphTellsSaid : Prop := graphTellsRow.holds Try.pinned (OpenSpec.ofChange graphTellsSpec)

/-- ITS FALSE NEIGHBOUR: 'it returns false'. Refute it at one input. -/
def graphTellsWrong : ChangeSpec := { name := "graphTells", fn := fun _ => fun
  | [d1, d2, d3, d4, d5] => { results := [.lit (.bool false)], args := [d1, d2, d3, d4, d5] }
  | _ => none }
def GraphTellsWrongFalsely : Prop := graphTellsRow.holds Try.pinned (OpenSpec.ofChange graphTellsWrong)

/-- 'thalweglaw25.GraphTogether': WHATEVER THE INPUT: true; the input reads as it did. -/
def graphTogetherSpec : ChangeSpec := { name := "graphTogether", fn := fun _ => fun
  | [d1, d2] => { results := [.lit (.bool true)], args := [d1, d2] }
  | _ => none }
def graphTogetherRow : OpenClaim := { program := "ytbejdbgcfgllhaa", sum := "8f36092f0ea0f0d9359b1e87bec0e179937e712ffd8362225242b0813b07cdc1", func := "thalweg/thalweglaw25.GraphTogether", spec := "graphTogether", apart := false }
def GraphTogetherSaid : Prop := graphTogetherRow.holds Try.pinned (OpenSpec.ofChange graphTogetherSpec)

/-- ITS FALSE NEIGHBOUR: 'it returns false'. Refute it at one input. -/
def graphTogetherWrong : ChangeSpec := { name := "graphTogether", fn := fun _ => fun
  | [d1, d2] => { results := [.lit (.bool false)], args := [d1, d2] }
  | _ => none }
def GraphTogetherWrongFalsely : Prop := graphTogetherRow.holds Try.pinned (OpenSpec.ofChange graphTogetherWrong)

/-- 'thalweglaw25.GraphMore': WHATEVER THE INPUT: true; the input reads as it did. -/
def graphMoreSpec : ChangeSpec := { name := "graphMore", fn := fun _ => fun
  | [d1, d2, d3, d4] => { results := [.lit (.bool true)], args := [d1, d2, d3, d4] }
  | _ => none }
def graphMoreRow : OpenClaim := { program := "ytbejdbgcfgllhaa", sum := "8f36092f0ea0f0d9359b1e87bec0e179937e712ffd8362225242b0813b07cdc1", func := "thalweg/thalweglaw25.GraphMore", spec := "graphMore", apart := false }
def GraphMoreSaid : Prop := graphMoreRow.holds Try.pinned (OpenSpec.ofChange graphMoreSpec)

/-- ITS FALSE NEIGHBOUR: 'it returns false'. Refute it at one input. -/
def graphMoreWrong : ChangeSpec := { name := "graphMore", fn := fun _ => fun
  | [d1, d2, d3, d4] => { results := [.lit (.bool false)], args := [d1, d2, d3, d4] }
  | _ => none }
def GraphMoreWrongFalsely : Prop := graphMoreRow.holds Try.pinned (OpenSpec.ofChange graphMoreWrong)

/-- 'thalweglaw25.GraphDown': WHATEVER THE INPUT: true; the input reads as it did. -/
def graphDownSpec : ChangeSpec := { name := "graphDown", fn := fun _ => fun
  | [d1, d2, d3] => { results := [.lit (.bool true)], args := [d1, d2, d3] }
  | _ => none }
def graphDownRow : OpenClaim := { program := "ytbejdbgcfgllhaa", sum := "8f36092f0ea0f0d9359b1e87bec0e179937e712ffd8362225242b0813b07cdc1", func := "thalweg/thalweglaw25.GraphDown", spec := "graphDown", apart := false }
def GraphDownSaid : Prop := graphDownRow.holds Try.pinned (OpenSpec.ofChange graphDownSpec)

/-- ITS FALSE NEIGHBOUR: 'it returns false'. Refute it at one input. -/
def graphDownWrong : ChangeSpec := { name := "graphDown", fn := fun _ => fun
  | [d1, d2, d3] => { results := [.lit (.bool false)], args := [d1, d2, d3] }
  | _ => none }
def GraphDownWrongFalsely : Prop := graphDownRow.holds Try.pinned (OpenSpec.ofChange graphDownWrong)

/- THE SECOND FORM. 'bulk': how many values and letters a reading holds, each counted each time it is reached (what is shared counts as often as it is met; a slice's spare places count too). A statement '..UptoSaid' is the law's where the arguments, and the package variables that the reading takes, are together of bulk at most 1048576: NARROWER than '..Said'. Prove '..Said' where nothing that the law and all that it calls make is longer than what came in: it says more and counts as full. Else prove '..UptoSaid'. A law counts once. -/
mutual
def uptoBulk {H : Type} : DataW H → Nat
  | .lit (.string bytes) => bytes.length + 1
  | .lit _ => 1
  | .nil => 1
  | .ptr d => uptoBulk d + 1
  | .slice elems spare => uptoBulkAll elems + uptoBulkAll spare + 1
  | .agg parts => uptoBulkAll parts + 1
  | .iface _ d => uptoBulk d + 1
  | .map entries => uptoBulkEntries entries + 1
  | .held _ => 1
def uptoBulkAll {H : Type} : List (DataW H) → Nat
  | [] => 0
  | d :: r => uptoBulk d + uptoBulkAll r
def uptoBulkEntries {H : Type} : List (Lit × DataW H) → Nat
  | [] => 0
  | x :: r => uptoBulkEntry x + uptoBulkEntries r
def uptoBulkEntry {H : Type} : Lit × DataW H → Nat
  | (.string bytes, d) => bytes.length + uptoBulk d + 1
  | (_, d) => uptoBulk d + 1
 end
def uptoSmall : (H : Type) → List (DataW H) → Bool := fun _ ds => decide (uptoBulkAll ds ≤ 1048576)
def OpenSpec.upto (s : _root_.Go.ChangeSpec) : _root_.Go.OpenSpec := { _root_.Go.OpenSpec.ofChange s with cond := some uptoSmall }

/-- 'thalweglaw25.GraphWays', WHERE WHAT IT READS IS OF BULK AT MOST 1048576: true; the input reads as it did. -/
def graphWaysUptoRow : OpenClaim := { program := "ytbejdbgcfgllhaa", sum := "8f36092f0ea0f0d9359b1e87bec0e179937e712ffd8362225242b0813b07cdc1", func := "thalweg/thalweglaw25.GraphWays", spec := "graphWays", apart := false, narrowed := true }
def GraphWaysUptoSaid : Prop := graphWaysUptoRow.holds Try.pinned (OpenSpec.upto graphWaysSpec)

/-- 'thalweglaw25.GraphTells', WHERE WHAT IT READS IS OF BULK AT MOST 1048576: true; the input reads as it did. -/
def graphTellsUptoRow : OpenClaim := { program := "ytbejdbgcfgllhaa", sum := "8f36092f0ea0f0d9359b1e87bec0e179937e712ffd8362225242b0813b07cdc1", func := "thalweg/thalweglaw25.GraphTells", spec := "graphTells", apart := false, narrowed := true }
def GraphTellsUptoSaid : Prop := graphTellsUptoRow.holds Try.pinned (OpenSpec.upto graphTellsSpec)

/-- 'thalweglaw25.GraphTogether', WHERE WHAT IT READS IS OF BULK AT MOST 1048576: true; the input reads as it did. -/
def graphTogetherUptoRow : OpenClaim := { program := "ytbejdbgcfgllhaa", sum := "8f36092f0ea0f0d9359b1e87bec0e179937e712ffd8362225242b0813b07cdc1", func := "thalweg/thalweglaw25.GraphTogether", spec := "graphTogether", apart := false, narrowed := true }
def GraphTogetherUptoSaid : Prop := graphTogetherUptoRow.holds Try.pinned (OpenSpec.upto graphTogetherSpec)

/-- 'thalweglaw25.GraphMore', WHERE WHAT IT READS IS OF BULK AT MOST 1048576: true; the input reads as it did. -/
def graphMoreUptoRow : OpenClaim := { program := "ytbejdbgcfgllhaa", sum := "8f36092f0ea0f0d9359b1e87bec0e179937e712ffd8362225242b0813b07cdc1", func := "thalweg/thalweglaw25.GraphMore", spec := "graphMore", apart := false, narrowed := true }
def GraphMoreUptoSaid : Prop := graphMoreUptoRow.holds Try.pinned (OpenSpec.upto graphMoreSpec)

/-- 'thalweglaw25.GraphDown', WHERE WHAT IT READS IS OF BULK AT MOST 1048576: true; the input reads as it did. -/
def graphDownUptoRow : OpenClaim := { program := "ytbejdbgcfgllhaa", sum := "8f36092f0ea0f0d9359b1e87bec0e179937e712ffd8362225242b0813b07cdc1", func := "thalweg/thalweglaw25.GraphDown", spec := "graphDown", apart := false, narrowed := true }
def GraphDownUptoSaid : Prop := graphDownUptoRow.holds Try.pinned (OpenSpec.upto graphDownSpec)

end Rows
end Go.Proofs.Ytbejdbgcfgllhaa
