/-
  No cell of these rows narrows 'for every input' (looked for: loops, veiled, ifaces, maps, wideKeys, modest, calm, conditions, laid).
  DERIVED. THE GIVEN ROWS OF THIS SEAT. 6 by the template 'for every input the law returns true; each argument reads behind the call as it read before'; 0 by the template 'total and deterministic' (their statements: YtclbempnhelmoaaTotals.lean).
  GIVEN WITH THE SEED: the statements are not yours to turn. If you find one false, say at which input.
  Laid BY PROGRAM, IN A SANDBOX (cutbox-rows.mjs): the forced cells as the released guide's own fill.sh prints them over the translation 5cfcc98df074d1d1… (all of the seat's roots in one cut). By AI agents, Wed Nov 11 2026. No macro, syntax, notation, axiom, sorry.
-/
import Derived.Test.YtclbempnhelmoaaChecked
import GoSem.Claim
import GoSem.ClaimJoined
import GoSem.ClaimMapViews
import Derived.JoinedTies
import Derived.KernelRfl
namespace Go.Proofs.Ytclbempnhelmoaa
/- THE CELL 'sum', in the pinned program and in every row, IS THE sha256 OF THE DUMP (.gsa) THAT YtclbempnhelmoaaProg.lean LOADS. Nothing in Lean hashes anything: it is a label: what it is worth is what the hold of that sum in a sandbox is worth. -/
noncomputable def Try.pinned : Pinned := { name := "ytclbempnhelmoaa", sum := "5cfcc98df074d1d190e2faabe451ea28970e05360b085a179a9e4ac8bf2afa05", checked := Try.checked }
namespace Rows
def none {H : Type} : Left H := { results := [], args := [] }

/-- 'thalweglaw14.SenderWindow': WHATEVER THE INPUT: true; the input reads as it did. -/
def senderWindowSpec : ChangeSpec := { name := "senderWindow", fn := fun _ => fun
  | [d1, d2, d3] => { results := [.lit (.bool true)], args := [d1, d2, d3] }
  | _ => none }
def senderWindowRow : OpenClaim := { program := "ytclbempnhelmoaa", sum := "5cfcc98df074d1d190e2faabe451ea28970e05360b085a179a9e4ac8bf2afa05", func := "thalweg/thalweglaw14.SenderWindow", spec := "senderWindow", inPlace := ["sync/atomic.StoreUint64", "sync/atomic.LoadUint64", "sync/atomic.StoreInt32", "sync/atomic.LoadInt32", "sync/atomic.AddInt32"], unfollowed := true, recurses := true, apart := false }
def SenderWindowSaid : Prop := senderWindowRow.holds Try.pinned (OpenSpec.ofChange senderWindowSpec)

/-- ITS FALSE NEIGHBOUR: 'it returns false'. Refute it at one input. -/
def senderWindowWrong : ChangeSpec := { name := "senderWindow", fn := fun _ => fun
  | [d1, d2, d3] => { results := [.lit (.bool false)], args := [d1, d2, d3] }
  | _ => none }
def SenderWindowWrongFalsely : Prop := senderWindowRow.holds Try.pinned (OpenSpec.ofChange senderWindowWrong)

/-- 'thalweglaw14.SenderTries': WHATEVER THE INPUT: true; the input reads as it did. -/
def senderTriesSpec : ChangeSpec := { name := "senderTries", fn := fun _ => fun
  | [d1, d2, d3] => { results := [.lit (.bool true)], args := [d1, d2, d3] }
  | _ => none }
def senderTriesRow : OpenClaim := { program := "ytclbempnhelmoaa", sum := "5cfcc98df074d1d190e2faabe451ea28970e05360b085a179a9e4ac8bf2afa05", func := "thalweg/thalweglaw14.SenderTries", spec := "senderTries", inPlace := ["sync/atomic.StoreUint64", "sync/atomic.LoadUint64", "sync/atomic.StoreInt32", "sync/atomic.LoadInt32", "sync/atomic.AddInt32"], unfollowed := true, recurses := true, apart := false }
def SenderTriesSaid : Prop := senderTriesRow.holds Try.pinned (OpenSpec.ofChange senderTriesSpec)

/-- ITS FALSE NEIGHBOUR: 'it returns false'. Refute it at one input. -/
def senderTriesWrong : ChangeSpec := { name := "senderTries", fn := fun _ => fun
  | [d1, d2, d3] => { results := [.lit (.bool false)], args := [d1, d2, d3] }
  | _ => none }
def SenderTriesWrongFalsely : Prop := senderTriesRow.holds Try.pinned (OpenSpec.ofChange senderTriesWrong)

/-- 'thalweglaw14.SenderDoes': WHATEVER THE INPUT: true; the input reads as it did. -/
def senderDoesSpec : ChangeSpec := { name := "senderDoes", fn := fun _ => fun
  | [d1, d2, d3, d4] => { results := [.lit (.bool true)], args := [d1, d2, d3, d4] }
  | _ => none }
def senderDoesRow : OpenClaim := { program := "ytclbempnhelmoaa", sum := "5cfcc98df074d1d190e2faabe451ea28970e05360b085a179a9e4ac8bf2afa05", func := "thalweg/thalweglaw14.SenderDoes", spec := "senderDoes", inPlace := ["sync/atomic.StoreUint64", "sync/atomic.LoadUint64", "sync/atomic.StoreInt32", "sync/atomic.LoadInt32", "sync/atomic.AddInt32"], unfollowed := true, recurses := true, apart := false }
def SenderDoesSaid : Prop := senderDoesRow.holds Try.pinned (OpenSpec.ofChange senderDoesSpec)

/-- ITS FALSE NEIGHBOUR: 'it returns false'. Refute it at one input. -/
def senderDoesWrong : ChangeSpec := { name := "senderDoes", fn := fun _ => fun
  | [d1, d2, d3, d4] => { results := [.lit (.bool false)], args := [d1, d2, d3, d4] }
  | _ => none }
def SenderDoesWrongFalsely : Prop := senderDoesRow.holds Try.pinned (OpenSpec.ofChange senderDoesWrong)

/-- 'thalweglaw14.SenderOrder': WHATEVER THE INPUT: true; the input reads as it did. -/
def senderOrderSpec : ChangeSpec := { name := "senderOrder", fn := fun _ => fun
  | [d1, d2, d3] => { results := [.lit (.bool true)], args := [d1, d2, d3] }
  | _ => none }
def senderOrderRow : OpenClaim := { program := "ytclbempnhelmoaa", sum := "5cfcc98df074d1d190e2faabe451ea28970e05360b085a179a9e4ac8bf2afa05", func := "thalweg/thalweglaw14.SenderOrder", spec := "senderOrder", inPlace := ["sync/atomic.StoreUint64", "sync/atomic.LoadUint64", "sync/atomic.StoreInt32", "sync/atomic.LoadInt32", "sync/atomic.AddInt32"], unfollowed := true, recurses := true, apart := false }
def SenderOrderSaid : Prop := senderOrderRow.holds Try.pinned (OpenSpec.ofChange senderOrderSpec)

/-- ITS FALSE NEIGHBOUR: 'it returns false'. Refute it at one input. -/
def senderOrderWrong : ChangeSpec := { name := "senderOrder", fn := fun _ => fun
  | [d1, d2, d3] => { results := [.lit (.bool false)], args := [d1, d2, d3] }
  | _ => none }
def SenderOrderWrongFalsely : Prop := senderOrderRow.holds Try.pinned (OpenSpec.ofChange senderOrderWrong)

/-- 'thalweglaw14.SenderNil': WHATEVER THE INPUT: true; the input reads as it did. -/
def senderNilSpec : ChangeSpec := { name := "senderNil", fn := fun _ => fun
  | [d1, d2] => { results := [.lit (.bool true)], args := [d1, d2] }
  | _ => none }
def senderNilRow : OpenClaim := { program := "ytclbempnhelmoaa", sum := "5cfcc98df074d1d190e2faabe451ea28970e05360b085a179a9e4ac8bf2afa05", func := "thalweg/thalweglaw14.SenderNil", spec := "senderNil", inPlace := ["sync/atomic.LoadInt32", "sync/atomic.AddInt32", "sync/atomic.StoreUint64", "sync/atomic.LoadUint64", "sync/atomic.StoreInt32"], unfollowed := true, recurses := true, apart := false }
def SenderNilSaid : Prop := senderNilRow.holds Try.pinned (OpenSpec.ofChange senderNilSpec)

/-- ITS FALSE NEIGHBOUR: 'it returns false'. Refute it at one input. -/
def senderNilWrong : ChangeSpec := { name := "senderNil", fn := fun _ => fun
  | [d1, d2] => { results := [.lit (.bool false)], args := [d1, d2] }
  | _ => none }
def SenderNilWrongFalsely : Prop := senderNilRow.holds Try.pinned (OpenSpec.ofChange senderNilWrong)

/-- 'thalweglaw14.SenderOnce': WHATEVER THE INPUT: true; the input reads as it did. -/
def senderOnceSpec : ChangeSpec := { name := "senderOnce", fn := fun _ => fun
  | [d1, d2, d3] => { results := [.lit (.bool true)], args := [d1, d2, d3] }
  | _ => none }
def senderOnceRow : OpenClaim := { program := "ytclbempnhelmoaa", sum := "5cfcc98df074d1d190e2faabe451ea28970e05360b085a179a9e4ac8bf2afa05", func := "thalweg/thalweglaw14.SenderOnce", spec := "senderOnce", inPlace := ["sync/atomic.StoreUint64", "sync/atomic.LoadUint64", "sync/atomic.StoreInt32", "sync/atomic.LoadInt32", "sync/atomic.AddInt32"], unfollowed := true, recurses := true, apart := false }
def SenderOnceSaid : Prop := senderOnceRow.holds Try.pinned (OpenSpec.ofChange senderOnceSpec)

/-- ITS FALSE NEIGHBOUR: 'it returns false'. Refute it at one input. -/
def senderOnceWrong : ChangeSpec := { name := "senderOnce", fn := fun _ => fun
  | [d1, d2, d3] => { results := [.lit (.bool false)], args := [d1, d2, d3] }
  | _ => none }
def SenderOnceWrongFalsely : Prop := senderOnceRow.holds Try.pinned (OpenSpec.ofChange senderOnceWrong)

/- THE SECOND FORM. 'bulk': how many values and letters a reading holds, each counted each time it is reached (what is shared counts as often as it is met; a slice's spare places count too). A statement '..UptoSaid' is the law's where the arguments, and the package variables that the reading takes, are together of bulk at most 1048576: NARROWER than '..Said'. Prove '..Said' where nothing that the law and all that it calls make is longer than what came in: it says more and counts as full. Else prove '..UptoSaid'. A law counts once. -/
mutual
def uptoBulk {H : Type} : DataW H → Nat
  | .lit (.string bytes) => bytes.length + 1
  | .lit _ => 1
  | .nil => 1
  | .ptr d => uptoBulk d + 1
  | .slice elems spare => uptoBulkAll elems + uptoBulkAll spare + 1
  | .agg parts => uptoBulkAll parts + 1
  | .iface _ d => uptoBulk d + 1
  | .map entries => uptoBulkEntries entries + 1
  | .held _ => 1
def uptoBulkAll {H : Type} : List (DataW H) → Nat
  | [] => 0
  | d :: r => uptoBulk d + uptoBulkAll r
def uptoBulkEntries {H : Type} : List (Lit × DataW H) → Nat
  | [] => 0
  | x :: r => uptoBulkEntry x + uptoBulkEntries r
def uptoBulkEntry {H : Type} : Lit × DataW H → Nat
  | (.string bytes, d) => bytes.length + uptoBulk d + 1
  | (_, d) => uptoBulk d + 1
 end
def uptoSmall : (H : Type) → List (DataW H) → Bool := fun _ ds => decide (uptoBulkAll ds ≤ 1048576)
def OpenSpec.upto (s : _root_.Go.ChangeSpec) : _root_.Go.OpenSpec := { _root_.Go.OpenSpec.ofChange s with cond := some uptoSmall }

/-- 'thalweglaw14.SenderWindow', WHERE WHAT IT READS IS OF BULK AT MOST 1048576: true; the input reads as it did. -/
def senderWindowUptoRow : OpenClaim := { program := "ytclbempnhelmoaa", sum := "5cfcc98df074d1d190e2faabe451ea28970e05360b085a179a9e4ac8bf2afa05", func := "thalweg/thalweglaw14.SenderWindow", spec := "senderWindow", inPlace := ["sync/atomic.StoreUint64", "sync/atomic.LoadUint64", "sync/atomic.StoreInt32", "sync/atomic.LoadInt32", "sync/atomic.AddInt32"], unfollowed := true, recurses := true, apart := false, narrowed := true }
def SenderWindowUptoSaid : Prop := senderWindowUptoRow.holds Try.pinned (OpenSpec.upto senderWindowSpec)

/-- 'thalweglaw14.SenderTries', WHERE WHAT IT READS IS OF BULK AT MOST 1048576: true; the input reads as it did. -/
def senderTriesUptoRow : OpenClaim := { program := "ytclbempnhelmoaa", sum := "5cfcc98df074d1d190e2faabe451ea28970e05360b085a179a9e4ac8bf2afa05", func := "thalweg/thalweglaw14.SenderTries", spec := "senderTries", inPlace := ["sync/atomic.StoreUint64", "sync/atomic.LoadUint64", "sync/atomic.StoreInt32", "sync/atomic.LoadInt32", "sync/atomic.AddInt32"], unfollowed := true, recurses := true, apart := false, narrowed := true }
def SenderTriesUptoSaid : Prop := senderTriesUptoRow.holds Try.pinned (OpenSpec.upto senderTriesSpec)

/-- 'thalweglaw14.SenderDoes', WHERE WHAT IT READS IS OF BULK AT MOST 1048576: true; the input reads as it did. -/
def senderDoesUptoRow : OpenClaim := { program := "ytclbempnhelmoaa", sum := "5cfcc98df074d1d190e2faabe451ea28970e05360b085a179a9e4ac8bf2afa05", func := "thalweg/thalweglaw14.SenderDoes", spec := "senderDoes", inPlace := ["sync/atomic.StoreUint64", "sync/atomic.LoadUint64", "sync/atomic.StoreInt32", "sync/atomic.LoadInt32", "sync/atomic.AddInt32"], unfollowed := true, recurses := true, apart := false, narrowed := true }
def SenderDoesUptoSaid : Prop := senderDoesUptoRow.holds Try.pinned (OpenSpec.upto senderDoesSpec)

/-- 'thalweglaw14.SenderOrder', WHERE WHAT IT READS IS OF BULK AT MOST 1048576: true; the input reads as it did. -/
def senderOrderUptoRow : OpenClaim := { program := "ytclbempnhelmoaa", sum := "5cfcc98df074d1d190e2faabe451ea28970e05360b085a179a9e4ac8bf2afa05", func := "thalweg/thalweglaw14.SenderOrder", spec := "senderOrder", inPlace := ["sync/atomic.StoreUint64", "sync/atomic.LoadUint64", "sync/atomic.StoreInt32", "sync/atomic.LoadInt32", "sync/atomic.AddInt32"], unfollowed := true, recurses := true, apart := false, narrowed := true }
def SenderOrderUptoSaid : Prop := senderOrderUptoRow.holds Try.pinned (OpenSpec.upto senderOrderSpec)

/-- 'thalweglaw14.SenderNil', WHERE WHAT IT READS IS OF BULK AT MOST 1048576: true; the input reads as it did. -/
def senderNilUptoRow : OpenClaim := { program := "ytclbempnhelmoaa", sum := "5cfcc98df074d1d190e2faabe451ea28970e05360b085a179a9e4ac8bf2afa05", func := "thalweg/thalweglaw14.SenderNil", spec := "senderNil", inPlace := ["sync/atomic.LoadInt32", "sync/atomic.AddInt32", "sync/atomic.StoreUint64", "sync/atomic.LoadUint64", "sync/atomic.StoreInt32"], unfollowed := true, recurses := true, apart := false, narrowed := true }
def SenderNilUptoSaid : Prop := senderNilUptoRow.holds Try.pinned (OpenSpec.upto senderNilSpec)

/-- 'thalweglaw14.SenderOnce', WHERE WHAT IT READS IS OF BULK AT MOST 1048576: true; the input reads as it did. -/
def senderOnceUptoRow : OpenClaim := { program := "ytclbempnhelmoaa", sum := "5cfcc98df074d1d190e2faabe451ea28970e05360b085a179a9e4ac8bf2afa05", func := "thalweg/thalweglaw14.SenderOnce", spec := "senderOnce", inPlace := ["sync/atomic.StoreUint64", "sync/atomic.LoadUint64", "sync/atomic.StoreInt32", "sync/atomic.LoadInt32", "sync/atomic.AddInt32"], unfollowed := true, recurses := true, apart := false, narrowed := true }
def SenderOnceUptoSaid : Prop := senderOnceUptoRow.holds Try.pinned (OpenSpec.upto senderOnceSpec)

end Rows
end Go.Proofs.Ytclbempnhelmoaa
