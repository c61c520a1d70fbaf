/-
  No cell of these rows narrows 'for every input' (looked for: loops, veiled, ifaces, maps, wideKeys, modest, calm, conditions, laid).
  DERIVED. THE GIVEN ROWS OF THIS SEAT. 5 by the template 'for every input the law returns true; each argument reads behind the call as it read before'; 0 by the template 'total and deterministic' (their statements: YtjeahmlahkngaaaTotals.lean).
  GIVEN WITH THE SEED: the statements are not yours to turn. If you find one false, say at which input.
  Laid BY PROGRAM, IN A SANDBOX (cutbox-rows.mjs): the forced cells as the released guide's own fill.sh prints them over the translation e4a0b2b805b7e31d… (all of the seat's roots in one cut). By AI agents, Wed Nov 11 2026. No macro, syntax, notation, axiom, sorry.
-/
import Derived.Test.YtjeahmlahkngaaaChecked
import GoSem.Claim
import GoSem.ClaimJoined
import GoSem.ClaimMapViews
import Derived.JoinedTies
import Derived.KernelRfl
namespace Go.Proofs.Ytjeahmlahkngaaa
/- THE CELL 'sum', in the pinned program and in every row, IS THE sha256 OF THE DUMP (.gsa) THAT YtjeahmlahkngaaaProg.lean LOADS. Nothing in Lean hashes anything: it is a label: what it is worth is what the hold of that sum in a sandbox is worth. -/
noncomputable def Try.pinned : Pinned := { name := "ytjeahmlahkngaaa", sum := "e4a0b2b805b7e31dfab1e8333591601ac261269f3650cf448b8d9bf660917d22", checked := Try.checked }
namespace Rows
def none {H : Type} : Left H := { results := [], args := [] }

/-- 'thalweglaw02.HeightDoes': WHATEVER THE INPUT: true; the input reads as it did. -/
def heightDoesSpec : ChangeSpec := { name := "heightDoes", fn := fun _ => fun
  | [d1, d2, d3, d4, d5] => { results := [.lit (.bool true)], args := [d1, d2, d3, d4, d5] }
  | _ => none }
def heightDoesRow : OpenClaim := { program := "ytjeahmlahkngaaa", sum := "e4a0b2b805b7e31dfab1e8333591601ac261269f3650cf448b8d9bf660917d22", func := "thalweg/thalweglaw02.HeightDoes", spec := "heightDoes", inPlace := ["sync/atomic.StoreUint64", "sync/atomic.LoadUint64"], apart := false }
def HeightDoesSaid : Prop := heightDoesRow.holds Try.pinned (OpenSpec.ofChange heightDoesSpec)

/-- ITS FALSE NEIGHBOUR: 'it returns false'. Refute it at one input. -/
def heightDoesWrong : ChangeSpec := { name := "heightDoes", fn := fun _ => fun
  | [d1, d2, d3, d4, d5] => { results := [.lit (.bool false)], args := [d1, d2, d3, d4, d5] }
  | _ => none }
def HeightDoesWrongFalsely : Prop := heightDoesRow.holds Try.pinned (OpenSpec.ofChange heightDoesWrong)

/-- 'thalweglaw02.HeightOrder': WHATEVER THE INPUT: true; the input reads as it did. -/
def heightOrderSpec : ChangeSpec := { name := "heightOrder", fn := fun _ => fun
  | [d1, d2, d3] => { results := [.lit (.bool true)], args := [d1, d2, d3] }
  | _ => none }
def heightOrderRow : OpenClaim := { program := "ytjeahmlahkngaaa", sum := "e4a0b2b805b7e31dfab1e8333591601ac261269f3650cf448b8d9bf660917d22", func := "thalweg/thalweglaw02.HeightOrder", spec := "heightOrder", inPlace := ["sync/atomic.StoreUint64", "sync/atomic.LoadUint64"], apart := false }
def HeightOrderSaid : Prop := heightOrderRow.holds Try.pinned (OpenSpec.ofChange heightOrderSpec)

/-- ITS FALSE NEIGHBOUR: 'it returns false'. Refute it at one input. -/
def heightOrderWrong : ChangeSpec := { name := "heightOrder", fn := fun _ => fun
  | [d1, d2, d3] => { results := [.lit (.bool false)], args := [d1, d2, d3] }
  | _ => none }
def HeightOrderWrongFalsely : Prop := heightOrderRow.holds Try.pinned (OpenSpec.ofChange heightOrderWrong)

/-- 'thalweglaw02.HeightLevels': WHATEVER THE INPUT: true; the input reads as it did. -/
def heightLevelsSpec : ChangeSpec := { name := "heightLevels", fn := fun _ => fun
  | [d1, d2] => { results := [.lit (.bool true)], args := [d1, d2] }
  | _ => none }
def heightLevelsRow : OpenClaim := { program := "ytjeahmlahkngaaa", sum := "e4a0b2b805b7e31dfab1e8333591601ac261269f3650cf448b8d9bf660917d22", func := "thalweg/thalweglaw02.HeightLevels", spec := "heightLevels", inPlace := ["sync/atomic.StoreUint64", "sync/atomic.LoadUint64"], apart := false }
def HeightLevelsSaid : Prop := heightLevelsRow.holds Try.pinned (OpenSpec.ofChange heightLevelsSpec)

/-- ITS FALSE NEIGHBOUR: 'it returns false'. Refute it at one input. -/
def heightLevelsWrong : ChangeSpec := { name := "heightLevels", fn := fun _ => fun
  | [d1, d2] => { results := [.lit (.bool false)], args := [d1, d2] }
  | _ => none }
def HeightLevelsWrongFalsely : Prop := heightLevelsRow.holds Try.pinned (OpenSpec.ofChange heightLevelsWrong)

/-- 'thalweglaw02.HeightEnds': WHATEVER THE INPUT: true; the input reads as it did. -/
def heightEndsSpec : ChangeSpec := { name := "heightEnds", fn := fun _ => fun
  | [d] => { results := [.lit (.bool true)], args := [d] }
  | _ => none }
def heightEndsRow : OpenClaim := { program := "ytjeahmlahkngaaa", sum := "e4a0b2b805b7e31dfab1e8333591601ac261269f3650cf448b8d9bf660917d22", func := "thalweg/thalweglaw02.HeightEnds", spec := "heightEnds", inPlace := ["sync/atomic.LoadPointer", "sync/atomic.StorePointer", "sync/atomic.StoreUint64", "sync/atomic.LoadUint64"], apart := false }
def HeightEndsSaid : Prop := heightEndsRow.holds Try.pinned (OpenSpec.ofChange heightEndsSpec)

/-- ITS FALSE NEIGHBOUR: 'it returns false'. Refute it at one input. -/
def heightEndsWrong : ChangeSpec := { name := "heightEnds", fn := fun _ => fun
  | [d] => { results := [.lit (.bool false)], args := [d] }
  | _ => none }
def HeightEndsWrongFalsely : Prop := heightEndsRow.holds Try.pinned (OpenSpec.ofChange heightEndsWrong)

/-- 'thalweglaw02.HeightBack': WHATEVER THE INPUT: true; the input reads as it did. -/
def heightBackSpec : ChangeSpec := { name := "heightBack", fn := fun _ => fun
  | [d1, d2, d3] => { results := [.lit (.bool true)], args := [d1, d2, d3] }
  | _ => none }
def heightBackRow : OpenClaim := { program := "ytjeahmlahkngaaa", sum := "e4a0b2b805b7e31dfab1e8333591601ac261269f3650cf448b8d9bf660917d22", func := "thalweg/thalweglaw02.HeightBack", spec := "heightBack", inPlace := ["sync/atomic.StoreUint64", "sync/atomic.LoadUint64"], apart := false }
def HeightBackSaid : Prop := heightBackRow.holds Try.pinned (OpenSpec.ofChange heightBackSpec)

/-- ITS FALSE NEIGHBOUR: 'it returns false'. Refute it at one input. -/
def heightBackWrong : ChangeSpec := { name := "heightBack", fn := fun _ => fun
  | [d1, d2, d3] => { results := [.lit (.bool false)], args := [d1, d2, d3] }
  | _ => none }
def HeightBackWrongFalsely : Prop := heightBackRow.holds Try.pinned (OpenSpec.ofChange heightBackWrong)

/- THE SECOND FORM. 'bulk': how many values and letters a reading holds, each counted each time it is reached (what is shared counts as often as it is met; a slice's spare places count too). A statement '..UptoSaid' is the law's where the arguments, and the package variables that the reading takes, are together of bulk at most 1048576: NARROWER than '..Said'. Prove '..Said' where nothing that the law and all that it calls make is longer than what came in: it says more and counts as full. Else prove '..UptoSaid'. A law counts once. -/
mutual
def uptoBulk {H : Type} : DataW H → Nat
  | .lit (.string bytes) => bytes.length + 1
  | .lit _ => 1
  | .nil => 1
  | .ptr d => uptoBulk d + 1
  | .slice elems spare => uptoBulkAll elems + uptoBulkAll spare + 1
  | .agg parts => uptoBulkAll parts + 1
  | .iface _ d => uptoBulk d + 1
  | .map entries => uptoBulkEntries entries + 1
  | .held _ => 1
def uptoBulkAll {H : Type} : List (DataW H) → Nat
  | [] => 0
  | d :: r => uptoBulk d + uptoBulkAll r
def uptoBulkEntries {H : Type} : List (Lit × DataW H) → Nat
  | [] => 0
  | x :: r => uptoBulkEntry x + uptoBulkEntries r
def uptoBulkEntry {H : Type} : Lit × DataW H → Nat
  | (.string bytes, d) => bytes.length + uptoBulk d + 1
  | (_, d) => uptoBulk d + 1
 end
def uptoSmall : (H : Type) → List (DataW H) → Bool := fun _ ds => decide (uptoBulkAll ds ≤ 1048576)
def OpenSpec.upto (s : _root_.Go.ChangeSpec) : _root_.Go.OpenSpec := { _root_.Go.OpenSpec.ofChange s with cond := some uptoSmall }

/-- 'thalweglaw02.HeightDoes', WHERE WHAT IT READS IS OF BULK AT MOST 1048576: true; the input reads as it did. -/
def heightDoesUptoRow : OpenClaim := { program := "ytjeahmlahkngaaa", sum := "e4a0b2b805b7e31dfab1e8333591601ac261269f3650cf448b8d9bf660917d22", func := "thalweg/thalweglaw02.HeightDoes", spec := "heightDoes", inPlace := ["sync/atomic.StoreUint64", "sync/atomic.LoadUint64"], apart := false, narrowed := true }
def HeightDoesUptoSaid : Prop := heightDoesUptoRow.holds Try.pinned (OpenSpec.upto heightDoesSpec)

/-- 'thalweglaw02.HeightOrder', WHERE WHAT IT READS IS OF BULK AT MOST 1048576: true; the input reads as it did. -/
def heightOrderUptoRow : OpenClaim := { program := "ytjeahmlahkngaaa", sum := "e4a0b2b805b7e31dfab1e8333591601ac261269f3650cf448b8d9bf660917d22", func := "thalweg/thalweglaw02.HeightOrder", spec := "heightOrder", inPlace := ["sync/atomic.StoreUint64", "sync/atomic.LoadUint64"], apart := false, narrowed := true }
def HeightOrderUptoSaid : Prop := heightOrderUptoRow.holds Try.pinned (OpenSpec.upto heightOrderSpec)

/-- 'thalweglaw02.HeightLevels', WHERE WHAT IT READS IS OF BULK AT MOST 1048576: true; the input reads as it did. -/
def heightLevelsUptoRow : OpenClaim := { program := "ytjeahmlahkngaaa", sum := "e4a0b2b805b7e31dfab1e8333591601ac261269f3650cf448b8d9bf660917d22", func := "thalweg/thalweglaw02.HeightLevels", spec := "heightLevels", inPlace := ["sync/atomic.StoreUint64", "sync/atomic.LoadUint64"], apart := false, narrowed := true }
def HeightLevelsUptoSaid : Prop := heightLevelsUptoRow.holds Try.pinned (OpenSpec.upto heightLevelsSpec)

/-- 'thalweglaw02.HeightEnds', WHERE WHAT IT READS IS OF BULK AT MOST 1048576: true; the input reads as it did. -/
def heightEndsUptoRow : OpenClaim := { program := "ytjeahmlahkngaaa", sum := "e4a0b2b805b7e31dfab1e8333591601ac261269f3650cf448b8d9bf660917d22", func := "thalweg/thalweglaw02.HeightEnds", spec := "heightEnds", inPlace := ["sync/atomic.LoadPointer", "sync/atomic.StorePointer", "sync/atomic.StoreUint64", "sync/atomic.LoadUint64"], apart := false, narrowed := true }
def HeightEndsUptoSaid : Prop := heightEndsUptoRow.holds Try.pinned (OpenSpec.upto heightEndsSpec)

/-- 'thalweglaw02.HeightBack', WHERE WHAT IT READS IS OF BULK AT MOST 1048576: true; the input reads as it did. -/
def heightBackUptoRow : OpenClaim := { program := "ytjeahmlahkngaaa", sum := "e4a0b2b805b7e31dfab1e8333591601ac261269f3650cf448b8d9bf660917d22", func := "thalweg/thalweglaw02.HeightBack", spec := "heightBack", inPlace := ["sync/atomic.StoreUint64", "sync/atomic.LoadUint64"], apart := false, narrowed := true }
def HeightBackUptoSaid : Prop := heightBackUptoRow.holds Try.pinned (OpenSpec.upto heightBackSpec)

end Rows
end Go.Proofs.Ytjeahmlahkngaaa
