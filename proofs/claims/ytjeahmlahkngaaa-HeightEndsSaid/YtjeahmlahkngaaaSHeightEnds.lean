-- WRITTEN BY xprint.py, a program of this session that drives the kit's printer.
import Derived.Test.YtjeahmlahkngaaaP17
import Derived.Test.YtjeahmlahkngaaaP0
namespace Go.Proofs.Ytjeahmlahkngaaa.P
open Go.RowKit Go.Proofs.YtjeahmlahkngaaaW.PrintWords
/-- The one plain statement of HeightEnds. -/
def thalweglaw02_HeightEnds.Pure : Prop := ∀ (l0 : List S23), (l0.length ≤ maxLen ∧ ∀ x0_ ∈ l0, (True ∧ (Lit.int .i64 x0_.f1).wf = true ∧ (Lit.int .i64 x0_.f2).wf = true ∧ (Lit.int .i64 x0_.f3).wf = true ∧ (Lit.int .i64 x0_.f4).wf = true ∧ (Lit.int .i64 x0_.f5).wf = true)) → ∃ k, thalweglaw02_HeightEnds.f k l0 = some true
end Go.Proofs.Ytjeahmlahkngaaa.P
