-- WRITTEN BY xprint.py, a program of this session that drives the kit's printer.
import Derived.Test.YtljajnednggebaaElc
import Derived.Test.YtljajnednggebaaP0
namespace Go.Proofs.Ytljajnednggebaa.P
open Go.RowKit Go.Proofs.YtljajnednggebaaW.PrintWords
/-- The one plain statement of WheelLast. -/
def thalweglaw11_WheelLast.Pure : Prop := ∀ (l0 : List S29) (a1 : Int) (a2 : Int) (a3 : Int), (l0.length ≤ maxLen ∧ ∀ x0_ ∈ l0, ((Lit.int .i64 x0_.f0).wf = true ∧ (Lit.int .i64 x0_.f1).wf = true ∧ (Lit.int .i64 x0_.f2).wf = true)) → (Lit.int .i64 a1).wf = true → (Lit.int .i64 a2).wf = true → (Lit.int .i64 a3).wf = true → thalweglaw11_WheelLast.f l0 a1 a2 a3 = some true
end Go.Proofs.Ytljajnednggebaa.P
