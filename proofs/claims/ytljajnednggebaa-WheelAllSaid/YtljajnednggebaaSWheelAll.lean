-- WRITTEN BY xprint.py, a program of this session that drives the kit's printer.
import Derived.Test.YtljajnednggebaaElb
import Derived.Test.YtljajnednggebaaP0
namespace Go.Proofs.Ytljajnednggebaa.P
open Go.RowKit Go.Proofs.YtljajnednggebaaW.PrintWords
/-- The one plain statement of WheelAll. -/
def thalweglaw11_WheelAll.Pure : Prop := ∀ (l0 : List S29), (l0.length ≤ maxLen ∧ ∀ x0_ ∈ l0, ((Lit.int .i64 x0_.f0).wf = true ∧ (Lit.int .i64 x0_.f1).wf = true ∧ (Lit.int .i64 x0_.f2).wf = true)) → thalweglaw11_WheelAll.f l0 = some true
end Go.Proofs.Ytljajnednggebaa.P
