-- WRITTEN BY xprint.py, a program of this session that drives the kit's printer.
import Derived.Test.YtljajnednggebaaEld
import Derived.Test.YtljajnednggebaaP0
namespace Go.Proofs.Ytljajnednggebaa.P
open Go.RowKit Go.Proofs.YtljajnednggebaaW.PrintWords
/-- The one plain statement of WheelParts. -/
def thalweglaw11_WheelParts.Pure : Prop := ∀ (l0 : List S29) (a1 : Int) (a2 : Int), (l0.length ≤ maxLen ∧ ∀ x0_ ∈ l0, ((Lit.int .i64 x0_.f0).wf = true ∧ (Lit.int .i64 x0_.f1).wf = true ∧ (Lit.int .i64 x0_.f2).wf = true)) → (Lit.int .i64 a1).wf = true → (Lit.int .i64 a2).wf = true → thalweglaw11_WheelParts.f l0 a1 a2 = some true
end Go.Proofs.Ytljajnednggebaa.P
