-- WRITTEN BY xprint.py, a program of this session that drives the kit's printer.
import Derived.Test.YtljajnednggebaaEle
import Derived.Test.YtljajnednggebaaP0
namespace Go.Proofs.Ytljajnednggebaa.P
open Go.RowKit Go.Proofs.YtljajnednggebaaW.PrintWords
/-- The one plain statement of WheelDoes. -/
def thalweglaw11_WheelDoes.Pure : Prop := ∀ (a0 : Int) (l1 : List S29), (Lit.int .i64 a0).wf = true → (l1.length ≤ maxLen ∧ ∀ x0_ ∈ l1, ((Lit.int .i64 x0_.f0).wf = true ∧ (Lit.int .i64 x0_.f1).wf = true ∧ (Lit.int .i64 x0_.f2).wf = true)) → thalweglaw11_WheelDoes.f a0 l1 = some true
end Go.Proofs.Ytljajnednggebaa.P
