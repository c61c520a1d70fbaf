-- WRITTEN BY xprint.py, a program of this session that drives the kit's printer.
import Derived.Test.YtljajnednggebaaEla
import Derived.Test.YtljajnednggebaaP0
namespace Go.Proofs.Ytljajnednggebaa.P
open Go.RowKit Go.Proofs.YtljajnednggebaaW.PrintWords
/-- The one plain statement of WheelNil. -/
def thalweglaw11_WheelNil.Pure : Prop := ∀ (a0 : Int) (a1 : Int), (Lit.int .i64 a0).wf = true → (Lit.int .i64 a1).wf = true → thalweglaw11_WheelNil.f a0 a1 = some true
end Go.Proofs.Ytljajnednggebaa.P
