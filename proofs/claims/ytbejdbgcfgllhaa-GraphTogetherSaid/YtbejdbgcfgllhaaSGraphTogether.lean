-- WRITTEN BY xprint.py, a program of this session that drives the kit's printer.
import Derived.Test.YtbejdbgcfgllhaaP20
import Derived.Test.YtbejdbgcfgllhaaP0
namespace Go.Proofs.Ytbejdbgcfgllhaa.P
open Go.RowKit Go.Proofs.YtbejdbgcfgllhaaW.PrintWords
/-- The one plain statement of GraphTogether. -/
def thalweglaw25_GraphTogether.Pure : Prop := ∀ (a0 : Int) (l1 : List S36), (Lit.int .i64 a0).wf = true → (l1.length ≤ maxLen ∧ ∀ x0_ ∈ l1, ((Lit.int .i64 x0_.f0).wf = true ∧ (Lit.int .i64 x0_.f1).wf = true)) → ∃ k, thalweglaw25_GraphTogether.f k a0 l1 = some true
end Go.Proofs.Ytbejdbgcfgllhaa.P
