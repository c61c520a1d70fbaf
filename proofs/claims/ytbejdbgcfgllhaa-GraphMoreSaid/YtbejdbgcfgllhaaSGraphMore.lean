-- WRITTEN BY xprint.py, a program of this session that drives the kit's printer.
import Derived.Test.YtbejdbgcfgllhaaP21
import Derived.Test.YtbejdbgcfgllhaaP0
namespace Go.Proofs.Ytbejdbgcfgllhaa.P
open Go.RowKit Go.Proofs.YtbejdbgcfgllhaaW.PrintWords
/-- The one plain statement of GraphMore. -/
def thalweglaw25_GraphMore.Pure : Prop := ∀ (a0 : Int) (l1 : List S36) (x2 : S36) (a3 : Int), (Lit.int .i64 a0).wf = true → (l1.length ≤ maxLen ∧ ∀ x0_ ∈ l1, ((Lit.int .i64 x0_.f0).wf = true ∧ (Lit.int .i64 x0_.f1).wf = true)) → ((Lit.int .i64 x2.f0).wf = true ∧ (Lit.int .i64 x2.f1).wf = true) → (Lit.int .i64 a3).wf = true → ∃ k, thalweglaw25_GraphMore.f k a0 l1 x2.f0 x2.f1 a3 = some true
end Go.Proofs.Ytbejdbgcfgllhaa.P
