-- WRITTEN BY xprint.py, a program of this session that drives the kit's printer.
import Derived.Test.YtbejdbgcfgllhaaP19
import Derived.Test.YtbejdbgcfgllhaaP0
namespace Go.Proofs.Ytbejdbgcfgllhaa.P
open Go.RowKit Go.Proofs.YtbejdbgcfgllhaaW.PrintWords
/-- The one plain statement of GraphTells. -/
def thalweglaw25_GraphTells.Pure : Prop := ∀ (a0 : Int) (l1 : List S36) (a2 : Int) (l3 : List Int) (a4 : Int), (Lit.int .i64 a0).wf = true → (l1.length ≤ maxLen ∧ ∀ x0_ ∈ l1, ((Lit.int .i64 x0_.f0).wf = true ∧ (Lit.int .i64 x0_.f1).wf = true)) → (Lit.int .i64 a2).wf = true → l3.length ≤ maxLen → (∀ x ∈ l3, (Lit.int .i64 x).wf = true) → (Lit.int .i64 a4).wf = true → ∃ k, thalweglaw25_GraphTells.f k a0 l1 a2 l3 a4 = some true
end Go.Proofs.Ytbejdbgcfgllhaa.P
