-- WRITTEN BY xprint.py, a program of this session that drives the kit's printer.
import Derived.Test.YtbejdbgcfgllhaaP30
import Derived.Test.YtbejdbgcfgllhaaP0
namespace Go.Proofs.Ytbejdbgcfgllhaa.P
open Go.RowKit Go.Proofs.YtbejdbgcfgllhaaW.PrintWords
/-- The one plain statement of GraphDown. -/
def thalweglaw25_GraphDown.Pure : Prop := ∀ (l0 : List S45) (l1 : List (List (S55))) (l2 : List Int), (l0.length ≤ maxLen ∧ ∀ x0_ ∈ l0, (True ∧ (Lit.int .i64 x0_.f1).wf = true ∧ (Lit.int .i64 x0_.f2).wf = true ∧ (Lit.int .i64 x0_.f3).wf = true ∧ (Lit.int .i64 x0_.f4).wf = true ∧ (Lit.int .i64 x0_.f5).wf = true)) → (l1.length ≤ maxLen ∧ ∀ x0_ ∈ l1, (x0_.length ≤ maxLen ∧ ∀ x1_ ∈ x0_, ((Lit.int .i64 x1_.f0).wf = true ∧ (True ∧ (Lit.int .i64 x1_.f1.f1).wf = true ∧ (Lit.int .i64 x1_.f1.f2).wf = true ∧ (Lit.int .i64 x1_.f1.f3).wf = true ∧ (Lit.int .i64 x1_.f1.f4).wf = true ∧ (Lit.int .i64 x1_.f1.f5).wf = true)))) → l2.length ≤ maxLen → (∀ x ∈ l2, (Lit.int .i64 x).wf = true) → ∃ k, thalweglaw25_GraphDown.f k l0 l1 l2 = some true
end Go.Proofs.Ytbejdbgcfgllhaa.P
