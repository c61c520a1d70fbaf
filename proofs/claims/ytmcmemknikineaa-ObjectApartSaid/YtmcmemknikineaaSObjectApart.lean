-- WRITTEN BY xprint.py, a program of this session that drives the kit's printer.
import Derived.Test.YtmcmemknikineaaP12
import Derived.Test.YtmcmemknikineaaP0
namespace Go.Proofs.Ytmcmemknikineaa.P
open Go.RowKit Go.Proofs.YtmcmemknikineaaW.PrintWords
/-- The one plain statement of ObjectApart. -/
def thalweglaw04_ObjectApart.Pure : Prop := ∀ (x0 : S27) (x1 : S27), ((Lit.int .i64 x0.f0).wf = true ∧ (Lit.int .i64 x0.f1).wf = true ∧ (True ∧ (Lit.int .i64 x0.f2.f1).wf = true ∧ (Lit.int .i64 x0.f2.f2).wf = true ∧ (Lit.int .i64 x0.f2.f3).wf = true ∧ (Lit.int .i64 x0.f2.f4).wf = true ∧ (Lit.int .i64 x0.f2.f5).wf = true) ∧ ((Lit.int .i64 x0.f3.f0).wf = true ∧ (Lit.int .i64 x0.f3.f1).wf = true ∧ (Lit.int .i64 x0.f3.f2).wf = true) ∧ (Lit.int .i64 x0.f4).wf = true) → ((Lit.int .i64 x1.f0).wf = true ∧ (Lit.int .i64 x1.f1).wf = true ∧ (True ∧ (Lit.int .i64 x1.f2.f1).wf = true ∧ (Lit.int .i64 x1.f2.f2).wf = true ∧ (Lit.int .i64 x1.f2.f3).wf = true ∧ (Lit.int .i64 x1.f2.f4).wf = true ∧ (Lit.int .i64 x1.f2.f5).wf = true) ∧ ((Lit.int .i64 x1.f3.f0).wf = true ∧ (Lit.int .i64 x1.f3.f1).wf = true ∧ (Lit.int .i64 x1.f3.f2).wf = true) ∧ (Lit.int .i64 x1.f4).wf = true) → ∃ k, thalweglaw04_ObjectApart.f k x0.f0 x0.f1 x0.f2.f0 x0.f2.f1 x0.f2.f2 x0.f2.f3 x0.f2.f4 x0.f2.f5 x0.f3.f0 x0.f3.f1 x0.f3.f2 x0.f4 x1.f0 x1.f1 x1.f2.f0 x1.f2.f1 x1.f2.f2 x1.f2.f3 x1.f2.f4 x1.f2.f5 x1.f3.f0 x1.f3.f1 x1.f3.f2 x1.f4 = some true
end Go.Proofs.Ytmcmemknikineaa.P
