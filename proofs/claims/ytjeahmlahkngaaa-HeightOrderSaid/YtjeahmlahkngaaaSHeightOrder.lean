-- WRITTEN BY xprint.py, a program of this session that drives the kit's printer.
import Derived.Test.YtjeahmlahkngaaaP22
import Derived.Test.YtjeahmlahkngaaaP0
namespace Go.Proofs.Ytjeahmlahkngaaa.P
open Go.RowKit Go.Proofs.YtjeahmlahkngaaaW.PrintWords
/-- The one plain statement of HeightOrder. -/
def thalweglaw02_HeightOrder.Pure : Prop := ∀ (x0 : S23) (x1 : S23) (x2 : S23), (True ∧ (Lit.int .i64 x0.f1).wf = true ∧ (Lit.int .i64 x0.f2).wf = true ∧ (Lit.int .i64 x0.f3).wf = true ∧ (Lit.int .i64 x0.f4).wf = true ∧ (Lit.int .i64 x0.f5).wf = true) → (True ∧ (Lit.int .i64 x1.f1).wf = true ∧ (Lit.int .i64 x1.f2).wf = true ∧ (Lit.int .i64 x1.f3).wf = true ∧ (Lit.int .i64 x1.f4).wf = true ∧ (Lit.int .i64 x1.f5).wf = true) → (True ∧ (Lit.int .i64 x2.f1).wf = true ∧ (Lit.int .i64 x2.f2).wf = true ∧ (Lit.int .i64 x2.f3).wf = true ∧ (Lit.int .i64 x2.f4).wf = true ∧ (Lit.int .i64 x2.f5).wf = true) → ∃ k, thalweglaw02_HeightOrder.f k x0.f0 x0.f1 x0.f2 x0.f3 x0.f4 x0.f5 x1.f0 x1.f1 x1.f2 x1.f3 x1.f4 x1.f5 x2.f0 x2.f1 x2.f2 x2.f3 x2.f4 x2.f5 = some true
end Go.Proofs.Ytjeahmlahkngaaa.P
