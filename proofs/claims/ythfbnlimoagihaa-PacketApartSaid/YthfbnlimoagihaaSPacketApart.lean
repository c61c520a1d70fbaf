-- WRITTEN BY xprint.py, a program of this session that drives the kit's printer.
import Derived.Test.YthfbnlimoagihaaP8
import Derived.Test.YthfbnlimoagihaaP0
namespace Go.Proofs.Ythfbnlimoagihaa.P
open Go.RowKit Go.Proofs.YthfbnlimoagihaaW.PrintWords
/-- The one plain statement of PacketApart. -/
def thalweglaw08_PacketApart.Pure : Prop := ∀ (x0 : S23) (x1 : S23), ((Lit.int .i64 x0.f0).wf = true ∧ (Lit.int .i64 x0.f1).wf = true ∧ (Lit.int .i64 x0.f2).wf = true ∧ (Lit.int .i64 x0.f3).wf = true ∧ x0.f4.size ≤ maxLen) → ((Lit.int .i64 x1.f0).wf = true ∧ (Lit.int .i64 x1.f1).wf = true ∧ (Lit.int .i64 x1.f2).wf = true ∧ (Lit.int .i64 x1.f3).wf = true ∧ x1.f4.size ≤ maxLen) → ∃ k, thalweglaw08_PacketApart.f k x0.f0 x0.f1 x0.f2 x0.f3 x0.f4 x1.f0 x1.f1 x1.f2 x1.f3 x1.f4 = some true
end Go.Proofs.Ythfbnlimoagihaa.P
