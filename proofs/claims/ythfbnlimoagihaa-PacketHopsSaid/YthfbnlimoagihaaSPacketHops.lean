-- WRITTEN BY xprint.py, a program of this session that drives the kit's printer.
import Derived.Test.YthfbnlimoagihaaP7
import Derived.Test.YthfbnlimoagihaaP0
namespace Go.Proofs.Ythfbnlimoagihaa.P
open Go.RowKit Go.Proofs.YthfbnlimoagihaaW.PrintWords
/-- The one plain statement of PacketHops. -/
def thalweglaw08_PacketHops.Pure : Prop := ∀ (x0 : S23), ((Lit.int .i64 x0.f0).wf = true ∧ (Lit.int .i64 x0.f1).wf = true ∧ (Lit.int .i64 x0.f2).wf = true ∧ (Lit.int .i64 x0.f3).wf = true ∧ x0.f4.size ≤ maxLen) → ∃ k, thalweglaw08_PacketHops.f k x0.f0 x0.f1 x0.f2 x0.f3 x0.f4 = some true
end Go.Proofs.Ythfbnlimoagihaa.P
