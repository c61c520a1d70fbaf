-- WRITTEN BY xprint.py, a program of this session that drives the kit's printer.
import Derived.Test.YthfbnlimoagihaaP13
import Derived.Test.YthfbnlimoagihaaP0
namespace Go.Proofs.Ythfbnlimoagihaa.P
open Go.RowKit Go.Proofs.YthfbnlimoagihaaW.PrintWords
/-- The one plain statement of PacketBack. -/
def thalweglaw08_PacketBack.Pure : Prop := ∀ (x0 : S23) (l1 : List Int) (l2 : List Int), ((Lit.int .i64 x0.f0).wf = true ∧ (Lit.int .i64 x0.f1).wf = true ∧ (Lit.int .i64 x0.f2).wf = true ∧ (Lit.int .i64 x0.f3).wf = true ∧ x0.f4.size ≤ maxLen) → l1.length ≤ maxLen → (∀ x ∈ l1, (Lit.int .u8 x).wf = true) → l2.length ≤ maxLen → (∀ x ∈ l2, (Lit.int .u8 x).wf = true) → ∃ k, thalweglaw08_PacketBack.f k x0.f0 x0.f1 x0.f2 x0.f3 x0.f4 l1 l2 = some true
end Go.Proofs.Ythfbnlimoagihaa.P
