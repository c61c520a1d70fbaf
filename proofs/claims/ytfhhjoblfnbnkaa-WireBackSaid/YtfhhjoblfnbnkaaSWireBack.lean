-- WRITTEN BY xprint.py, a program of this session that drives the kit's printer.
import Derived.Test.YtfhhjoblfnbnkaaP12
import Derived.Test.YtfhhjoblfnbnkaaP0
namespace Go.Proofs.Ytfhhjoblfnbnkaa.P
open Go.RowKit Go.Proofs.YtfhhjoblfnbnkaaW.PrintWords
/-- The one plain statement of WireBack. -/
def thalweglaw01_WireBack.Pure : Prop := ∀ (a0 : Int) (a1 : Int) (l2 : List Int) (l3 : List Int), (Lit.int .i64 a0).wf = true → (Lit.int .i64 a1).wf = true → l2.length ≤ maxLen → (∀ x ∈ l2, (Lit.int .u8 x).wf = true) → l3.length ≤ maxLen → (∀ x ∈ l3, (Lit.int .u8 x).wf = true) → ∃ k, thalweglaw01_WireBack.f k a0 a1 l2 l3 = some true
end Go.Proofs.Ytfhhjoblfnbnkaa.P
