-- WRITTEN BY xprint.py, a program of this session that drives the kit's printer.
import Derived.Test.YtfhhjoblfnbnkaaP8
import Derived.Test.YtfhhjoblfnbnkaaP0
namespace Go.Proofs.Ytfhhjoblfnbnkaa.P
open Go.RowKit Go.Proofs.YtfhhjoblfnbnkaaW.PrintWords
/-- The one plain statement of WirePuts. -/
def thalweglaw01_WirePuts.Pure : Prop := ∀ (a0 : Int) (a1 : Int) (l2 : List Int), (Lit.int .i64 a0).wf = true → (Lit.int .i64 a1).wf = true → l2.length ≤ maxLen → (∀ x ∈ l2, (Lit.int .u8 x).wf = true) → ∃ k, thalweglaw01_WirePuts.f k a0 a1 l2 = some true
end Go.Proofs.Ytfhhjoblfnbnkaa.P
