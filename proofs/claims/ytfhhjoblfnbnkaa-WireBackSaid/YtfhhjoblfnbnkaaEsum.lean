/- Sums of bytes, plain. -/
import Derived.Test.YtfhhjoblfnbnkaaEev
namespace Go.Proofs.Ytfhhjoblfnbnkaa.P
set_option linter.unusedSimpArgs false
set_option linter.unusedVariables false
open Go.RowKit Go.Proofs.YtfhhjoblfnbnkaaW.PrintWords Go.Proofs.YtfhhjoblfnbnkaaW.PrintLast Go.Proofs.YtfhhjoblfnbnkaaW.PrintMore
def sumStep (s : Int × Int) (c : Int) : Int × Int := ((s.1 + c) % 251, (s.2 + (s.1 + c) % 251) % 251)
def sumEnd (s : Int × Int) : Int := 256 * s.2 + s.1
def sumSpec (l : List Int) : Int := sumEnd (l.foldl sumStep (1, 0))
theorem tmod_nonneg (a : Int) (h : 0 ≤ a) (b : Int) : Int.tmod a b = a % b := Int.tmod_eq_emod_of_nonneg h
theorem sum_step (x y c : Int) (hx : 0 ≤ x ∧ x ≤ 250) (hy : 0 ≤ y ∧ y ≤ 250) (hc : 0 ≤ c ∧ c ≤ 255) :
    Int.tmod (wrap64 (x + wrap64 c)) 251 = (sumStep (x, y) c).1 ∧ Int.tmod (wrap64 (y + (sumStep (x, y) c).1)) 251 = (sumStep (x, y) c).2 ∧ (0 ≤ (sumStep (x, y) c).1 ∧ (sumStep (x, y) c).1 ≤ 250) ∧ (0 ≤ (sumStep (x, y) c).2 ∧ (sumStep (x, y) c).2 ≤ 250) := by
  have h0 : 0 ≤ (x + c) % 251 ∧ (x + c) % 251 ≤ 250 := by omega
  refine ⟨?_, ?_, ?_, ?_⟩
  · rw [w64 (x := c) (by omega) (by omega), w64 (by omega) (by omega), tmod_nonneg _ (by omega)]
    rfl
  · show Int.tmod (wrap64 (y + (x + c) % 251)) 251 = (y + (x + c) % 251) % 251
    rw [w64 (by omega) (by omega), tmod_nonneg _ (by omega)]
  · exact h0
  · show 0 ≤ (y + (x + c) % 251) % 251 ∧ (y + (x + c) % 251) % 251 ≤ 250
    omega
end Go.Proofs.Ytfhhjoblfnbnkaa.P
