/- wire.GetInt, plain. -/
import Derived.Test.YtfhhjoblfnbnkaaEpGet
import Derived.Test.YtfhhjoblfnbnkaaP4
namespace Go.Proofs.Ytfhhjoblfnbnkaa.P
set_option linter.unusedSimpArgs false
set_option linter.unusedVariables false
open Go.RowKit Go.Proofs.YtfhhjoblfnbnkaaW.PrintWords Go.Proofs.YtfhhjoblfnbnkaaW.PrintLast Go.Proofs.YtfhhjoblfnbnkaaW.PrintMore
theorem wire_GetInt_eq (l : List Int) (a : Int) (hB : Bytes l) (hl : l.length ≤ 1000000000000) : wire_GetInt.f l a = some (getIntSpec l a) := by
  unfold wire_GetInt.f getIntSpec
  rw [wire_number_eq l a 8 hB hl (by omega) (by omega)]
  rfl
end Go.Proofs.Ytfhhjoblfnbnkaa.P
