/- wire.Int, plain. -/
import Derived.Test.YtfhhjoblfnbnkaaEev
import Derived.Test.YtfhhjoblfnbnkaaP4
namespace Go.Proofs.Ytfhhjoblfnbnkaa.P
set_option linter.unusedSimpArgs false
set_option linter.unusedVariables false
open Go.RowKit Go.Proofs.YtfhhjoblfnbnkaaW.PrintWords Go.Proofs.YtfhhjoblfnbnkaaW.PrintLast Go.Proofs.YtfhhjoblfnbnkaaW.PrintMore
theorem wire_Int_eq (v : Int) : wire_Int.f v = some (intSpec v) := by
  unfold wire_Int.f wire_bytes.f intSpec
  rw [wrap_u64, if_pos (by omega)]
  rfl
end Go.Proofs.Ytfhhjoblfnbnkaa.P
