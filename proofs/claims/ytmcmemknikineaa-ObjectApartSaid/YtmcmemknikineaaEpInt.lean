/- wire.Int, plain. -/
import Derived.Test.YtmcmemknikineaaEev
import Derived.Test.YtmcmemknikineaaP8
namespace Go.Proofs.Ytmcmemknikineaa.P
set_option linter.unusedSimpArgs false
set_option linter.unusedVariables false
open Go.RowKit Go.Proofs.YtmcmemknikineaaW.PrintWords Go.Proofs.YtmcmemknikineaaW.PrintLast Go.Proofs.YtmcmemknikineaaW.PrintMore
theorem wire_Int_eq (v : Int) : wire_Int.f v = some (intSpec v) := by
  unfold wire_Int.f wire_bytes.f intSpec
  rw [wrap_u64, if_pos (by omega)]
  rfl
end Go.Proofs.Ytmcmemknikineaa.P
