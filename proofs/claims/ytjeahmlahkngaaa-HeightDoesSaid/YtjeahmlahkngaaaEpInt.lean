/- wire.Int, plain. -/
import Derived.Test.YtjeahmlahkngaaaEev
import Derived.Test.YtjeahmlahkngaaaP7
namespace Go.Proofs.Ytjeahmlahkngaaa.P
set_option linter.unusedSimpArgs false
set_option linter.unusedVariables false
open Go.RowKit Go.Proofs.YtjeahmlahkngaaaW.PrintWords Go.Proofs.YtjeahmlahkngaaaW.PrintLast Go.Proofs.YtjeahmlahkngaaaW.PrintMore
theorem wire_Int_eq (v : Int) : wire_Int.f v = some (intSpec v) := by
  unfold wire_Int.f wire_bytes.f intSpec
  rw [wrap_u64, if_pos (by omega)]
  rfl
end Go.Proofs.Ytjeahmlahkngaaa.P
