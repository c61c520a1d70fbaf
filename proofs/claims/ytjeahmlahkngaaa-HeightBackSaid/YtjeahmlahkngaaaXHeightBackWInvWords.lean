/- The statement HeightBack, proved of the given program; it has no conditions. (Words of the kit's print.) -/
import Derived.Test.YtjeahmlahkngaaaXHeightBackWInv
import Derived.Test.YtjeahmlahkngaaaXHeightBackWFootNe
set_option linter.unusedVariables false
set_option linter.unusedSimpArgs false
namespace Go.Proofs.YtjeahmlahkngaaaW.PrintWords
open Go.RowKit
end Go.Proofs.YtjeahmlahkngaaaW.PrintWords
namespace Go.Proofs.YtjeahmlahkngaaaW.PrintLast
section
variable {ops : Array Oper} {a : Act} {o og : Oper} {g : Nat} {t : Tmp} {u : Bool}
end
end Go.Proofs.YtjeahmlahkngaaaW.PrintLast
