/- The statement AckBack, proved of the given program; it has no conditions. (Words of the kit's print.) -/
import Derived.Test.YtolfbnkdmafomaaXAckBackWInv
import Derived.Test.YtolfbnkdmafomaaXAckBackWFootNe
set_option linter.unusedVariables false
set_option linter.unusedSimpArgs false
namespace Go.Proofs.YtolfbnkdmafomaaW.PrintWords
open Go.RowKit
end Go.Proofs.YtolfbnkdmafomaaW.PrintWords
namespace Go.Proofs.YtolfbnkdmafomaaW.PrintLast
section
variable {ops : Array Oper} {a : Act} {o og : Oper} {g : Nat} {t : Tmp} {u : Bool}
end
end Go.Proofs.YtolfbnkdmafomaaW.PrintLast
