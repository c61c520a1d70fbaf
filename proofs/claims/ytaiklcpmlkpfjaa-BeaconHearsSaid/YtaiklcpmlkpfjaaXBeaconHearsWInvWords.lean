/- The statement BeaconHears, proved of the given program; it has no conditions. (Words of the kit's print.) -/
import Derived.Test.YtaiklcpmlkpfjaaXBeaconHearsWInv
import Derived.Test.YtaiklcpmlkpfjaaXBeaconHearsWFootNe
set_option linter.unusedVariables false
set_option linter.unusedSimpArgs false
namespace Go.Proofs.YtaiklcpmlkpfjaaW.PrintWords
open Go.RowKit
end Go.Proofs.YtaiklcpmlkpfjaaW.PrintWords
namespace Go.Proofs.YtaiklcpmlkpfjaaW.PrintLast
section
variable {ops : Array Oper} {a : Act} {o og : Oper} {g : Nat} {t : Tmp} {u : Bool}
end
end Go.Proofs.YtaiklcpmlkpfjaaW.PrintLast
