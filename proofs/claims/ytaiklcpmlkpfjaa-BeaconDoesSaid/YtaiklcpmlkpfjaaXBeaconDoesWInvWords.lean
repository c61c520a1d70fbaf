/- Words. -/
import Derived.Test.YtaiklcpmlkpfjaaXBeaconDoesWInv
import Derived.Test.YtaiklcpmlkpfjaaXBeaconDoesWFootNe
namespace Go.Proofs.YtaiklcpmlkpfjaaW.PrintWords
open Go.RowKit
end Go.Proofs.YtaiklcpmlkpfjaaW.PrintWords
namespace Go.Proofs.YtaiklcpmlkpfjaaW.PrintLast
section
variable {ops : Array Oper} {a : Act} {o og : Oper} {g : Nat} {t : Tmp} {u : Bool}
end
end Go.Proofs.YtaiklcpmlkpfjaaW.PrintLast
