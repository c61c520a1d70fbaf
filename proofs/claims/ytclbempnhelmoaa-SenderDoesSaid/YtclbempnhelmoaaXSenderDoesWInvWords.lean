/- Words. -/
import Derived.Test.YtclbempnhelmoaaXSenderDoesWInv
import Derived.Test.YtclbempnhelmoaaXSenderDoesWFootNe
namespace Go.Proofs.YtclbempnhelmoaaW.PrintWords
open Go.RowKit
end Go.Proofs.YtclbempnhelmoaaW.PrintWords
namespace Go.Proofs.YtclbempnhelmoaaW.PrintLast
section
variable {ops : Array Oper} {a : Act} {o og : Oper} {g : Nat} {t : Tmp} {u : Bool}
end
end Go.Proofs.YtclbempnhelmoaaW.PrintLast
