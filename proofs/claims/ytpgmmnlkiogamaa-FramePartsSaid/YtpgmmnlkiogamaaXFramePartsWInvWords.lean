/- Words. -/
import Derived.Test.YtpgmmnlkiogamaaXFramePartsWInv
import Derived.Test.YtpgmmnlkiogamaaXFramePartsWFootNe
namespace Go.Proofs.YtpgmmnlkiogamaaW.PrintWords
open Go.RowKit
end Go.Proofs.YtpgmmnlkiogamaaW.PrintWords
namespace Go.Proofs.YtpgmmnlkiogamaaW.PrintLast
section
variable {ops : Array Oper} {a : Act} {o og : Oper} {g : Nat} {t : Tmp} {u : Bool}
end
end Go.Proofs.YtpgmmnlkiogamaaW.PrintLast
