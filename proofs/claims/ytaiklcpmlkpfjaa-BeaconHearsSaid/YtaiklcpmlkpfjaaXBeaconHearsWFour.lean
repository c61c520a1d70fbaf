/- The statement BeaconHears, proved of the given program; it has no conditions. (Words of the kit's print.) -/
import Derived.Test.YtaiklcpmlkpfjaaXBeaconHearsWTab
set_option linter.unusedVariables false
set_option linter.unusedSimpArgs false
namespace Go.Proofs.YtaiklcpmlkpfjaaW.PrintLast
section
variable {P : Program} {ops : Array Oper} {Q : Exit → Act → World → Prop} {md : Region.Mode} {S : World → Prop} {ds : List Nat} {T : Bool × List (List Nat × List Nat)}
end
end Go.Proofs.YtaiklcpmlkpfjaaW.PrintLast
