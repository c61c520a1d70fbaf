/- WheelNil: nothing is left to be shown. -/
import Derived.Test.YtljajnednggebaaSWheelNil
import Derived.Test.YtljajnednggebaaEla
namespace Go.Proofs.Ytljajnednggebaa.Pure
open Go.RowKit Go.Proofs.Ytljajnednggebaa.P
theorem WheelNil : thalweglaw11_WheelNil.Pure := fun _ _ _ _ => rfl
end Go.Proofs.Ytljajnednggebaa.Pure
