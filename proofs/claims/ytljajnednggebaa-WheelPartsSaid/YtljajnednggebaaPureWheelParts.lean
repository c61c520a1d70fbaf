/- WheelParts: nothing is left to be shown. -/
import Derived.Test.YtljajnednggebaaSWheelParts
import Derived.Test.YtljajnednggebaaEld
namespace Go.Proofs.Ytljajnednggebaa.Pure
open Go.RowKit Go.Proofs.Ytljajnednggebaa.P
theorem WheelParts : thalweglaw11_WheelParts.Pure := fun _ _ _ h _ _ => if_pos fun o ho => ⟨(h.2 o ho).2.1, (h.2 o ho).2.2⟩
end Go.Proofs.Ytljajnednggebaa.Pure
