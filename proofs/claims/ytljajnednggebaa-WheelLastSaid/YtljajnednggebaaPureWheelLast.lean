/- WheelLast: nothing is left to be shown. -/
import Derived.Test.YtljajnednggebaaSWheelLast
import Derived.Test.YtljajnednggebaaElc
namespace Go.Proofs.Ytljajnednggebaa.Pure
open Go.RowKit Go.Proofs.Ytljajnednggebaa.P
theorem WheelLast : thalweglaw11_WheelLast.Pure := fun _ _ _ _ h h1 h2 h3 => if_pos ⟨fun o ho => ⟨(h.2 o ho).2.1, (h.2 o ho).2.2⟩, h1, h2, h3⟩
end Go.Proofs.Ytljajnednggebaa.Pure
