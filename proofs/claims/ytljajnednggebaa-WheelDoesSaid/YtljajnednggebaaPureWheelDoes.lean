/- WheelDoes: nothing is left to be shown. -/
import Derived.Test.YtljajnednggebaaSWheelDoes
import Derived.Test.YtljajnednggebaaEle
namespace Go.Proofs.Ytljajnednggebaa.Pure
open Go.RowKit Go.Proofs.Ytljajnednggebaa.P
theorem WheelDoes : thalweglaw11_WheelDoes.Pure := fun _ _ _ h => if_pos fun o ho => ⟨(h.2 o ho).2.1, (h.2 o ho).2.2⟩
end Go.Proofs.Ytljajnednggebaa.Pure
