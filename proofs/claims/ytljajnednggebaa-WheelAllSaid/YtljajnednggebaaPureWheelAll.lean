/- WheelAll: nothing is left to be shown. -/
import Derived.Test.YtljajnednggebaaSWheelAll
import Derived.Test.YtljajnednggebaaElb
namespace Go.Proofs.Ytljajnednggebaa.Pure
open Go.RowKit Go.Proofs.Ytljajnednggebaa.P
theorem WheelAll : thalweglaw11_WheelAll.Pure := fun _ h => if_pos (fun o ho => ⟨(h.2 o ho).2.1, (h.2 o ho).2.2⟩)
end Go.Proofs.Ytljajnednggebaa.Pure
