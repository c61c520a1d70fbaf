/- Layer 4, plain: check and size of an object. -/
import Derived.Test.YtmcmemknikineaaEpInt
import Derived.Test.YtmcmemknikineaaP5
import Derived.Test.YtmcmemknikineaaP6
import Derived.Test.YtmcmemknikineaaP9
import Derived.Test.YtmcmemknikineaaP7
import Derived.Test.YtmcmemknikineaaP10
import Derived.Test.YtmcmemknikineaaP20
import Derived.Test.YtmcmemknikineaaP11
namespace Go.Proofs.Ytmcmemknikineaa.P
set_option linter.unusedSimpArgs false
set_option linter.unusedVariables false
open Go.RowKit Go.Proofs.YtmcmemknikineaaW.PrintWords Go.Proofs.YtmcmemknikineaaW.PrintLast Go.Proofs.YtmcmemknikineaaW.PrintMore
theorem awake04 : Ev (fun k => thalweglaw04_awake.f k) true := Ev.of (fun k => thalweglaw04_awake.mono k) (k := 10) (by decide +kernel)
theorem intSpec_length (v : Int) : (intSpec v).length = 8 := be_length _ _
theorem ob_no (a0 a1 : Int) (a2 : Bool) (a3 a4 a5 a6 a7 a8 a9 a10 a11 c : Int) (h : Ev (fun k => object_Check.f k a0 a1 a2 a3 a4 a5 a6 a7 a8 a9 a10 a11) c) (hc : c ≠ 0) :
    Ev (fun k => object_Bytes.f k a0 a1 a2 a3 a4 a5 a6 a7 a8 a9 a10 a11) ([], c) := by
  unfold object_Bytes.f
  refine Ev.bind h ?_
  simp only [if_neg hc]
  exact Ev.now _
theorem os_ev (a0 a1 : Int) (a2 : Bool) (a3 a4 a5 a6 a7 a8 a9 a10 a11 : Int) (out : List Int × Int) (h : Ev (fun k => object_Bytes.f k a0 a1 a2 a3 a4 a5 a6 a7 a8 a9 a10 a11) out) :
    Ev (fun k => object_Size.f k a0 a1 a2 a3 a4 a5 a6 a7 a8 a9 a10 a11) (out.1.length : Int) := by
  unfold object_Size.f
  exact Ev.bind h (Ev.now _)
end Go.Proofs.Ytmcmemknikineaa.P
