/- Layer 1: the document's examples. -/
import Derived.Test.YtfhhjoblfnbnkaaEpGetInt
import Derived.Test.YtfhhjoblfnbnkaaEpPut
import Derived.Test.YtfhhjoblfnbnkaaEpInt
import Derived.Test.YtfhhjoblfnbnkaaEpSum
import Derived.Test.YtfhhjoblfnbnkaaP5
namespace Go.Proofs.Ytfhhjoblfnbnkaa.P
set_option linter.unusedSimpArgs false
set_option linter.unusedVariables false
open Go.RowKit Go.Proofs.YtfhhjoblfnbnkaaW.PrintWords Go.Proofs.YtfhhjoblfnbnkaaW.PrintLast Go.Proofs.YtfhhjoblfnbnkaaW.PrintMore
theorem awake01 : Ev (fun k => thalweglaw01_awake.f k) true := by
  unfold thalweglaw01_awake.f
  have b1 : Bytes [0, 1, 2] := by intro x hx; simp at hx; omega
  have b2 : Bytes [1, 2] := by intro x hx; simp at hx; omega
  have e1 : putSpec 258 3 = ([0, 1, 2], 0) := by decide +kernel
  have e2 : getSpec [0, 1, 2] 0 3 = (258, 3, 0) := by decide +kernel
  have e3 : getIntSpec (intSpec (-2)) 0 = (-2, 8, 0) := by decide +kernel
  have e4 : sumSpec [] = 1 := by decide +kernel
  have e5 : sumSpec [1, 2] = 1540 := by decide +kernel
  have e6 : (strOfNums [0, 1, 2]).toList = ([0, 1, 2] : List UInt8) := by decide +kernel
  have hl : (intSpec (-2)).length = 8 := be_length _ _
  rw [wire_Put_eq 258 3 (by decide), wire_Int_eq]
  simp only [wire_Get_eq [0, 1, 2] 0 3 b1 (by decide), wire_GetInt_eq (intSpec (-2)) 0 (be_bytes _ _) (by omega), Option.bind_some, e1, e2, e3, e6, if_true]
  refine Ev.bind (wire_Sum_ev [] Bytes.nil (by decide)) ?_
  simp only [e4, if_true]
  refine Ev.bind (wire_Sum_ev [1, 2] b2 (by decide)) ?_
  simp only [e5, if_true]
  exact Ev.now _
end Go.Proofs.Ytfhhjoblfnbnkaa.P
