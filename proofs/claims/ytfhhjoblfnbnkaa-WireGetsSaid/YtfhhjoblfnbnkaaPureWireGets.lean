/- WireGets: from a place on just this number stands, or it is told why not; the plain law. -/
import Derived.Test.YtfhhjoblfnbnkaaEa01
import Derived.Test.YtfhhjoblfnbnkaaErGet
import Derived.Test.YtfhhjoblfnbnkaaErGetInt
import Derived.Test.YtfhhjoblfnbnkaaP10
namespace Go.Proofs.Ytfhhjoblfnbnkaa.Pure
set_option linter.unusedSimpArgs false
set_option linter.unusedVariables false
open Go.RowKit Go.Proofs.Ytfhhjoblfnbnkaa.P Go.Proofs.YtfhhjoblfnbnkaaW.PrintWords Go.Proofs.YtfhhjoblfnbnkaaW.PrintLast Go.Proofs.YtfhhjoblfnbnkaaW.PrintMore
theorem WireGets : thalweglaw01_WireGets.Pure := by
  intro l a n _ _ hw _ _
  have hB : Bytes l := bytes_of hw
  apply Ev.rounds
  unfold thalweglaw01_WireGets.f
  by_cases c : (l.length : Int) > 500
  · simp only [if_pos c]; exact Ev.now _
  have hl : l.length ≤ 1000000000000 := by omega
  simp only [if_neg c, wire_Get_eq l a n hB hl, wire_GetInt_eq l a hB hl, Option.bind_some]
  refine Ev.bind (refGet_ev l a n hB hl) ?_
  refine Ev.bind (refGetInt_ev l a hB hl) ?_
  refine Ev.bind awake01 ?_
  simp only [if_true, beq_self_eq_true]
  exact Ev.now _
end Go.Proofs.Ytfhhjoblfnbnkaa.Pure
