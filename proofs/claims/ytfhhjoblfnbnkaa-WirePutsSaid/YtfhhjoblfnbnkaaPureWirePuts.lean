/- WirePuts: numbers' bytes and sums are the document's; the plain law. -/
import Derived.Test.YtfhhjoblfnbnkaaEa01
import Derived.Test.YtfhhjoblfnbnkaaErBoth
import Derived.Test.YtfhhjoblfnbnkaaErPut
import Derived.Test.YtfhhjoblfnbnkaaErInt
import Derived.Test.YtfhhjoblfnbnkaaErSum
import Derived.Test.YtfhhjoblfnbnkaaSWirePuts
import Derived.Test.YtfhhjoblfnbnkaaP8
namespace Go.Proofs.Ytfhhjoblfnbnkaa.Pure
set_option linter.unusedSimpArgs false
set_option linter.unusedVariables false
open Go.RowKit Go.Proofs.Ytfhhjoblfnbnkaa.P Go.Proofs.YtfhhjoblfnbnkaaW.PrintWords Go.Proofs.YtfhhjoblfnbnkaaW.PrintLast Go.Proofs.YtfhhjoblfnbnkaaW.PrintMore
theorem WirePuts : thalweglaw01_WirePuts.Pure := by
  intro v n l hv hn _ hB
  have hB : Bytes l := bytes_of hB
  apply Ev.rounds
  unfold thalweglaw01_WirePuts.f
  by_cases c1 : (l.length : Int) > 500
  · simp only [if_pos c1]; exact Ev.now _
  simp only [if_neg c1]
  have hboth : Ev (fun k => thalwegref01_Both.f k [l]) l := by
    have := both_ev [l] (by simp) (by simp; omega)
    simpa using this
  refine Ev.bind hboth ?_
  simp only [wire_Put_eq v n hv, wire_Int_eq, Option.bind_some]
  refine Ev.bind (refPut_ev v n hv) (Ev.bind (wire_Sum_ev l hB (by omega)) (Ev.bind awake01 ?_))
  simp only [if_true]
  refine Ev.bind (refInt_ev v hv) ?_
  simp only [if_true]
  refine Ev.bind (refSum_ev l hB (by omega)) ?_
  simp only [if_true, beq_self_eq_true]
  exact Ev.now _
end Go.Proofs.Ytfhhjoblfnbnkaa.Pure
