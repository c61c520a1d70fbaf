/- ObjectSizes: how many bytes an object has, by its kind; the plain law. -/
import Derived.Test.YtmcmemknikineaaEp04
import Derived.Test.YtmcmemknikineaaSObjectSizes
import Derived.Test.YtmcmemknikineaaP22
namespace Go.Proofs.Ytmcmemknikineaa.Pure
set_option linter.unusedSimpArgs false
set_option linter.unusedVariables false
open Go.RowKit Go.Proofs.Ytmcmemknikineaa.P Go.Proofs.YtmcmemknikineaaW.PrintWords Go.Proofs.YtmcmemknikineaaW.PrintLast Go.Proofs.YtmcmemknikineaaW.PrintMore
theorem sizes_ev (a0 a1 : Int) (a2 : Bool) (a3 a4 a5 a6 a7 a8 a9 a10 a11 : Int) : Ev (fun k => thalweglaw04_ObjectSizes.f k a0 a1 a2 a3 a4 a5 a6 a7 a8 a9 a10 a11) true := by
  obtain ⟨c, hc, hr⟩ := oc_ev a0 a1 a2 a3 a4 a5 a6 a7 a8 a9 a10 a11
  unfold thalweglaw04_ObjectSizes.f
  by_cases h0 : c = 0
  · subst h0
    obtain ⟨out, ho, hl⟩ := ob_ev a0 a1 a2 a3 a4 a5 a6 a7 a8 a9 a10 a11 hc (hr rfl)
    refine Ev.bind (os_ev _ _ _ _ _ _ _ _ _ _ _ _ _ ho) ?_
    refine Ev.bind hc ?_
    simp only [if_true, Option.bind_some, hl]
    rcases hr rfl with rfl | rfl | ⟨rfl | ⟨rfl, rfl⟩, _⟩
    · simp only [show Int.tmod 1 5 = 1 by decide, if_neg (show ¬ (1 : Int) = 2 by decide), show (0 : Int) ≤ 1 by decide, show (1 : Int) < (([0, 2, 22, 12, 24] : List Int).length : Int) by decide, if_true]
      exact Ev.bind awake04 (Ev.now _)
    · simp only [show Int.tmod 3 5 = 3 by decide, if_neg (show ¬ (3 : Int) = 2 by decide), show (0 : Int) ≤ 3 by decide, show (3 : Int) < (([0, 2, 22, 12, 24] : List Int).length : Int) by decide, if_true]
      exact Ev.bind awake04 (Ev.now _)
    · simp only [show Int.tmod 2 5 = 2 by decide, show (0 : Int) ≤ 2 by decide, show (2 : Int) < (([0, 2, 22, 12, 24] : List Int).length : Int) by decide, if_true]
      cases a2 with
      | true => simp only [if_true]; exact Ev.bind awake04 (Ev.now _)
      | false => simp only [Bool.false_eq_true, if_false]; exact Ev.bind awake04 (Ev.now _)
    · simp only [show Int.tmod 4 5 = 4 by decide, if_neg (show ¬ (4 : Int) = 2 by decide), show (0 : Int) ≤ 4 by decide, show (4 : Int) < (([0, 2, 22, 12, 24] : List Int).length : Int) by decide, if_true]
      exact Ev.bind awake04 (Ev.now _)
  · refine Ev.bind (os_ev _ _ _ _ _ _ _ _ _ _ _ _ _ (ob_no _ _ _ _ _ _ _ _ _ _ _ _ c hc h0)) ?_
    refine Ev.bind hc ?_
    simp only [if_neg h0]
    exact Ev.bind awake04 (Ev.now _)
theorem ObjectSizes : thalweglaw04_ObjectSizes.Pure := fun x _ => Ev.rounds (sizes_ev _ _ _ _ _ _ _ _ _ _ _ _)
end Go.Proofs.Ytmcmemknikineaa.Pure
