/- HeightLevels: a height at its own level is itself; an order of levels is one of heights; the plain law. -/
import Derived.Test.YtjeahmlahkngaaaEl02
import Derived.Test.YtjeahmlahkngaaaSHeightLevels
import Derived.Test.YtjeahmlahkngaaaP23
namespace Go.Proofs.Ytjeahmlahkngaaa.Pure
set_option linter.unusedSimpArgs false
set_option linter.unusedVariables false
open Go.RowKit Go.Proofs.Ytjeahmlahkngaaa.P Go.Proofs.YtjeahmlahkngaaaW.PrintWords Go.Proofs.YtjeahmlahkngaaaW.PrintLast Go.Proofs.YtjeahmlahkngaaaW.PrintMore
theorem levels_ev (n : Bool) (a b c d e : Int) (n' : Bool) (a' b' c' d' e' : Int) : Ev (fun k => thalweglaw02_HeightLevels.f k n a b c d e n' a' b' c' d' e') true := by
  have bad : ∀ m, Ev (fun k => thalweglaw02_HeightLevels.j0 k true m a b c d e n' a' b' c' d' e') true := by
    intro m
    refine Ev.step (f := fun k => _) (fun k => by simp only [thalweglaw02_HeightLevels.j0]; rfl) ?_
    simp only [if_true]
    exact Ev.bind awake02 (Ev.now _)
  have hc := hc_eq n a b c d e
  have hc' := hc_eq n' a' b' c' d' e'
  unfold thalweglaw02_HeightLevels.f
  by_cases h : RH n a b c d e
  · rw [if_pos h] at hc
    refine Ev.bind hc ?_
    simp only [if_true]
    by_cases h' : RH n' a' b' c' d' e'
    · rw [if_pos h'] at hc'
      refine Ev.bind hc' ?_
      simp only [if_true]
      cases n with
      | true => simp only [if_true]; exact bad _
      | false =>
        simp only [Bool.false_eq_true, if_false]
        cases n' with
        | true => exact bad _
        | false =>
          refine Ev.step (f := fun k => _) (fun k => by simp only [thalweglaw02_HeightLevels.j0]; rfl) ?_
          simp only [Bool.false_eq_true, if_false]
          have l1 := level_eq false a b c d e
          have l2 := level_eq false a' b' c' d' e'
          rw [if_pos ⟨rfl, h⟩] at l1
          rw [if_pos ⟨rfl, h'⟩] at l2
          refine Ev.bind l1 (Ev.bind (at_eq _ _ _ _ _ h) (Ev.bind l1 (Ev.bind l2 (Ev.bind (order_eq _ _ _ _ _ _) (Ev.bind awake02 ?_)))))
          simp only [if_true, beq_self_eq_true, Bool.and_self]
          by_cases ho : ordS a b c a' b' c' = 0
          · simp only [if_pos ho]; exact Ev.now _
          · simp only [if_neg ho]
            refine Ev.bind (less_eq _ _ _ _ _ _ _ _ _ _ _ _) ?_
            refine ev_eq0 (Ev.now _) ?_
            rw [beq_iff_eq]
            unfold orS
            rw [if_neg ho]
            by_cases hl : ordS a b c a' b' c' < 0
            · rw [decide_eq_true hl, decide_eq_true ⟨⟨rfl, h⟩, ⟨rfl, h'⟩, hl⟩]
            · rw [decide_eq_false hl, decide_eq_false fun g => hl g.2.2]
    · rw [if_neg h'] at hc'
      refine Ev.bind hc' ?_
      simp only [if_neg (show ¬ (1 : Int) = 0 by decide)]
      exact bad _
  · rw [if_neg h] at hc
    refine Ev.bind hc ?_
    simp only [if_neg (show ¬ (1 : Int) = 0 by decide)]
    exact bad _
theorem HeightLevels : thalweglaw02_HeightLevels.Pure := fun _ _ _ _ => Ev.rounds (levels_ev _ _ _ _ _ _ _ _ _ _ _ _)
end Go.Proofs.Ytjeahmlahkngaaa.Pure
