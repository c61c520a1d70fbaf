/- AckMore: of more that came an ack has what it had, and has the same next; the plain law. -/
import Derived.Test.YtolfbnkdmafomaaEp07
import Derived.Test.YtolfbnkdmafomaaP7
namespace Go.Proofs.Ytolfbnkdmafomaa.Pure
open Go.RowKit Go.Proofs.Ytolfbnkdmafomaa.P Go.Proofs.YtolfbnkdmafomaaW.PrintWords Go.Proofs.YtolfbnkdmafomaaW.PrintLast Go.Proofs.YtolfbnkdmafomaaW.PrintMore

theorem hasB_more (nx : Int) (l m : List Int) (n : Int) (h : hasB nx (msk nx l) n = true) : hasB nx (msk nx (l ++ m)) n = true := by
  unfold hasB at *
  rw [Bool.or_eq_true] at *
  rcases h with h | h
  · exact .inl h
  · right
    rw [Bool.and_eq_true, Bool.and_eq_true, decide_eq_true_eq, decide_eq_true_eq] at *
    obtain ⟨h1, h2, h3⟩ := h
    refine ⟨h1, h2, ?_⟩
    rw [msk_bit _ _ _ (by omega)] at *
    rw [List.any_append, h3, Bool.true_or]

theorem AckMore : thalweglaw07_AckMore.Pure := by
  intro nx l m n _ _ _ _ _ _ _ _
  apply Ev.rounds
  have done : Ev (fun k => thalweglaw07_AckMore.j0 k nx l m n true) true := by
    refine Ev.step (f := fun k => _) (fun k => by simp only [thalweglaw07_AckMore.j0]; rfl) ?_
    simp only [if_true]
    exact Ev.now _
  unfold thalweglaw07_AckMore.f
  by_cases c : (l.length : Int) > 60
  · simp only [if_pos c]
    exact done
  simp only [if_neg c]
  by_cases c2 : (m.length : Int) > 60
  · simp only [decide_eq_true c2]
    exact done
  simp only [decide_eq_false c2]
  refine Ev.step (f := fun k => _) (fun k => by simp only [thalweglaw07_AckMore.j0]; rfl) ?_
  simp only [Bool.false_eq_true, if_false]
  have h1 : ([] : List Int).length + l.length < 17592186044416 := by simp only [List.length_nil]; omega
  have h2 : (([] : List Int) ++ l).length + m.length < 17592186044416 := by simp only [List.nil_append]; omega
  by_cases h : nx < 0 ∨ nx > 65535
  · refine Ev.bind (ack_Of_bad nx l h) ?_
    simp only [Option.bind_some, if_pos h1, if_pos h2]
    refine Ev.bind (ack_Of_bad nx _ h) ?_
    refine Ev.bind awake07 ?_
    simp only [if_true]
    have hh : ∀ k, ack_Has.f k 0 0 0 0 n = ack_Has.f k 0 0 0 ((0 : Nat) : Int) n := fun _ => rfl
    simp only [hh]
    refine Ev.bind (ack_Has_ev 0 0 n (by decide) (by decide) (by decide)) ?_
    by_cases b : hasB 0 0 n = true
    · simp only [if_pos b]
      refine Ev.bind (ack_Has_ev 0 0 n (by decide) (by decide) (by decide)) ?_
      rw [b]
      exact Ev.now _
    · simp only [if_neg b]
      exact Ev.now _
  · have g0 : 0 ≤ nx := by omega
    have g1 : nx ≤ 65535 := by omega
    refine Ev.bind (ack_Of_ok nx l (by omega) g0 g1) ?_
    simp only [Option.bind_some, if_pos h1, if_pos h2]
    refine Ev.bind (ack_Of_ok nx _ (by simp only [List.nil_append, List.length_append]; omega) g0 g1) ?_
    refine Ev.bind awake07 ?_
    simp only [if_true, List.nil_append]
    refine Ev.bind (ack_Has_ev nx _ n g0 g1 (msk_lt _ _)) ?_
    by_cases b : hasB nx (msk nx l) n = true
    · simp only [if_pos b]
      refine Ev.bind (ack_Has_ev nx _ n g0 g1 (msk_lt _ _)) ?_
      rw [hasB_more nx l m n b]
      exact Ev.now _
    · simp only [if_neg b]
      exact Ev.now _
end Go.Proofs.Ytolfbnkdmafomaa.Pure
