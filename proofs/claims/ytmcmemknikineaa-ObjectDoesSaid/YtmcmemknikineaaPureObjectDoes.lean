/- ObjectDoes: an object's check, bytes and size are the document's; the plain law. -/
import Derived.Test.YtmcmemknikineaaErb04
import Derived.Test.YtmcmemknikineaaSObjectDoes
import Derived.Test.YtmcmemknikineaaP21
namespace Go.Proofs.Ytmcmemknikineaa.Pure
set_option linter.unusedSimpArgs false
set_option linter.unusedVariables false
open Go.RowKit Go.Proofs.Ytmcmemknikineaa.P Go.Proofs.YtmcmemknikineaaW.PrintWords Go.Proofs.YtmcmemknikineaaW.PrintLast Go.Proofs.YtmcmemknikineaaW.PrintMore
theorem ror_eq (a0 a1 : Int) (a2 : Bool) (a3 a4 a5 a6 a7 a8 a9 a10 a11 : Int) : Ev (fun k => thalwegref04_Right.f k a0 a1 a2 a3 a4 a5 a6 a7 a8 a9 a10 a11) (decide (RO a0 a1 a2 a3 a4 a5 a6 a7 a8 a9 a10 a11)) := by
  have hlev : ((a8 == 0 && (a9 == 0 && (a10 == 0))) = true) = (a8 = 0 ∧ a9 = 0 ∧ a10 = 0) := by
    simp only [Bool.and_eq_true, beq_iff_eq]
  have hhei : ((!a2 && (a3 == 0 && (a4 == 0 && (a5 == 0 && (a6 == 0 && (a7 == 0)))))) = true) = (a2 = false ∧ a3 = 0 ∧ a4 = 0 ∧ a5 = 0 ∧ a6 = 0 ∧ a7 = 0) := by
    simp only [Bool.and_eq_true, beq_iff_eq, Bool.not_eq_true']
  have hj : ∀ x : Bool, Ev (fun k => thalwegref04_Right.j0 k x a0 a1 a2 a3 a4 a5 a6 a7 a8 a9 a10 a11) (decide (x = false ∧
    ((a0 = 1 ∧ (a8 = 0 ∧ a9 = 0 ∧ a10 = 0) ∧ (a2 = false ∧ a3 = 0 ∧ a4 = 0 ∧ a5 = 0 ∧ a6 = 0 ∧ a7 = 0) ∧ a11 = 0) ∨
     (a0 = 2 ∧ (a8 = 0 ∧ a9 = 0 ∧ a10 = 0) ∧ a11 = 0 ∧ RH a2 a3 a4 a5 a6 a7) ∨
     (a0 = 3 ∧ (a2 = false ∧ a3 = 0 ∧ a4 = 0 ∧ a5 = 0 ∧ a6 = 0 ∧ a7 = 0) ∧ a11 = 0 ∧ RH false a8 a9 a10 0 0) ∨
     (a0 = 4 ∧ (a8 = 0 ∧ a9 = 0 ∧ a10 = 0) ∧ 0 ≤ a11 ∧ a11 ≤ 65535 ∧ RH a2 a3 a4 a5 a6 a7 ∧ a2 = false)))) := by
    intro x
    refine Ev.step (f := fun k => _) (fun k => by simp only [thalwegref04_Right.j0]; rfl) ?_
    cases x with
    | true =>
      simp only [if_true, Bool.true_eq_false, false_and, decide_false]
      exact Ev.now _
    | false =>
      simp only [Bool.false_eq_true, if_false, true_and, hlev, hhei]
      by_cases h1 : a0 = 1
      · subst h1
        simp only [if_true, show ¬ (1 : Int) = 2 by decide, show ¬ (1 : Int) = 3 by decide, show ¬ (1 : Int) = 4 by decide, false_and, or_false, true_and]
        by_cases g : a8 = 0 ∧ a9 = 0 ∧ a10 = 0
        · simp only [if_pos g]
          by_cases g2 : a2 = false ∧ a3 = 0 ∧ a4 = 0 ∧ a5 = 0 ∧ a6 = 0 ∧ a7 = 0
          · simp only [if_pos g2]
            refine ev_eq (Ev.now _) ?_
            rw [Bool.eq_iff_iff, beq_iff_eq, decide_eq_true_eq]
            exact ⟨fun h => ⟨g, g2, h⟩, fun h => h.2.2⟩
          · simp only [if_neg g2]
            exact ev_eq (Ev.now _) (decide_eq_false fun h => g2 h.2.1).symm
        · simp only [if_neg g]
          exact ev_eq (Ev.now _) (decide_eq_false fun h => g h.1).symm
      by_cases h2 : a0 = 2
      · subst h2
        simp only [if_neg h1, if_true, show ¬ (2 : Int) = 1 by decide, show ¬ (2 : Int) = 3 by decide, show ¬ (2 : Int) = 4 by decide, false_and, false_or, or_false, true_and]
        by_cases g : a8 = 0 ∧ a9 = 0 ∧ a10 = 0
        · simp only [if_pos g]
          by_cases g2 : a11 = 0
          · simp only [if_pos g2]
            refine Ev.bind (rr_eq a2 a3 a4 a5 a6 a7) ?_
            refine ev_eq (Ev.now _) ?_
            exact bool_same0 ⟨fun h => ⟨g, g2, h⟩, fun h => h.2.2⟩
          · simp only [if_neg g2]
            exact ev_eq (Ev.now _) (decide_eq_false fun h => g2 h.2.1).symm
        · simp only [if_neg g]
          exact ev_eq (Ev.now _) (decide_eq_false fun h => g h.1).symm
      by_cases h3 : a0 = 3
      · subst h3
        simp only [if_neg h1, if_neg h2, if_true, show ¬ (3 : Int) = 1 by decide, show ¬ (3 : Int) = 2 by decide, show ¬ (3 : Int) = 4 by decide, false_and, false_or, or_false, true_and]
        by_cases g : a2 = false ∧ a3 = 0 ∧ a4 = 0 ∧ a5 = 0 ∧ a6 = 0 ∧ a7 = 0
        · simp only [if_pos g]
          by_cases g2 : a11 = 0
          · simp only [if_pos g2]
            refine Ev.bind (rr_eq false a8 a9 a10 0 0) ?_
            refine ev_eq (Ev.now _) ?_
            exact bool_same0 ⟨fun h => ⟨g, g2, h⟩, fun h => h.2.2⟩
          · simp only [if_neg g2]
            exact ev_eq (Ev.now _) (decide_eq_false fun h => g2 h.2.1).symm
        · simp only [if_neg g]
          exact ev_eq (Ev.now _) (decide_eq_false fun h => g h.1).symm
      by_cases h4 : a0 = 4
      · subst h4
        simp only [if_neg h1, if_neg h2, if_neg h3, if_true, show ¬ (4 : Int) = 1 by decide, show ¬ (4 : Int) = 2 by decide, show ¬ (4 : Int) = 3 by decide, false_and, false_or, or_false, true_and]
        by_cases g : a8 = 0 ∧ a9 = 0 ∧ a10 = 0
        · simp only [if_pos g]
          by_cases g2 : a11 ≥ 0
          · simp only [if_pos g2]
            by_cases g3 : a11 ≤ 65535
            · simp only [if_pos g3]
              unfold thalwegref02_Told.f
              refine Ev.bind (a := decide (RH a2 a3 a4 a5 a6 a7 ∧ a2 = false)) ?_ ?_
              · refine Ev.bind (rr_eq a2 a3 a4 a5 a6 a7) ?_
                by_cases hr : RH a2 a3 a4 a5 a6 a7
                · simp only [decide_eq_true hr, if_true]
                  refine ev_eq (Ev.now _) ?_
                  cases a2
                  · simp [hr]
                  · simp
                · simp only [decide_eq_false hr, Bool.false_eq_true, if_false]
                  exact ev_eq (Ev.now _) (decide_eq_false fun h => hr h.1).symm
              · refine ev_eq (Ev.now _) ?_
                exact bool_same0 ⟨fun h => ⟨g, g2, g3, h.1, h.2⟩, fun h => ⟨h.2.2.2.1, h.2.2.2.2⟩⟩
            · simp only [if_neg g3]
              exact ev_eq (Ev.now _) (decide_eq_false fun h => g3 h.2.2.1).symm
          · simp only [if_neg g2]
            exact ev_eq (Ev.now _) (decide_eq_false fun h => g2 h.2.1).symm
        · simp only [if_neg g]
          exact ev_eq (Ev.now _) (decide_eq_false fun h => g h.1).symm
      · simp only [if_neg h1, if_neg h2, if_neg h3, if_neg h4, h1, h2, h3, h4, false_and, or_false, decide_false]
        exact Ev.now _
  unfold thalwegref04_Right.f
  by_cases h : a1 < 0
  · simp only [if_pos h]
    refine ev_eq (hj _) (bool_same0 ⟨fun g => absurd g.1 (by decide), fun g => ?_⟩)
    have := g.1.1
    omega
  · simp only [if_neg h]
    refine ev_eq (hj _) (bool_same0 ⟨fun g => ⟨⟨by omega, ?_⟩, g.2⟩, fun g => ⟨?_, g.2⟩⟩)
    · have := of_decide_eq_false g.1
      omega
    · have := g.1.2
      exact decide_eq_false (by omega)
theorem robx (a0 a1 : Int) (a2 : Bool) (a3 a4 a5 a6 a7 a8 a9 a10 a11 : Int) (w3 : (Lit.int .i64 a3).wf = true) (w6 : (Lit.int .i64 a6).wf = true) (w8 : (Lit.int .i64 a8).wf = true) (h : RO a0 a1 a2 a3 a4 a5 a6 a7 a8 a9 a10 a11) :
    Ev (fun k => thalwegref04_Bytes.f k a0 a1 a2 a3 a4 a5 a6 a7 a8 a9 a10 a11) (oB a0 a1 a2 a3 a4 a5 a6 a7 a8 a9 a10 a11, 0) := by
  have hc := ror_eq a0 a1 a2 a3 a4 a5 a6 a7 a8 a9 a10 a11
  rw [decide_eq_true h] at hc
  unfold thalwegref04_Bytes.f
  refine Ev.bind hc ?_
  simp only [if_true, Option.bind_some]
  rcases h.2 with ⟨rfl, _⟩ | ⟨rfl, _, _, hh⟩ | ⟨rfl, _⟩ | ⟨rfl, _, hn0, hn1, hh, rfl⟩
  · simp only [if_neg (show ¬ (1 : Int) = 2 by decide), show ((1 : Int) == 4) = false by decide]
    refine Ev.step (f := fun k => _) (fun k => by simp only [thalwegref04_Bytes.j0]; rfl) ?_
    simp only [Bool.false_eq_true, if_false]
    refine Ev.step (f := fun k => _) (fun k => by simp only [thalwegref04_Bytes.j1]; rfl) ?_
    simp only [if_neg (show ¬ (1 : Int) = 3 by decide), if_neg (show ¬ (1 : Int) = 4 by decide)]
    exact Ev.now _
  · refine Ev.step (f := fun k => _) (fun k => by simp only [thalwegref04_Bytes.j0]; rfl) ?_
    simp only [if_true]
    refine Ev.bind (rb_eq _ _ _ _ _ _ hh w3 w6) ?_
    have hl := hB_length a2 a3 a4 a5 a6 a7
    have : [2 % 256, a1 % 256].length + (hB a2 a3 a4 a5 a6 a7).length < 140737488355328 := by rw [hl]; simp; split <;> omega
    simp only [if_pos this]
    refine Ev.step (f := fun k => _) (fun k => by simp only [thalwegref04_Bytes.j1]; rfl) ?_
    simp only [if_neg (show ¬ (2 : Int) = 3 by decide), if_neg (show ¬ (2 : Int) = 4 by decide)]
    exact Ev.now _
  · simp only [if_neg (show ¬ (3 : Int) = 2 by decide), show ((3 : Int) == 4) = false by decide]
    refine Ev.step (f := fun k => _) (fun k => by simp only [thalwegref04_Bytes.j0]; rfl) ?_
    simp only [Bool.false_eq_true, if_false]
    refine Ev.step (f := fun k => _) (fun k => by simp only [thalwegref04_Bytes.j1]; rfl) ?_
    simp only [if_true]
    refine Ev.bind (refInt_ev a8 w8) ?_
    simp only [Option.bind_some, List.length_append, intSpec_length, List.length_cons, List.length_nil, Nat.reduceAdd, Nat.reduceLT, if_true, if_neg (show ¬ (3 : Int) = 4 by decide)]
    refine ev_eq (Ev.now _) ?_
    unfold oB
    rw [if_neg (show ¬ (3 : Int) = 1 by decide), if_pos rfl, List.append_assoc]
  · simp only [if_neg (show ¬ (4 : Int) = 2 by decide), show ((4 : Int) == 4) = true by decide]
    refine Ev.step (f := fun k => _) (fun k => by simp only [thalwegref04_Bytes.j0]; rfl) ?_
    simp only [if_true]
    refine Ev.bind (rb_eq _ _ _ _ _ _ hh w3 w6) ?_
    have h20 : (hB false a3 a4 a5 a6 a7).length = 20 := by rw [hB_length]; rfl
    simp only [List.length_cons, List.length_nil, h20, Nat.reduceAdd, Nat.reduceLT, if_true]
    refine Ev.step (f := fun k => _) (fun k => by simp only [thalwegref04_Bytes.j1]; rfl) ?_
    simp only [if_neg (show ¬ (4 : Int) = 3 by decide), if_true, Option.bind_some, List.length_append, List.length_cons, List.length_nil, h20, Nat.reduceAdd, Nat.reduceLT]
    refine ev_eq (Ev.now _) ?_
    unfold oB
    rw [if_neg (show ¬ (4 : Int) = 1 by decide), if_neg (show ¬ (4 : Int) = 3 by decide), if_pos rfl, List.append_assoc, Int.tdiv_eq_ediv_of_nonneg hn0, Int.tmod_eq_emod_of_nonneg hn0, w64 (x := a11 / 256) (by omega) (by omega), Int.emod_emod_of_dvd _ (by decide)]
theorem robn (a0 a1 : Int) (a2 : Bool) (a3 a4 a5 a6 a7 a8 a9 a10 a11 : Int) (h : ¬ RO a0 a1 a2 a3 a4 a5 a6 a7 a8 a9 a10 a11) :
    Ev (fun k => thalwegref04_Bytes.f k a0 a1 a2 a3 a4 a5 a6 a7 a8 a9 a10 a11) ([], 1) := by
  have hc := ror_eq a0 a1 a2 a3 a4 a5 a6 a7 a8 a9 a10 a11
  rw [decide_eq_false h] at hc
  unfold thalwegref04_Bytes.f
  refine Ev.bind hc ?_
  simp only [Bool.false_eq_true, if_false]
  exact Ev.now _
theorem does_ev (a0 a1 : Int) (a2 : Bool) (a3 a4 a5 a6 a7 a8 a9 a10 a11 : Int) (w3 : (Lit.int .i64 a3).wf = true) (w6 : (Lit.int .i64 a6).wf = true) (w8 : (Lit.int .i64 a8).wf = true) : Ev (fun k => thalweglaw04_ObjectDoes.f k a0 a1 a2 a3 a4 a5 a6 a7 a8 a9 a10 a11) true := by
  have hc := oc_eq a0 a1 a2 a3 a4 a5 a6 a7 a8 a9 a10 a11
  have hr := ror_eq a0 a1 a2 a3 a4 a5 a6 a7 a8 a9 a10 a11
  unfold thalweglaw04_ObjectDoes.f
  by_cases h : RO a0 a1 a2 a3 a4 a5 a6 a7 a8 a9 a10 a11
  · have ho := obx _ _ _ _ _ _ _ _ _ _ _ _ h
    rw [if_pos h] at hc
    rw [decide_eq_true h] at hr
    refine Ev.bind ho (Ev.bind (robx _ _ _ _ _ _ _ _ _ _ _ _ w3 w6 w8 h) (Ev.bind awake04 ?_))
    simp only [if_true]
    refine Ev.bind hc (Ev.bind hr ?_)
    simp only [show (((0 : Int) == 0) == true) = true by decide, if_true]
    refine Ev.bind (os_ev _ _ _ _ _ _ _ _ _ _ _ _ _ ho) ?_
    simp only [beq_self_eq_true]
    exact Ev.now _
  · have ho := obn _ _ _ _ _ _ _ _ _ _ _ _ h
    rw [if_neg h] at hc
    rw [decide_eq_false h] at hr
    refine Ev.bind ho (Ev.bind (robn _ _ _ _ _ _ _ _ _ _ _ _ h) (Ev.bind awake04 ?_))
    simp only [if_true]
    refine Ev.bind hc (Ev.bind hr ?_)
    simp only [show (((1 : Int) == 0) == false) = true by decide, if_true]
    refine Ev.bind (os_ev _ _ _ _ _ _ _ _ _ _ _ _ _ ho) ?_
    simp only [beq_self_eq_true]
    exact Ev.now _
theorem ObjectDoes : thalweglaw04_ObjectDoes.Pure := fun x h => Ev.rounds (does_ev _ _ _ _ _ _ _ _ _ _ _ _ h.2.2.1.2.1 h.2.2.1.2.2.2.2.1 h.2.2.2.1.1)
end Go.Proofs.Ytmcmemknikineaa.Pure
