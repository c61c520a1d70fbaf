/- HeightOrder: less is an order of the heights that are told, and of no others; the plain law. -/
import Derived.Test.YtjeahmlahkngaaaEo02
import Derived.Test.YtjeahmlahkngaaaSHeightOrder
import Derived.Test.YtjeahmlahkngaaaP22
namespace Go.Proofs.Ytjeahmlahkngaaa.Pure
set_option linter.unusedSimpArgs false
set_option linter.unusedVariables false
open Go.RowKit Go.Proofs.Ytjeahmlahkngaaa.P Go.Proofs.YtjeahmlahkngaaaW.PrintWords Go.Proofs.YtjeahmlahkngaaaW.PrintLast Go.Proofs.YtjeahmlahkngaaaW.PrintMore
/-- The last part: neither wrong nor open. -/
theorem order_j1 (x y told : Bool) (n : Bool) (a b c d e : Int) (n' : Bool) (a' b' c' d' e' : Int)
    (hx : x = decide ((n = false ∧ RH n a b c d e) ∧ (n' = false ∧ RH n' a' b' c' d' e') ∧ ltS a b c d e a' b' c' d' e'))
    (hy : y = decide ((n' = false ∧ RH n' a' b' c' d' e') ∧ (n = false ∧ RH n a b c d e) ∧ ltS a' b' c' d' e' a b c d e))
    (ht : told = decide ((n = false ∧ RH n a b c d e) ∧ (n' = false ∧ RH n' a' b' c' d' e'))) :
    Ev (fun k => thalweglaw02_HeightOrder.j1 k x y told false n a b c d e n' a' b' c' d' e') true := by
  refine Ev.step (f := fun k => _) (fun k => by simp only [thalweglaw02_HeightOrder.j1]; rfl) ?_
  simp only [Bool.false_eq_true, if_false]
  by_cases h : n = false ∧ RH n a b c d e
  · by_cases h' : n' = false ∧ RH n' a' b' c' d' e'
    · have l1 := level_eq n a b c d e
      have l2 := level_eq n' a' b' c' d' e'
      rw [if_pos h] at l1
      rw [if_pos h'] at l2
      have hx' : x = decide (ltS a b c d e a' b' c' d' e') := hx.trans (by rw [Bool.eq_iff_iff, decide_eq_true_eq, decide_eq_true_eq]; exact ⟨fun g => g.2.2, fun g => ⟨h, h', g⟩⟩)
      have hy' : y = decide (ltS a' b' c' d' e' a b c d e) := hy.trans (by rw [Bool.eq_iff_iff, decide_eq_true_eq, decide_eq_true_eq]; exact ⟨fun g => g.2.2, fun g => ⟨h', h, g⟩⟩)
      have ht' : told = true := ht.trans (decide_eq_true ⟨h, h'⟩)
      subst ht'
      refine Ev.bind l1 (Ev.bind l2 (Ev.bind (order_eq _ _ _ _ _ _) (Ev.bind l2 (Ev.bind l1 (Ev.bind (order_eq _ _ _ _ _ _) (Ev.bind awake02 ?_))))))
      have hs : wrap64 (ordS a b c a' b' c' + ordS a' b' c' a b c) = 0 := by rw [ordS_anti]; exact w64 (by decide) (by decide)
      simp only [if_true, hs]
      by_cases hq : (n == n' && (a == a' && (b == b' && (c == c' && (d == d' && (e == e')))))) = true
      · simp only [if_pos hq]
        simp only [Bool.and_eq_true, beq_iff_eq] at hq
        obtain ⟨_, rfl, rfl, rfl, _, _⟩ := hq
        have h0 : ordS a b c a b c = 0 := by have := ordS_anti a b c a b c; omega
        simp only [if_pos h0]
        exact Ev.now _
      · simp only [if_neg hq]
        by_cases ho : ordS a b c a' b' c' = 0
        · simp only [if_pos ho]
          by_cases x1 : x = true
          · simp only [if_pos x1]; exact Ev.now _
          · simp only [if_neg x1]
            by_cases y1 : y = true
            · simp only [if_pos y1]; exact Ev.now _
            · exfalso
              have u := ltS_total (fun g => x1 (hx'.trans (decide_eq_true g))) (fun g => y1 (hy'.trans (decide_eq_true g)))
              apply hq
              simp only [Bool.and_eq_true, beq_iff_eq]
              exact ⟨h.1.trans h'.1.symm, u.1, u.2.1, u.2.2.1, u.2.2.2.1, u.2.2.2.2⟩
        · simp only [if_neg ho]
          have hl : x = decide (ordS a b c a' b' c' < 0) := hx'.trans (by rw [Bool.eq_iff_iff, decide_eq_true_eq, decide_eq_true_eq]; exact ltS_ord ho)
          by_cases x1 : x = true
          · simp only [if_pos x1]
            refine ev_eq0 (Ev.now _) ?_
            rw [← hl, x1]; rfl
          · simp only [if_neg x1]
            by_cases y1 : y = true
            · simp only [if_pos y1]
              refine ev_eq0 (Ev.now _) ?_
              rw [← hl, Bool.eq_false_iff.mpr x1]; rfl
            · exfalso
              have u := ltS_total (fun g => x1 (hx'.trans (decide_eq_true g))) (fun g => y1 (hy'.trans (decide_eq_true g)))
              apply hq
              simp only [Bool.and_eq_true, beq_iff_eq]
              exact ⟨h.1.trans h'.1.symm, u.1, u.2.1, u.2.2.1, u.2.2.2.1, u.2.2.2.2⟩
    · have ht' : told = false := ht.trans (decide_eq_false fun g => h' g.2)
      subst ht'
      refine Ev.bind (level_eq n a b c d e) (Ev.bind (level_eq n' a' b' c' d' e') (Ev.bind (order_eq _ _ _ _ _ _) (Ev.bind (level_eq n' a' b' c' d' e') (Ev.bind (level_eq n a b c d e) (Ev.bind (order_eq _ _ _ _ _ _) (Ev.bind awake02 ?_))))))
      simp only [if_true, ordS_anti, w64 (x := 0) (by decide) (by decide), Bool.false_eq_true, if_false]
      exact Ev.now _
  · have ht' : told = false := ht.trans (decide_eq_false fun g => h g.1)
    subst ht'
    refine Ev.bind (level_eq n a b c d e) (Ev.bind (level_eq n' a' b' c' d' e') (Ev.bind (order_eq _ _ _ _ _ _) (Ev.bind (level_eq n' a' b' c' d' e') (Ev.bind (level_eq n a b c d e) (Ev.bind (order_eq _ _ _ _ _ _) (Ev.bind awake02 ?_))))))
    simp only [if_true, ordS_anti, w64 (x := 0) (by decide) (by decide), Bool.false_eq_true, if_false]
    exact Ev.now _
theorem order_ev (n : Bool) (a b c d e : Int) (n' : Bool) (a' b' c' d' e' : Int) (n'' : Bool) (a'' b'' c'' d'' e'' : Int) :
    Ev (fun k => thalweglaw02_HeightOrder.f k n a b c d e n' a' b' c' d' e' n'' a'' b'' c'' d'' e'') true := by
  have j0 : ∀ told, told = decide ((n = false ∧ RH n a b c d e) ∧ (n' = false ∧ RH n' a' b' c' d' e')) → Ev (fun k => thalweglaw02_HeightOrder.j0 k
      (decide ((n = false ∧ RH n a b c d e) ∧ (n' = false ∧ RH n' a' b' c' d' e') ∧ ltS a b c d e a' b' c' d' e'))
      (decide ((n' = false ∧ RH n' a' b' c' d' e') ∧ (n = false ∧ RH n a b c d e) ∧ ltS a' b' c' d' e' a b c d e)) told n a b c d e n' a' b' c' d' e' n'' a'' b'' c'' d'' e'') true := by
    intro told ht
    refine Ev.step (f := fun k => _) (fun k => by simp only [thalweglaw02_HeightOrder.j0]; rfl) ?_
    have hself : Ev (fun k => height_Less.f k n a b c d e n a b c d e) false := ev_eq0 (less_eq n a b c d e n a b c d e) (decide_eq_false fun g => ltS_irrefl a b c d e g.2.2)
    have j1 := fun x y hx hy => order_j1 x y told n a b c d e n' a' b' c' d' e' hx hy ht
    by_cases hx : (n = false ∧ RH n a b c d e) ∧ (n' = false ∧ RH n' a' b' c' d' e') ∧ ltS a b c d e a' b' c' d' e'
    · have hy : ¬ ((n' = false ∧ RH n' a' b' c' d' e') ∧ (n = false ∧ RH n a b c d e) ∧ ltS a' b' c' d' e' a b c d e) := fun g => ltS_asymm hx.2.2 g.2.2
      have ht' : told = true := ht.trans (decide_eq_true ⟨hx.1, hx.2.1⟩)
      have jj := j1 true false (decide_eq_true hx).symm (decide_eq_false hy).symm
      subst ht'
      simp only [decide_eq_true hx, decide_eq_false hy, if_true, Bool.false_eq_true, if_false]
      refine Ev.bind hself ?_
      simp only [Bool.false_eq_true, if_false]
      by_cases hz : (n' = false ∧ RH n' a' b' c' d' e') ∧ (n'' = false ∧ RH n'' a'' b'' c'' d'' e'') ∧ ltS a' b' c' d' e' a'' b'' c'' d'' e''
      · refine Ev.bind (ev_eq0 (less_eq n' a' b' c' d' e' n'' a'' b'' c'' d'' e'') (decide_eq_true hz)) ?_
        simp only [if_true]
        refine Ev.bind (ev_eq0 (less_eq n a b c d e n'' a'' b'' c'' d'' e'') (decide_eq_true ⟨hx.1, hz.2.1, ltS_trans hx.2.2 hz.2.2⟩)) ?_
        simp only [if_true]
        exact jj
      · refine Ev.bind (ev_eq0 (less_eq n' a' b' c' d' e' n'' a'' b'' c'' d'' e'') (decide_eq_false hz)) ?_
        simp only [Bool.false_eq_true, if_false]
        exact jj
    · simp only [decide_eq_false hx, Bool.false_eq_true, if_false]
      refine Ev.bind hself ?_
      simp only [Bool.false_eq_true, if_false]
      by_cases hy : (n' = false ∧ RH n' a' b' c' d' e') ∧ (n = false ∧ RH n a b c d e) ∧ ltS a' b' c' d' e' a b c d e
      · have ht' : told = true := ht.trans (decide_eq_true ⟨hy.2.1, hy.1⟩)
        have jj := j1 false true (decide_eq_false hx).symm (decide_eq_true hy).symm
        subst ht'
        simp only [decide_eq_true hy, if_true]
        exact jj
      · have jj := j1 false false (decide_eq_false hx).symm (decide_eq_false hy).symm
        simp only [decide_eq_false hy]
        cases told with
        | true => simp only [if_true]; exact jj
        | false => simp only [Bool.false_eq_true, if_false]; exact jj
  unfold thalweglaw02_HeightOrder.f
  refine Ev.bind (less_eq n a b c d e n' a' b' c' d' e') (Ev.bind (less_eq n' a' b' c' d' e' n a b c d e) (Ev.bind (hc_eq n a b c d e) ?_))
  by_cases h : RH n a b c d e
  · simp only [if_pos h, if_true]
    refine Ev.bind (hc_eq n' a' b' c' d' e') ?_
    by_cases h' : RH n' a' b' c' d' e'
    · simp only [if_pos h', if_true]
      cases n with
      | true =>
        simp only [if_true]
        exact j0 false (decide_eq_false fun g => absurd g.1.1 (by decide)).symm
      | false =>
        refine j0 (!n') ?_
        cases n' with
        | true => exact (decide_eq_false fun g => absurd g.2.1 (by decide)).symm
        | false => exact (decide_eq_true ⟨⟨rfl, h⟩, ⟨rfl, h'⟩⟩).symm
    · simp only [if_neg h', if_neg (show ¬ (1 : Int) = 0 by decide)]
      exact j0 false (decide_eq_false fun g => h' g.2.2).symm
  · simp only [if_neg h, if_neg (show ¬ (1 : Int) = 0 by decide)]
    exact j0 false (decide_eq_false fun g => h g.1.2).symm
theorem HeightOrder : thalweglaw02_HeightOrder.Pure := fun _ _ _ _ _ _ => Ev.rounds (order_ev _ _ _ _ _ _ _ _ _ _ _ _ _ _ _ _ _ _)
end Go.Proofs.Ytjeahmlahkngaaa.Pure
