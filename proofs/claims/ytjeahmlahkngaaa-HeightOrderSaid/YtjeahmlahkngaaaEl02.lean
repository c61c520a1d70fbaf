/- Layer 2, plain: levels, their order, and which height is less. -/
import Derived.Test.YtjeahmlahkngaaaEh
import Derived.Test.YtjeahmlahkngaaaP12
import Derived.Test.YtjeahmlahkngaaaP14
import Derived.Test.YtjeahmlahkngaaaP15
import Derived.Test.YtjeahmlahkngaaaP13
import Derived.Test.YtjeahmlahkngaaaP19
namespace Go.Proofs.Ytjeahmlahkngaaa.P
set_option linter.unusedSimpArgs false
set_option linter.unusedVariables false
open Go.RowKit Go.Proofs.YtjeahmlahkngaaaW.PrintWords Go.Proofs.YtjeahmlahkngaaaW.PrintLast Go.Proofs.YtjeahmlahkngaaaW.PrintMore
theorem awake02 : Ev (fun k => thalweglaw02_awake.f k) true := Ev.of (fun k => thalweglaw02_awake.mono k) (k := 12) (by decide +kernel)
theorem ev_eq0 {α : Type} {g : Nat → Option α} {a b : α} (h : Ev g a) (e : a = b) : Ev g b := e ▸ h
/-- Which of two numbers is less. -/
def cmpS (x y : Int) : Int := if x < y then -1 else if x > y then 1 else 0
def orS (x y z : Int) : Int := if x = 0 then (if y = 0 then z else y) else x
def ordS (a b c a' b' c' : Int) : Int := orS (cmpS a a') (cmpS b b') (cmpS c c')
theorem cmp_eq (x y : Int) : cmp_Compare_int.f x y = some (cmpS x y) := by
  unfold cmp_Compare_int.f cmp_isNaN_int.f cmpS
  simp only [Option.bind_some, bne_self_eq_false, Bool.false_eq_true, if_false]
  split
  · rfl
  · split <;> rfl
theorem or_eq (x y z : Int) : Ev (fun k => cmp_Or_int.f k [x, y, z]) (orS x y z) := by
  refine Ev.from 4 fun k => ?_
  have w1 : wrap64 ((0 : Int) + 1) = 1 := w64 (by decide) (by decide)
  have w2 : wrap64 ((1 : Int) + 1) = 2 := w64 (by decide) (by decide)
  have w3 : wrap64 ((2 : Int) + 1) = 3 := w64 (by decide) (by decide)
  have hl : (([x, y, z] : List Int).length : Int) = 3 := rfl
  have r0 : rd [x, y, z] 0 = x := rfl
  have r1 : rd [x, y, z] 1 = y := rfl
  have r2 : rd [x, y, z] 2 = z := rfl
  unfold orS
  simp only [cmp_Or_int.f, cmp_Or_int.l0, hl, w1, w2, w3, r0, r1, r2, show (0 : Int) < 3 from by decide, show (1 : Int) < 3 from by decide, show (2 : Int) < 3 from by decide, show (0 : Int) ≤ 0 from by decide, show (0 : Int) ≤ 1 from by decide, show (0 : Int) ≤ 2 from by decide, show ¬ (3 : Int) < 3 from by decide, if_true, if_false]
  by_cases hx : x = 0
  · by_cases hy : y = 0
    · by_cases hz : z = 0
      · simp only [hx, hy, hz, if_true]
      · simp only [hx, hy, hz, if_true, if_false]
    · simp only [hx, hy, if_true, if_false]
  · simp only [hx, if_false]
theorem known_eq (n : Bool) (a b c d e : Int) : Ev (fun k => height_known.f k n a b c d e) (decide (n = false ∧ RH n a b c d e)) := by
  unfold height_known.f
  cases n with
  | true =>
    simp only [if_true, Bool.true_eq_false, false_and, decide_false]
    exact Ev.now _
  | false =>
    simp only [Bool.false_eq_true, if_false, true_and]
    refine Ev.bind (hc_eq false a b c d e) ?_
    by_cases h : RH false a b c d e
    · simp only [if_pos h, decide_eq_true h, beq_self_eq_true]; exact Ev.now _
    · simp only [if_neg h, decide_eq_false h, show ((1 : Int) == 0) = false by decide]; exact Ev.now _
theorem level_eq (n : Bool) (a b c d e : Int) : Ev (fun k => height_Level.f k n a b c d e) (if n = false ∧ RH n a b c d e then (a, b, c) else (0, 0, 0)) := by
  unfold height_Level.f
  refine Ev.bind (known_eq n a b c d e) ?_
  by_cases h : n = false ∧ RH n a b c d e
  · simp only [decide_eq_true h, if_pos h, if_true]; exact Ev.now _
  · simp only [decide_eq_false h, if_neg h, Bool.false_eq_true, if_false]; exact Ev.now _
theorem order_eq (a b c a' b' c' : Int) : Ev (fun k => height_Order.f k a b c a' b' c') (ordS a b c a' b' c') := by
  unfold height_Order.f
  simp only [cmp_eq, Option.bind_some]
  exact Ev.bind (or_eq _ _ _) (Ev.now _)
theorem less_eq (n : Bool) (a b c d e : Int) (n' : Bool) (a' b' c' d' e' : Int) : Ev (fun k => height_Less.f k n a b c d e n' a' b' c' d' e')
    (decide ((n = false ∧ RH n a b c d e) ∧ (n' = false ∧ RH n' a' b' c' d' e') ∧ orS (ordS a b c a' b' c') (cmpS d d') (cmpS e e') < 0)) := by
  unfold height_Less.f
  refine Ev.bind (known_eq n a b c d e) ?_
  by_cases h : n = false ∧ RH n a b c d e
  · simp only [decide_eq_true h, if_true]
    refine Ev.bind (known_eq n' a' b' c' d' e') ?_
    by_cases h' : n' = false ∧ RH n' a' b' c' d' e'
    · simp only [decide_eq_true h', if_true]
      have l1 := level_eq n a b c d e
      have l2 := level_eq n' a' b' c' d' e'
      rw [if_pos h] at l1
      rw [if_pos h'] at l2
      refine Ev.bind l1 (Ev.bind l2 (Ev.bind (order_eq _ _ _ _ _ _) ?_))
      simp only [cmp_eq, Option.bind_some]
      refine Ev.bind (or_eq _ _ _) ?_
      refine ev_eq0 (Ev.now _) ?_
      rw [Bool.eq_iff_iff, decide_eq_true_eq, decide_eq_true_eq]
      exact ⟨fun g => ⟨h, h', g⟩, fun g => g.2.2⟩
    · simp only [decide_eq_false h', Bool.false_eq_true, if_false]
      exact ev_eq0 (Ev.now _) (decide_eq_false fun g => h' g.2.1).symm
  · simp only [decide_eq_false h, Bool.false_eq_true, if_false]
    exact ev_eq0 (Ev.now _) (decide_eq_false fun g => h g.1).symm
theorem at_eq (a b c d e : Int) (h : RH false a b c d e) : Ev (fun k => height_At.f k a b c d e) (false, a, b, c, d, e, 0) := by
  have hc := hc_eq false a b c d e
  rw [if_pos h] at hc
  unfold height_At.f
  refine Ev.bind hc ?_
  simp only [if_true]
  exact Ev.now _
theorem at_no (a b c d e : Int) (h : ¬ RH false a b c d e) : Ev (fun k => height_At.f k a b c d e) (false, 0, 0, 0, 0, 0, 1) := by
  have hc := hc_eq false a b c d e
  rw [if_neg h] at hc
  unfold height_At.f
  refine Ev.bind hc ?_
  simp only [show ¬ (1 : Int) = 0 from by decide, if_false]
  exact Ev.now _
end Go.Proofs.Ytjeahmlahkngaaa.P
