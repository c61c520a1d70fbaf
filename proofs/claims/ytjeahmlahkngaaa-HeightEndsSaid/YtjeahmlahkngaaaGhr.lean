/- Layer 2, plain: the document's known and less. -/
import Derived.Test.YtjeahmlahkngaaaGhk
import Derived.Test.YtjeahmlahkngaaaP13
import Derived.Test.YtjeahmlahkngaaaP14
import Derived.Test.YtjeahmlahkngaaaP15
namespace Go.Proofs.Ytjeahmlahkngaaa.P
set_option linter.unusedSimpArgs false
set_option linter.unusedVariables false
open Go.RowKit Go.Proofs.YtjeahmlahkngaaaW.PrintWords Go.Proofs.YtjeahmlahkngaaaW.PrintLast Go.Proofs.YtjeahmlahkngaaaW.PrintMore
theorem bool_same0 {p q : Prop} [Decidable p] [Decidable q] (h : p ↔ q) : (decide p) = (decide q) := by
  by_cases hp : p
  · rw [decide_eq_true hp, decide_eq_true (h.mp hp)]
  · rw [decide_eq_false hp, decide_eq_false (fun hq => hp (h.mpr hq))]
theorem rj_eq (k : Nat) (n x : Bool) (a b c d e : Int) : thalwegref02_Right.j0 (k + 1) x n a b c d e = some (decide (x = false ∧ ((n = true ∧ a = 0 ∧ b = 0 ∧ c = 0 ∧ d = 0) ∨ (n = false ∧ 0 ≤ a ∧ a ≤ 4611686018427387903 ∧ 0 ≤ b ∧ b < 64 ∧ 0 ≤ c ∧ c ≤ 1 ∧ -1099511627776 ≤ d ∧ d ≤ 1099511627776)))) := by
  simp only [thalwegref02_Right.j0]
  cases n <;> cases x <;> simp only [if_true, Bool.false_eq_true, if_false, true_and, false_and, or_false, false_or, Bool.true_eq_false, reduceCtorEq, decide_false]
  · repeat' split
    all_goals
      congr 1
      first
        | (rw [eq_comm, decide_eq_false_iff_not]; omega)
        | (apply bool_same0; omega)
  · congr 1
    rw [Bool.eq_iff_iff, decide_eq_true_eq]
    simp only [Bool.and_eq_true, beq_iff_eq]
theorem rr_eq (n : Bool) (a b c d e : Int) : Ev (fun k => thalwegref02_Right.f k n a b c d e) (decide (RH n a b c d e)) := by
  unfold thalwegref02_Right.f
  refine Ev.from 1 fun k => ?_
  rw [rj_eq, rj_eq]
  unfold RH
  by_cases h : e < 0
  · rw [if_pos h]
    have : ¬ 0 ≤ e := by omega
    simp only [this, false_and, Bool.true_eq_false]
  · rw [if_neg h]
    have h0 : 0 ≤ e := by omega
    simp only [decide_eq_false_iff_not, ge_iff_le, Int.not_le, h0, true_and]
theorem told_eq (n : Bool) (a b c d e : Int) : Ev (fun k => thalwegref02_Told.f k n a b c d e) (decide (n = false ∧ RH n a b c d e)) := by
  unfold thalwegref02_Told.f
  refine Ev.bind (rr_eq n a b c d e) ?_
  by_cases h : RH n a b c d e
  · simp only [decide_eq_true h, if_true]
    refine ev_eq0 (Ev.now _) ?_
    cases n
    · rw [decide_eq_true ⟨rfl, h⟩]; rfl
    · rw [decide_eq_false fun g => absurd g.1 (by decide)]; rfl
  · simp only [decide_eq_false h, Bool.false_eq_true, if_false]
    exact ev_eq0 (Ev.now _) (decide_eq_false fun g => h g.2).symm
theorem step_cmp (x y : Int) {R : Option Int} {r : Int} (h : R = some r) : (if x < y then some (-1) else if x > y then some 1 else R) = some (if cmpS x y = 0 then r else cmpS x y) := by
  subst h
  unfold cmpS
  by_cases h1 : x < y
  · simp only [if_pos h1]; rfl
  · by_cases h2 : x > y
    · simp only [if_neg h1, if_pos h2]; rfl
    · simp only [if_neg h1, if_neg h2, if_true]
theorem compare5_eq (a b c d e a' b' c' d' e' : Int) : Ev (fun k => thalwegref02_compare.f k [a, b, c, d, e] [a', b', c', d', e']) (orS (ordS a b c a' b' c') (cmpS d d') (cmpS e e')) := by
  refine Ev.from 6 fun k => ?_
  have w1 : wrap64 ((0 : Int) + 1) = 1 := w64 (by decide) (by decide)
  have w2 : wrap64 ((1 : Int) + 1) = 2 := w64 (by decide) (by decide)
  have w3 : wrap64 ((2 : Int) + 1) = 3 := w64 (by decide) (by decide)
  have w4 : wrap64 ((3 : Int) + 1) = 4 := w64 (by decide) (by decide)
  have w5 : wrap64 ((4 : Int) + 1) = 5 := w64 (by decide) (by decide)
  have hl : ∀ x y z u v : Int, (([x, y, z, u, v] : List Int).length : Int) = 5 := fun _ _ _ _ _ => rfl
  have r0 : ∀ x y z u v : Int, rd [x, y, z, u, v] 0 = x := fun _ _ _ _ _ => rfl
  have r1 : ∀ x y z u v : Int, rd [x, y, z, u, v] 1 = y := fun _ _ _ _ _ => rfl
  have r2 : ∀ x y z u v : Int, rd [x, y, z, u, v] 2 = z := fun _ _ _ _ _ => rfl
  have r3 : ∀ x y z u v : Int, rd [x, y, z, u, v] 3 = u := fun _ _ _ _ _ => rfl
  have r4 : ∀ x y z u v : Int, rd [x, y, z, u, v] 4 = v := fun _ _ _ _ _ => rfl
  simp only [thalwegref02_compare.f, thalwegref02_compare.l0, hl, w1, w2, w3, w4, w5, r0, r1, r2, r3, r4, show (0 : Int) < 5 from by decide, show (1 : Int) < 5 from by decide, show (2 : Int) < 5 from by decide, show (3 : Int) < 5 from by decide, show (4 : Int) < 5 from by decide, show (0 : Int) ≤ 0 from by decide, show (0 : Int) ≤ 1 from by decide, show (0 : Int) ≤ 2 from by decide, show (0 : Int) ≤ 3 from by decide, show (0 : Int) ≤ 4 from by decide, show ¬ (5 : Int) < 5 from by decide, if_true, if_false]
  refine (step_cmp _ _ (step_cmp _ _ (step_cmp _ _ (step_cmp _ _ (step_cmp _ _ rfl))))).trans ?_
  unfold ordS orS
  by_cases h1 : cmpS a a' = 0
  · by_cases h2 : cmpS b b' = 0
    · by_cases h3 : cmpS c c' = 0
      · by_cases h4 : cmpS d d' = 0
        · by_cases h5 : cmpS e e' = 0
          · simp only [h1, h2, h3, h4, h5, if_true]
          · simp only [h1, h2, h3, h4, h5, if_true, if_false]
        · simp only [h1, h2, h3, h4, if_true, if_false]
      · simp only [h1, h2, h3, if_true, if_false]
    · simp only [h1, h2, if_true, if_false]
  · simp only [h1, if_false]
theorem rless_eq (n : Bool) (a b c d e : Int) (n' : Bool) (a' b' c' d' e' : Int) : Ev (fun k => thalwegref02_Less.f k n a b c d e n' a' b' c' d' e')
    (decide ((n = false ∧ RH n a b c d e) ∧ (n' = false ∧ RH n' a' b' c' d' e') ∧ orS (ordS a b c a' b' c') (cmpS d d') (cmpS e e') < 0)) := by
  unfold thalwegref02_Less.f
  refine Ev.bind (told_eq n a b c d e) ?_
  by_cases h : n = false ∧ RH n a b c d e
  · simp only [decide_eq_true h, if_true]
    refine Ev.bind (told_eq n' a' b' c' d' e') ?_
    by_cases h' : n' = false ∧ RH n' a' b' c' d' e'
    · simp only [decide_eq_true h', if_true, thalwegref02_row.f, Option.bind_some]
      refine Ev.bind (compare5_eq _ _ _ _ _ _ _ _ _ _) ?_
      refine ev_eq0 (Ev.now _) ?_
      rw [Bool.eq_iff_iff, decide_eq_true_eq, decide_eq_true_eq]
      exact ⟨fun g => ⟨h, h', g⟩, fun g => g.2.2⟩
    · simp only [decide_eq_false h', Bool.false_eq_true, if_false]
      exact ev_eq0 (Ev.now _) (decide_eq_false fun g => h' g.2.1).symm
  · simp only [decide_eq_false h, Bool.false_eq_true, if_false]
    exact ev_eq0 (Ev.now _) (decide_eq_false fun g => h g.1).symm
theorem told_k (x : S23) : Ev (fun k => thalwegref02_Told.f k x.f0 x.f1 x.f2 x.f3 x.f4 x.f5) (knownS x) := told_eq _ _ _ _ _ _
theorem rless_k (x y : S23) : Ev (fun k => thalwegref02_Less.f k x.f0 x.f1 x.f2 x.f3 x.f4 x.f5 y.f0 y.f1 y.f2 y.f3 y.f4 y.f5) (lessS x y) := rless_eq _ _ _ _ _ _ _ _ _ _ _ _
end Go.Proofs.Ytjeahmlahkngaaa.P
