/- Layer 2, plain: which height is known, and which is less. -/
import Derived.Test.YtjeahmlahkngaaaEev
import Derived.Test.YtjeahmlahkngaaaP9
namespace Go.Proofs.Ytjeahmlahkngaaa.P
set_option linter.unusedSimpArgs false
set_option linter.unusedVariables false
open Go.RowKit Go.Proofs.YtjeahmlahkngaaaW.PrintWords Go.Proofs.YtjeahmlahkngaaaW.PrintLast Go.Proofs.YtjeahmlahkngaaaW.PrintMore
/-- A height that is right. -/
def RH (n : Bool) (a b c d e : Int) : Prop := (0 ≤ e ∧ e < 64) ∧ ((n = true ∧ a = 0 ∧ b = 0 ∧ c = 0 ∧ d = 0) ∨ (n = false ∧ 0 ≤ a ∧ a ≤ 4611686018427387903 ∧ 0 ≤ b ∧ b < 64 ∧ 0 ≤ c ∧ c ≤ 1 ∧ -1099511627776 ≤ d ∧ d ≤ 1099511627776))
instance (n : Bool) (a b c d e : Int) : Decidable (RH n a b c d e) := by unfold RH; infer_instance
theorem hj_eq (k : Nat) (n x : Bool) (a b c d e : Int) : height_Check.j0 (k + 1) x n a b c d e = some (if x = true ∧ ((n = true ∧ a = 0 ∧ b = 0 ∧ c = 0 ∧ d = 0) ∨ (n = false ∧ 0 ≤ a ∧ a ≤ 4611686018427387903 ∧ 0 ≤ b ∧ b < 64 ∧ 0 ≤ c ∧ c ≤ 1 ∧ -1099511627776 ≤ d ∧ d ≤ 1099511627776)) then 0 else 1) := by
  simp only [height_Check.j0, height_Null.f, Option.bind_some]
  cases n <;> cases x <;> simp only [Bool.true_and, beq_self_eq_true, Bool.and_true, Bool.and_eq_true, beq_iff_eq, if_true, Bool.false_eq_true, if_false, true_and, false_and, or_false, false_or, Bool.true_eq_false, reduceCtorEq]
  · repeat' split
    all_goals first
      | rfl
      | (exfalso; omega)
  · by_cases h : a = 0 ∧ b = 0 ∧ c = 0 ∧ d = 0
    · rw [if_pos h, if_pos h]
    · rw [if_neg h, if_neg h]
theorem hc_eq (n : Bool) (a b c d e : Int) : Ev (fun k => height_Check.f k n a b c d e) (if RH n a b c d e then 0 else 1) := by
  unfold height_Check.f
  refine Ev.from 1 fun k => ?_
  rw [hj_eq, hj_eq]
  unfold RH
  by_cases h : e ≥ 0
  · rw [if_pos h]
    congr 1
    have h0 : 0 ≤ e := h
    simp only [decide_eq_true_eq, h0, true_and]
  · rw [if_neg h]
    have : ¬ 0 ≤ e := h
    simp only [this, false_and, Bool.false_eq_true]
theorem ev_eq0 {α : Type} {g : Nat → Option α} {a b : α} (h : Ev g a) (e : a = b) : Ev g b := e ▸ h
/-- Which of two numbers is less. -/
def cmpS (x y : Int) : Int := if x < y then -1 else if x > y then 1 else 0
def orS (x y z : Int) : Int := if x = 0 then (if y = 0 then z else y) else x
def ordS (a b c a' b' c' : Int) : Int := orS (cmpS a a') (cmpS b b') (cmpS c c')
theorem cmp_eq (x y : Int) : cmp_Compare_int.f x y = some (cmpS x y) := by
  unfold cmp_Compare_int.f cmp_isNaN_int.f cmpS
  simp only [Option.bind_some, bne_self_eq_false, Bool.false_eq_true, if_false]
  split
  · rfl
  · split <;> rfl
theorem or_eq (x y z : Int) : Ev (fun k => cmp_Or_int.f k [x, y, z]) (orS x y z) := by
  refine Ev.from 4 fun k => ?_
  have w1 : wrap64 ((0 : Int) + 1) = 1 := w64 (by decide) (by decide)
  have w2 : wrap64 ((1 : Int) + 1) = 2 := w64 (by decide) (by decide)
  have w3 : wrap64 ((2 : Int) + 1) = 3 := w64 (by decide) (by decide)
  have hl : (([x, y, z] : List Int).length : Int) = 3 := rfl
  have r0 : rd [x, y, z] 0 = x := rfl
  have r1 : rd [x, y, z] 1 = y := rfl
  have r2 : rd [x, y, z] 2 = z := rfl
  unfold orS
  simp only [cmp_Or_int.f, cmp_Or_int.l0, hl, w1, w2, w3, r0, r1, r2, show (0 : Int) < 3 from by decide, show (1 : Int) < 3 from by decide, show (2 : Int) < 3 from by decide, show (0 : Int) ≤ 0 from by decide, show (0 : Int) ≤ 1 from by decide, show (0 : Int) ≤ 2 from by decide, show ¬ (3 : Int) < 3 from by decide, if_true, if_false]
  by_cases hx : x = 0
  · by_cases hy : y = 0
    · by_cases hz : z = 0
      · simp only [hx, hy, hz, if_true]
      · simp only [hx, hy, hz, if_true, if_false]
    · simp only [hx, hy, if_true, if_false]
  · simp only [hx, if_false]
theorem known_eq (n : Bool) (a b c d e : Int) : Ev (fun k => height_known.f k n a b c d e) (decide (n = false ∧ RH n a b c d e)) := by
  unfold height_known.f
  cases n with
  | true =>
    simp only [if_true, Bool.true_eq_false, false_and, decide_false]
    exact Ev.now _
  | false =>
    simp only [Bool.false_eq_true, if_false, true_and]
    refine Ev.bind (hc_eq false a b c d e) ?_
    by_cases h : RH false a b c d e
    · simp only [if_pos h, decide_eq_true h, beq_self_eq_true]; exact Ev.now _
    · simp only [if_neg h, decide_eq_false h, show ((1 : Int) == 0) = false by decide]; exact Ev.now _
theorem level_eq (n : Bool) (a b c d e : Int) : Ev (fun k => height_Level.f k n a b c d e) (if n = false ∧ RH n a b c d e then (a, b, c) else (0, 0, 0)) := by
  unfold height_Level.f
  refine Ev.bind (known_eq n a b c d e) ?_
  by_cases h : n = false ∧ RH n a b c d e
  · simp only [decide_eq_true h, if_pos h, if_true]; exact Ev.now _
  · simp only [decide_eq_false h, if_neg h, Bool.false_eq_true, if_false]; exact Ev.now _
theorem order_eq (a b c a' b' c' : Int) : Ev (fun k => height_Order.f k a b c a' b' c') (ordS a b c a' b' c') := by
  unfold height_Order.f
  simp only [cmp_eq, Option.bind_some]
  exact Ev.bind (or_eq _ _ _) (Ev.now _)
theorem less_eq (n : Bool) (a b c d e : Int) (n' : Bool) (a' b' c' d' e' : Int) : Ev (fun k => height_Less.f k n a b c d e n' a' b' c' d' e')
    (decide ((n = false ∧ RH n a b c d e) ∧ (n' = false ∧ RH n' a' b' c' d' e') ∧ orS (ordS a b c a' b' c') (cmpS d d') (cmpS e e') < 0)) := by
  unfold height_Less.f
  refine Ev.bind (known_eq n a b c d e) ?_
  by_cases h : n = false ∧ RH n a b c d e
  · simp only [decide_eq_true h, if_true]
    refine Ev.bind (known_eq n' a' b' c' d' e') ?_
    by_cases h' : n' = false ∧ RH n' a' b' c' d' e'
    · simp only [decide_eq_true h', if_true]
      have l1 := level_eq n a b c d e
      have l2 := level_eq n' a' b' c' d' e'
      rw [if_pos h] at l1
      rw [if_pos h'] at l2
      refine Ev.bind l1 (Ev.bind l2 (Ev.bind (order_eq _ _ _ _ _ _) ?_))
      simp only [cmp_eq, Option.bind_some]
      refine Ev.bind (or_eq _ _ _) ?_
      refine ev_eq0 (Ev.now _) ?_
      rw [Bool.eq_iff_iff, decide_eq_true_eq, decide_eq_true_eq]
      exact ⟨fun g => ⟨h, h', g⟩, fun g => g.2.2⟩
    · simp only [decide_eq_false h', Bool.false_eq_true, if_false]
      exact ev_eq0 (Ev.now _) (decide_eq_false fun g => h' g.2.1).symm
  · simp only [decide_eq_false h, Bool.false_eq_true, if_false]
    exact ev_eq0 (Ev.now _) (decide_eq_false fun g => h g.1).symm
/-! The order of whole heights. -/
theorem cmpS_lt (x y : Int) : cmpS x y < 0 ↔ x < y := by
  unfold cmpS
  split
  · omega
  · split <;> omega
theorem cmpS_eq (x y : Int) : cmpS x y = 0 ↔ x = y := by
  unfold cmpS
  split
  · omega
  · split <;> omega
theorem orS_lt (x y z : Int) : orS x y z < 0 ↔ x < 0 ∨ x = 0 ∧ (y < 0 ∨ y = 0 ∧ z < 0) := by
  unfold orS
  split
  · split <;> omega
  · omega
theorem orS_eq (x y z : Int) : orS x y z = 0 ↔ x = 0 ∧ y = 0 ∧ z = 0 := by
  unfold orS
  split
  · split <;> omega
  · omega
def Lt5 (x y : S23) : Prop := x.f1 < y.f1 ∨ x.f1 = y.f1 ∧ (x.f2 < y.f2 ∨ x.f2 = y.f2 ∧ (x.f3 < y.f3 ∨ x.f3 = y.f3 ∧ (x.f4 < y.f4 ∨ x.f4 = y.f4 ∧ x.f5 < y.f5)))
theorem Lt5.trans {x y z : S23} (h : Lt5 x y) (g : Lt5 y z) : Lt5 x z := by
  unfold Lt5 at h g ⊢
  rcases h with h | ⟨h1, h | ⟨h2, h | ⟨h3, h | ⟨h4, h⟩⟩⟩⟩ <;> omega
theorem Lt5.irrefl {x : S23} (h : Lt5 x x) : False := by
  unfold Lt5 at h
  omega
def lessS (x y : S23) : Bool := decide ((x.f0 = false ∧ RH x.f0 x.f1 x.f2 x.f3 x.f4 x.f5) ∧ (y.f0 = false ∧ RH y.f0 y.f1 y.f2 y.f3 y.f4 y.f5) ∧ orS (ordS x.f1 x.f2 x.f3 y.f1 y.f2 y.f3) (cmpS x.f4 y.f4) (cmpS x.f5 y.f5) < 0)
theorem lessS_lt {x y : S23} (h : lessS x y = true) : Lt5 x y := by
  unfold lessS at h
  have h2 := (of_decide_eq_true h).2.2
  unfold ordS at h2
  rw [orS_lt, orS_lt, orS_eq, cmpS_lt, cmpS_lt, cmpS_lt, cmpS_lt, cmpS_lt, cmpS_eq, cmpS_eq, cmpS_eq, cmpS_eq] at h2
  unfold Lt5
  omega
theorem lessS_ev (x y : S23) : Ev (fun k => height_Less.f k x.f0 x.f1 x.f2 x.f3 x.f4 x.f5 y.f0 y.f1 y.f2 y.f3 y.f4 y.f5) (lessS x y) := less_eq _ _ _ _ _ _ _ _ _ _ _ _
def knownS (x : S23) : Bool := decide (x.f0 = false ∧ RH x.f0 x.f1 x.f2 x.f3 x.f4 x.f5)
def toV (x : S23) : Value := .agg #[.bool x.f0, .int .i64 x.f1, .int .i64 x.f2, .int .i64 x.f3, .int .i64 x.f4, .int .i64 x.f5]
theorem known_a (x : S23) (w : World) : Calls Try.prog 31 #[toV x] w fun e w' => e = .returned (.bool (knownS x)) ∧ Below w.heap.size w w' := by
  obtain ⟨K, hK⟩ := (known_eq x.f0 x.f1 x.f2 x.f3 x.f4 x.f5).rounds
  exact height_known.calls K _ _ _ _ _ _ _ w hK
theorem less_a (x y : S23) (w : World) : Calls Try.prog 14 #[toV x, toV y] w fun e w' => e = .returned (.bool (lessS x y)) ∧ Below w.heap.size w w' := by
  obtain ⟨K, hK⟩ := (lessS_ev x y).rounds
  exact height_Less.calls K _ _ _ _ _ _ _ _ _ _ _ _ _ w hK
end Go.Proofs.Ytjeahmlahkngaaa.P
