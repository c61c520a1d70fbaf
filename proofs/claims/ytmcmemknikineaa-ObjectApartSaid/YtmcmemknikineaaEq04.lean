/- Layer 4, plain: what is right, and the bytes, told exactly, of the program and of the reference. -/
import Derived.Test.YtmcmemknikineaaEp04
namespace Go.Proofs.Ytmcmemknikineaa.P
set_option linter.unusedSimpArgs false
set_option linter.unusedVariables false
open Go.RowKit Go.Proofs.YtmcmemknikineaaW.PrintWords Go.Proofs.YtmcmemknikineaaW.PrintLast Go.Proofs.YtmcmemknikineaaW.PrintMore
/-- A height that is right. -/
def RH (n : Bool) (a b c d e : Int) : Prop := (0 ≤ e ∧ e < 64) ∧ ((n = true ∧ a = 0 ∧ b = 0 ∧ c = 0 ∧ d = 0) ∨ (n = false ∧ 0 ≤ a ∧ a ≤ 4611686018427387903 ∧ 0 ≤ b ∧ b < 64 ∧ 0 ≤ c ∧ c ≤ 1 ∧ -1099511627776 ≤ d ∧ d ≤ 1099511627776))
instance (n : Bool) (a b c d e : Int) : Decidable (RH n a b c d e) := by unfold RH; infer_instance
theorem hj_eq (k : Nat) (n x : Bool) (a b c d e : Int) : height_Check.j0 (k + 1) x n a b c d e = some (if x = true ∧ ((n = true ∧ a = 0 ∧ b = 0 ∧ c = 0 ∧ d = 0) ∨ (n = false ∧ 0 ≤ a ∧ a ≤ 4611686018427387903 ∧ 0 ≤ b ∧ b < 64 ∧ 0 ≤ c ∧ c ≤ 1 ∧ -1099511627776 ≤ d ∧ d ≤ 1099511627776)) then 0 else 1) := by
  simp only [height_Check.j0, height_Null.f, Option.bind_some]
  cases n <;> cases x <;> simp only [Bool.true_and, beq_self_eq_true, Bool.and_true, Bool.and_eq_true, beq_iff_eq, if_true, Bool.false_eq_true, if_false, true_and, false_and, or_false, false_or, Bool.true_eq_false, reduceCtorEq]
  · repeat' split
    all_goals first
      | rfl
      | (exfalso; omega)
  · by_cases h : a = 0 ∧ b = 0 ∧ c = 0 ∧ d = 0
    · rw [if_pos h, if_pos h]
    · rw [if_neg h, if_neg h]
theorem hc_eq (n : Bool) (a b c d e : Int) : Ev (fun k => height_Check.f k n a b c d e) (if RH n a b c d e then 0 else 1) := by
  unfold height_Check.f
  refine Ev.from 1 fun k => ?_
  rw [hj_eq, hj_eq]
  unfold RH
  by_cases h : e ≥ 0
  · rw [if_pos h]
    congr 1
    have h0 : 0 ≤ e := h
    simp only [decide_eq_true_eq, h0, true_and]
  · rw [if_neg h]
    have : ¬ 0 ≤ e := h
    simp only [this, false_and, Bool.false_eq_true]
/-- An object that is right, but for its kind's fields. -/
def RO (a0 a1 : Int) (a2 : Bool) (a3 a4 a5 a6 a7 a8 a9 a10 a11 : Int) : Prop := (0 ≤ a1 ∧ a1 < 64) ∧
  ((a0 = 1 ∧ (a8 = 0 ∧ a9 = 0 ∧ a10 = 0) ∧ (a2 = false ∧ a3 = 0 ∧ a4 = 0 ∧ a5 = 0 ∧ a6 = 0 ∧ a7 = 0) ∧ a11 = 0) ∨
   (a0 = 2 ∧ (a8 = 0 ∧ a9 = 0 ∧ a10 = 0) ∧ a11 = 0 ∧ RH a2 a3 a4 a5 a6 a7) ∨
   (a0 = 3 ∧ (a2 = false ∧ a3 = 0 ∧ a4 = 0 ∧ a5 = 0 ∧ a6 = 0 ∧ a7 = 0) ∧ a11 = 0 ∧ RH false a8 a9 a10 0 0) ∨
   (a0 = 4 ∧ (a8 = 0 ∧ a9 = 0 ∧ a10 = 0) ∧ 0 ≤ a11 ∧ a11 ≤ 65535 ∧ RH a2 a3 a4 a5 a6 a7 ∧ a2 = false))
instance (a0 a1 : Int) (a2 : Bool) (a3 a4 a5 a6 a7 a8 a9 a10 a11 : Int) : Decidable (RO a0 a1 a2 a3 a4 a5 a6 a7 a8 a9 a10 a11) := by unfold RO; infer_instance
theorem oj1_eq (x4 : Bool) (a0 a1 : Int) (a2 : Bool) (a3 a4 a5 a6 a7 a8 a9 a10 a11 : Int) (b2 : Bool) (b3 b4 b5 b6 b7 b8 b9 b10 b11 : Int) :
    Ev (fun k => object_Check.j1 k x4 a0 a1 a2 a3 a4 a5 a6 a7 a8 a9 a10 a11 0 0 b2 b3 b4 b5 b6 b7 b8 b9 b10 b11) (if x4 = true ∧ RH a2 a3 a4 a5 a6 a7 ∧ (b8 = 0 ∧ b9 = 0 ∧ b10 = 0) ∧ b11 = 0 then 0 else 1) := by
  refine Ev.step (f := fun k => _) (fun k => by simp only [object_Check.j1]; rfl) ?_
  cases x4 with
  | false => simp only [Bool.false_eq_true, if_false, false_and]; exact Ev.now _
  | true =>
    simp only [if_true, true_and]
    refine Ev.bind (hc_eq a2 a3 a4 a5 a6 a7) ?_
    by_cases h : RH a2 a3 a4 a5 a6 a7
    · simp only [if_pos h, if_true, h, true_and]
      by_cases g : (b8 = 0 ∧ b9 = 0 ∧ b10 = 0) ∧ b11 = 0
      · obtain ⟨⟨rfl, rfl, rfl⟩, rfl⟩ := g
        simp only [and_self, if_true]
        exact Ev.now _
      · rw [if_neg g]
        have : (!((0 : Int) == 0) || (!((0 : Int) == 0) || ((!(b8 == 0) || (!(b9 == 0) || (!(b10 == 0)))) || (!(b11 == 0))))) = true := by
          rw [← Bool.not_eq_false]
          intro hf
          simp only [Bool.or_eq_false_iff, Bool.not_eq_false', beq_iff_eq] at hf
          exact g ⟨⟨hf.2.2.1.1, hf.2.2.1.2.1, hf.2.2.1.2.2⟩, hf.2.2.2⟩
        simp only [if_pos this]
        exact Ev.now _
    · simp only [if_neg h, h, false_and, if_false, show ¬ (1 : Int) = 0 by decide]
      exact Ev.now _
theorem ha_eq (a b c d e : Int) : ∃ t : Bool × Int × Int × Int × Int × Int × Int, Ev (fun k => height_At.f k a b c d e) t ∧ t.2.2.2.2.2.2 = (if RH false a b c d e then 0 else 1) := by
  unfold height_At.f
  by_cases h : RH false a b c d e
  · have := hc_eq false a b c d e
    rw [if_pos h] at this
    rw [if_pos h]
    exact ⟨(false, a, b, c, d, e, 0), Ev.bind this (by simp only [if_true]; exact Ev.now _), rfl⟩
  · have := hc_eq false a b c d e
    rw [if_neg h] at this
    rw [if_neg h]
    exact ⟨(false, 0, 0, 0, 0, 0, 1), Ev.bind this (by simp only [if_neg (show ¬ (1 : Int) = 0 by decide)]; exact Ev.now _), rfl⟩
theorem ev_eq {α : Type} {g : Nat → Option α} {a b : α} (h : Ev g a) (e : a = b) : Ev g b := e ▸ h
theorem oc_eq (a0 a1 : Int) (a2 : Bool) (a3 a4 a5 a6 a7 a8 a9 a10 a11 : Int) : Ev (fun k => object_Check.f k a0 a1 a2 a3 a4 a5 a6 a7 a8 a9 a10 a11) (if RO a0 a1 a2 a3 a4 a5 a6 a7 a8 a9 a10 a11 then 0 else 1) := by
  have hj : ∀ x : Bool, Ev (fun k => object_Check.j0 k x a0 a1 a2 a3 a4 a5 a6 a7 a8 a9 a10 a11 0 0 a2 a3 a4 a5 a6 a7 a8 a9 a10 a11) (if x = true ∧
    ((a0 = 1 ∧ (a8 = 0 ∧ a9 = 0 ∧ a10 = 0) ∧ (a2 = false ∧ a3 = 0 ∧ a4 = 0 ∧ a5 = 0 ∧ a6 = 0 ∧ a7 = 0) ∧ a11 = 0) ∨
     (a0 = 2 ∧ (a8 = 0 ∧ a9 = 0 ∧ a10 = 0) ∧ a11 = 0 ∧ RH a2 a3 a4 a5 a6 a7) ∨
     (a0 = 3 ∧ (a2 = false ∧ a3 = 0 ∧ a4 = 0 ∧ a5 = 0 ∧ a6 = 0 ∧ a7 = 0) ∧ a11 = 0 ∧ RH false a8 a9 a10 0 0) ∨
     (a0 = 4 ∧ (a8 = 0 ∧ a9 = 0 ∧ a10 = 0) ∧ 0 ≤ a11 ∧ a11 ≤ 65535 ∧ RH a2 a3 a4 a5 a6 a7 ∧ a2 = false)) then 0 else 1) := by
    intro x
    refine Ev.step (f := fun k => _) (fun k => by simp only [object_Check.j0]; rfl) ?_
    by_cases h1 : a0 = 1
    · subst h1
      simp only [if_true, show ¬ (1 : Int) = 2 by decide, show ¬ (1 : Int) = 3 by decide, show ¬ (1 : Int) = 4 by decide, false_and, or_false, true_and]
      cases x with
      | false => simp only [Bool.false_eq_true, if_false, false_and]; exact Ev.now _
      | true =>
        simp only [if_true, true_and]
        by_cases g : (a8 = 0 ∧ a9 = 0 ∧ a10 = 0) ∧ (a2 = false ∧ a3 = 0 ∧ a4 = 0 ∧ a5 = 0 ∧ a6 = 0 ∧ a7 = 0) ∧ a11 = 0
        · rw [if_pos g]
          obtain ⟨⟨rfl, rfl, rfl⟩, ⟨rfl, rfl, rfl, rfl, rfl, rfl⟩, rfl⟩ := g
          exact Ev.now _
        · rw [if_neg g]
          have : (!((0 : Int) == 0) || (!((0 : Int) == 0) || ((a2 || (!(a3 == 0) || (!(a4 == 0) || (!(a5 == 0) || (!(a6 == 0) || (!(a7 == 0))))))) || ((!(a8 == 0) || (!(a9 == 0) || (!(a10 == 0)))) || (!(a11 == 0)))))) = true := by
            rw [← Bool.not_eq_false]
            intro hf
            simp only [Bool.or_eq_false_iff, Bool.not_eq_false', beq_iff_eq] at hf
            obtain ⟨_, _, ⟨u2, u3, u4, u5, u6, u7⟩, ⟨u8, u9, u10⟩, u11⟩ := hf
            exact g ⟨⟨u8, u9, u10⟩, ⟨u2, u3, u4, u5, u6, u7⟩, u11⟩
          simp only [if_pos this]
          exact Ev.now _
    by_cases h4 : a0 = 4
    · subst h4
      simp only [if_true, if_neg h1, show ¬ (4 : Int) = 1 by decide, show ¬ (4 : Int) = 2 by decide, show ¬ (4 : Int) = 3 by decide, false_and, false_or, true_and]
      cases x with
      | false =>
        simp only [Bool.false_eq_true, if_false, false_and]
        refine ev_eq (oj1_eq _ _ _ _ _ _ _ _ _ _ _ _ _ _ _ _ _ _ _ _ _ _ _) ?_
        simp only [Bool.false_eq_true, false_and, if_false]
      | true =>
        simp only [if_true, true_and]
        cases a2 with
        | true =>
          simp only [if_true, Bool.true_eq_false, and_false, if_false]
          refine ev_eq (oj1_eq _ _ _ _ _ _ _ _ _ _ _ _ _ _ _ _ _ _ _ _ _ _ _) ?_
          simp only [Bool.false_eq_true, false_and, if_false]
        | false =>
          simp only [Bool.false_eq_true, if_false, and_true]
          by_cases g : a11 ≥ 0
          · simp only [if_pos g]
            refine ev_eq (oj1_eq _ _ _ _ _ _ _ _ _ _ _ _ _ _ _ _ _ _ _ _ _ _ _) ?_
            have g0 : 0 ≤ a11 := g
            simp only [decide_eq_true_eq, g0, true_and, and_true]
            congr 1
            apply propext
            constructor
            · rintro ⟨u, v, w⟩; exact ⟨w, u, v⟩
            · rintro ⟨w, u, v⟩; exact ⟨u, v, w⟩
          · simp only [if_neg g]
            refine ev_eq (oj1_eq _ _ _ _ _ _ _ _ _ _ _ _ _ _ _ _ _ _ _ _ _ _ _) ?_
            have g' : ¬ 0 ≤ a11 := g
            simp only [g', Bool.false_eq_true, false_and, and_false, if_false]
    by_cases h2 : a0 = 2
    · subst h2
      simp only [if_neg h1, if_neg h4, if_true, show ¬ (2 : Int) = 1 by decide, show ¬ (2 : Int) = 4 by decide, show ¬ (2 : Int) = 3 by decide, false_and, false_or, or_false, true_and]
      refine ev_eq (oj1_eq _ _ _ _ _ _ _ _ _ _ _ _ _ _ _ _ _ _ _ _ _ _ _) ?_
      congr 1
      apply propext
      constructor
      · rintro ⟨u, v, w, z⟩; exact ⟨u, w, z, v⟩
      · rintro ⟨u, w, z, v⟩; exact ⟨u, v, w, z⟩
    by_cases h3 : a0 = 3
    · subst h3
      simp only [if_neg h1, if_neg h4, if_neg h2, if_true, show ¬ (3 : Int) = 1 by decide, show ¬ (3 : Int) = 4 by decide, show ¬ (3 : Int) = 2 by decide, false_and, false_or, or_false, true_and]
      obtain ⟨t, ht, he⟩ := ha_eq a8 a9 a10 0 0
      refine Ev.bind ht ?_
      rw [he]
      cases x with
      | false => simp only [Bool.false_eq_true, if_false, false_and]; exact Ev.now _
      | true =>
        simp only [if_true, true_and]
        by_cases h : RH false a8 a9 a10 0 0
        · simp only [if_pos h, h, if_true, and_true]
          by_cases g : (a2 = false ∧ a3 = 0 ∧ a4 = 0 ∧ a5 = 0 ∧ a6 = 0 ∧ a7 = 0) ∧ a11 = 0
          · rw [if_pos g]
            obtain ⟨⟨rfl, rfl, rfl, rfl, rfl, rfl⟩, rfl⟩ := g
            exact Ev.now _
          · rw [if_neg g]
            have : (!((0 : Int) == 0) || (!((0 : Int) == 0) || ((a2 || (!(a3 == 0) || (!(a4 == 0) || (!(a5 == 0) || (!(a6 == 0) || (!(a7 == 0))))))) || (!(a11 == 0))))) = true := by
              rw [← Bool.not_eq_false]
              intro hf
              simp only [Bool.or_eq_false_iff, Bool.not_eq_false', beq_iff_eq] at hf
              obtain ⟨_, _, ⟨u2, u3, u4, u5, u6, u7⟩, u11⟩ := hf
              exact g ⟨⟨u2, u3, u4, u5, u6, u7⟩, u11⟩
            simp only [if_pos this]
            exact Ev.now _
        · simp only [if_neg h, h, show ¬ (1 : Int) = 0 by decide, if_false, and_false]
          exact Ev.now _
    · simp only [if_neg h1, if_neg h4, if_neg h2, if_neg h3, h1, h2, h3, h4, false_and, or_false, and_false, if_false]
      exact Ev.now _
  unfold object_Check.f RO
  by_cases h : a1 ≥ 0
  · simp only [if_pos h]
    refine ev_eq (hj _) ?_
    have g0 : 0 ≤ a1 := h
    simp only [decide_eq_true_eq, g0, true_and]
  · simp only [if_neg h]
    refine ev_eq (hj _) ?_
    have h' : ¬ 0 ≤ a1 := h
    simp only [h', Bool.false_eq_true, false_and, and_false, if_false]
end Go.Proofs.Ytmcmemknikineaa.P
