/- Layer 7, by hand: rows of acks in memory, ack.Check plain, ack.fields. -/
import Derived.Test.YtolfbnkdmafomaaP0
import Derived.Test.YtolfbnkdmafomaaEev
import Derived.Test.YtolfbnkdmafomaaP9
namespace Go.Proofs.Ytolfbnkdmafomaa.P
set_option linter.unusedSimpArgs false
set_option linter.unusedVariables false
open Go.RowKit Go.Proofs.YtolfbnkdmafomaaW.PrintWords Go.Proofs.YtolfbnkdmafomaaW.PrintLast Go.Proofs.YtolfbnkdmafomaaW.PrintMore
attribute [local go_sem] max2_int min2_int max_two min_two max_three min_three max_four min_four
/-- A right ack. -/
def SA (a : S24) : Prop := (0 ≤ a.f0 ∧ a.f0 < 64) ∧ (0 ≤ a.f1 ∧ a.f1 ≤ 4294967295) ∧ (0 ≤ a.f2 ∧ a.f2 ≤ 65535) ∧ (0 ≤ a.f3 ∧ a.f3 ≤ 65535)
instance (a : S24) : Decidable (SA a) := by unfold SA; infer_instance
def upA (p : Int) : List S24 → Bool
  | [] => true
  | a :: l => decide (SA a) && decide (p < a.f0) && upA a.f0 l
def RA (l : List S24) : Prop := 1 ≤ l.length ∧ l.length ≤ 64 ∧ upA (-1) l = true
instance (l : List S24) : Decidable (RA l) := by unfold RA; infer_instance
def prevA (l : List S24) (i : Int) : Int := if i = 0 then -1 else (rd_T24 l (i - 1)).f0
theorem prevA_pos (l : List S24) (i : Int) (h : ¬ i = 0) : prevA l i = (rd_T24 l (i - 1)).f0 := if_neg h
theorem prevA_succ (l : List S24) (i : Int) (h : 0 ≤ i) : prevA l (i + 1) = (rd_T24 l i).f0 := by unfold prevA; rw [if_neg (by omega), show i + 1 - 1 = i by omega]
theorem acks_get (l : List S24) (i : Int) (h0 : 0 ≤ i) (h1 : i < l.length) : l.drop i.toNat = rd_T24 l i :: l.drop (i + 1).toNat := by
  have hi : i.toNat < l.length := by omega
  rw [List.drop_eq_getElem_cons hi, show (i + 1).toNat = i.toNat + 1 by omega]
  congr 1
  unfold rd_T24
  rw [List.getD_eq_getElem?_getD, List.getElem?_eq_getElem hi]
  rfl
theorem right_eq (a : S24) : ack_right.f a.f0 a.f1 a.f2 a.f3 = some (decide (SA a)) := by
  unfold ack_right.f
  by_cases h1 : a.f0 ≥ 0
  · rw [if_pos h1]
    by_cases h2 : a.f0 < 64
    · rw [if_pos h2]
      by_cases h3 : a.f1 ≥ 0
      · rw [if_pos h3]
        by_cases h4 : a.f1 ≤ 4294967295
        · rw [if_pos h4]
          by_cases h5 : a.f2 ≥ 0
          · rw [if_pos h5]
            by_cases h6 : a.f2 ≤ 65535
            · rw [if_pos h6]
              by_cases h7 : a.f3 ≥ 0
              · rw [if_pos h7]
                congr 1
                by_cases h8 : a.f3 ≤ 65535
                · rw [decide_eq_true h8, decide_eq_true (show SA a from ⟨⟨h1, h2⟩, ⟨h3, h4⟩, ⟨h5, h6⟩, h7, h8⟩)]
                · rw [decide_eq_false h8, decide_eq_false fun x : SA a => h8 x.2.2.2.2]
              · rw [if_neg h7, decide_eq_false fun x : SA a => h7 x.2.2.2.1]
            · rw [if_neg h6, decide_eq_false fun x : SA a => h6 x.2.2.1.2]
          · rw [if_neg h5, decide_eq_false fun x : SA a => h5 x.2.2.1.1]
        · rw [if_neg h4, decide_eq_false fun x : SA a => h4 x.2.1.2]
      · rw [if_neg h3, decide_eq_false fun x : SA a => h3 x.2.1.1]
    · rw [if_neg h2, decide_eq_false fun x : SA a => h2 x.1.2]
  · rw [if_neg h1, decide_eq_false fun x : SA a => h1 x.1.1]
theorem acheck_l0 (l : List S24) (hn : l.length ≤ 1000000) : ∀ (d : Nat) (i : Int) (b : Bool), 0 ≤ i → (l.length : Int) - i = d →
    Ev (fun k => ack_Check.l0 k l b l (l.length : Int) i) (if (b && upA (prevA l i) (l.drop i.toNat)) = true then 0 else 1) := by
  intro d
  induction d with
  | zero =>
    intro i b h0 hd
    refine Ev.from 1 fun k => ?_
    simp only [ack_Check.l0]
    rw [if_neg (by omega), List.drop_eq_nil_of_le (by omega)]
    simp only [upA, Bool.and_true]
    split <;> rfl
  | succ d ih =>
    intro i b h0 hd
    have h1 : i < (l.length : Int) := by omega
    refine Ev.step (f := fun k => _) (fun k => by simp only [ack_Check.l0]; rfl) ?_
    simp only [if_pos h1, if_pos h0, w64 (x := i + 1) (by omega) (by omega)]
    have hsum : ∀ c : Bool, (b && upA (prevA l i) (l.drop i.toNat)) = (c && upA (prevA l (i + 1)) (l.drop (i + 1).toNat)) → Ev (fun k => ack_Check.l0 k l c l (l.length : Int) (i + 1)) (if (b && upA (prevA l i) (l.drop i.toNat)) = true then 0 else 1) := by
      intro c hc
      rw [hc]
      exact ih (i + 1) c (by omega) (by omega)
    have hd2 := acks_get l i h0 h1
    cases b with
    | false =>
      simp only [Bool.false_eq_true, if_false]
      exact hsum false (by simp)
    | true =>
      simp only [if_true, right_eq, Option.bind_some]
      by_cases c1 : SA (rd_T24 l i)
      · simp only [decide_eq_true c1, if_true]
        by_cases c2 : i = 0
        · simp only [if_pos c2]
          refine hsum true ?_
          rw [hd2, prevA_succ l i h0]
          simp only [upA, decide_eq_true c1, Bool.true_and]
          rw [decide_eq_true (show prevA l i < (rd_T24 l i).f0 by unfold prevA; rw [if_pos c2]; have := c1.1; omega), Bool.true_and]
        · simp only [if_neg c2, w64 (x := i - 1) (by omega) (by omega)]
          simp only [if_pos (show 0 ≤ i - 1 by omega), if_pos (show i - 1 < (l.length : Int) by omega)]
          refine hsum _ ?_
          rw [hd2, prevA_succ l i h0, prevA_pos l i c2]
          simp only [upA, decide_eq_true c1, Bool.true_and]
      · simp only [decide_eq_false c1, Bool.false_eq_true, if_false]
        refine hsum false ?_
        rw [hd2]
        simp only [upA, decide_eq_false c1, Bool.false_and, Bool.and_false]
theorem acheck_ev (l : List S24) (hn : l.length ≤ 1000000) : Ev (fun k => ack_Check.f k l) (if RA l then 0 else 1) := by
  have key : ∀ b : Bool, (RA l ↔ (b && upA (-1) l) = true) → Ev (fun k => ack_Check.j0 k l b) (if RA l then 0 else 1) := by
    intro b hb
    refine Ev.step (f := fun k => _) (fun k => by simp only [ack_Check.j0]; rfl) ?_
    have h := acheck_l0 l hn l.length 0 b (by omega) (by omega)
    have e : (if (b && upA (prevA l 0) (l.drop (0 : Int).toNat)) = true then (0 : Int) else 1) = if RA l then 0 else 1 := by
      show (if (b && upA (-1) l) = true then (0 : Int) else 1) = _
      simp only [hb]
    rw [e] at h
    exact h
  unfold ack_Check.f
  by_cases c : (l.length : Int) > 0
  · simp only [if_pos c]
    refine key _ ?_
    unfold RA
    simp only [Bool.and_eq_true, decide_eq_true_eq]
    exact ⟨fun h => ⟨by omega, h.2.2⟩, fun h => ⟨by omega, by omega, h.2⟩⟩
  · simp only [if_neg c]
    refine key _ ?_
    unfold RA
    simp only [Bool.false_and, Bool.false_eq_true, iff_false]
    omega
/-! rows of acks as cells -/
def rowC : List S24 → List Value
  | [] => []
  | a :: l => .int .i64 a.f0 :: .int .i64 a.f1 :: .int .i64 a.f2 :: .int .i64 a.f3 :: rowC l
theorem rowC_length (l : List S24) : (rowC l).length = l.length * 4 := by
  induction l with
  | nil => rfl
  | cons a l ih => simp only [rowC, List.length_cons, ih]; omega
theorem rowC_append (l m : List S24) : rowC (l ++ m) = rowC l ++ rowC m := by
  induction l with
  | nil => rfl
  | cons a l ih => simp only [List.cons_append, rowC, ih]
theorem rowC_zero (m : Nat) : rowC (List.replicate m z24) = List.replicate (m * 4) (.int .i64 0) := by
  induction m with
  | zero => rfl
  | succ m ih =>
    rw [show (m + 1) * 4 = m * 4 + 4 by omega, List.replicate_succ]
    show Value.int .i64 0 :: .int .i64 0 :: .int .i64 0 :: .int .i64 0 :: rowC (List.replicate m z24) = _
    rw [ih]
    simp only [List.replicate_succ]
theorem rowC_made (m : Nat) : madeCells #[.int .i64 0, .int .i64 0, .int .i64 0, .int .i64 0] (m * 4) = (rowC (List.replicate m z24)).toArray := by
  rw [rowC_zero]
  apply Array.ext
  · simp [size_madeCells]
  · intro i h1 h2
    simp only [madeCells, Array.getElem_map, Array.getElem_range, List.getElem_toArray, List.getElem_replicate]
    have : i % 4 = 0 ∨ i % 4 = 1 ∨ i % 4 = 2 ∨ i % 4 = 3 := by omega
    show (#[Value.int .i64 0, .int .i64 0, .int .i64 0, .int .i64 0] : Array Value)[i % 4]! = _
    rcases this with e | e | e | e <;> rw [e] <;> rfl
def putF (j : Nat) (v : Int) (a : S24) : S24 := match j with
  | 0 => ⟨v, a.f1, a.f2, a.f3⟩
  | 1 => ⟨a.f0, v, a.f2, a.f3⟩
  | 2 => ⟨a.f0, a.f1, v, a.f3⟩
  | _ => ⟨a.f0, a.f1, a.f2, v⟩
def getF (j : Nat) (a : S24) : Int := match j with
  | 0 => a.f0
  | 1 => a.f1
  | 2 => a.f2
  | _ => a.f3
theorem rowC_set (l m : List S24) (x : S24) (j : Nat) (hj : j < 4) (v : Int) : (rowC (l ++ x :: m)).toArray.setIfInBounds (l.length * 4 + j) (.int .i64 v) = (rowC (l ++ putF j v x :: m)).toArray := by
  rw [List.setIfInBounds_toArray, rowC_append, rowC_append, List.set_append_right _ _ (by rw [rowC_length]; omega), rowC_length, show l.length * 4 + j - l.length * 4 = j by omega]
  obtain rfl | rfl | rfl | rfl : j = 0 ∨ j = 1 ∨ j = 2 ∨ j = 3 := by omega
  all_goals rfl
theorem rowC_get (l m : List S24) (x : S24) (j : Nat) (hj : j < 4) : (rowC (l ++ x :: m)).toArray[l.length * 4 + j]? = some (.int .i64 (getF j x)) := by
  rw [List.getElem?_toArray, rowC_append, List.getElem?_append_right (by rw [rowC_length]; omega), rowC_length, show l.length * 4 + j - l.length * 4 = j by omega]
  obtain rfl | rfl | rfl | rfl : j = 0 ∨ j = 1 ∨ j = 2 ∨ j = 3 := by omega
  all_goals rfl
theorem rowC_reps (R : S24 → List Value → Prop) (h : ∀ x, R x [.int .i64 x.f0, .int .i64 x.f1, .int .i64 x.f2, .int .i64 x.f3]) : ∀ l : List S24, Reps R 4 l (rowC l)
  | [] => Reps.none _ _
  | a :: l => Reps.c4 (h a) (rowC_reps R h l)
theorem R_of_row {W : World} {g base : Nat} {l : List S24} (hb : W.heap[g]? = some (.cells (rowC l).toArray 24 (0, 0))) (hg : base ≤ g) (hl : l.length ≤ 1000000) : Kd.R k24 24 W base (fun _ => True) (.slice (some ⟨g, 0, none⟩) l.length l.length) l := by
  refine ⟨fun _ _ => trivial, rowC l, ⟨?_, .inr ⟨g, l.length, (rowC l).toArray, rfl, hg, hb, ?_⟩⟩, rowC_reps _ (fun x => k24_mkM W base _ x) l⟩
  · exact rowC_length l
  · refine ⟨Nat.le_refl _, by unfold maxLen; omega, ?_, ?_⟩
    · simp only [List.size_toArray]; exact rowC_length l
    · show (rowC l).take (l.length * 4) = rowC l
      exact List.take_of_length_le (Nat.le_of_eq (rowC_length l))
end Go.Proofs.Ytolfbnkdmafomaa.P
