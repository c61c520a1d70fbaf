/- Layer 7's reference for rows of acks, plain: Right, Parse, Same, Bytes. -/
import Derived.Test.YtolfbnkdmafomaaEap
import Derived.Test.YtolfbnkdmafomaaErGet
import Derived.Test.YtolfbnkdmafomaaP11
import Derived.Test.YtolfbnkdmafomaaP22
import Derived.Test.YtolfbnkdmafomaaP23
namespace Go.Proofs.Ytolfbnkdmafomaa.P
set_option linter.unusedSimpArgs false
set_option linter.unusedVariables false
open Go.RowKit Go.Proofs.YtolfbnkdmafomaaW.PrintWords Go.Proofs.YtolfbnkdmafomaaW.PrintLast Go.Proofs.YtolfbnkdmafomaaW.PrintMore
theorem one_eq (a : S24) : thalwegref07_One.f a.f0 a.f1 a.f2 a.f3 = some (decide (SA a)) := by
  unfold thalwegref07_One.f thalwegref06_Epoch.f
  by_cases h1 : a.f0 ≥ 0
  · rw [if_pos h1]
    by_cases h2 : a.f0 < 64
    · rw [if_pos h2]
      by_cases h3 : a.f1 ≥ 0
      · rw [if_pos h3]
        by_cases h4 : a.f1 ≤ 4294967295
        · rw [decide_eq_true h4, Option.bind_some, if_pos rfl]
          by_cases h5 : a.f2 ≥ 0
          · rw [if_pos h5]
            by_cases h6 : a.f2 ≤ 65535
            · rw [if_pos h6]
              by_cases h7 : a.f3 ≥ 0
              · rw [if_pos h7]
                congr 1
                by_cases h8 : a.f3 ≤ 65535
                · rw [decide_eq_true h8, decide_eq_true (show SA a from ⟨⟨h1, h2⟩, ⟨h3, h4⟩, ⟨h5, h6⟩, h7, h8⟩)]
                · rw [decide_eq_false h8, decide_eq_false fun x : SA a => h8 x.2.2.2.2]
              · rw [if_neg h7, decide_eq_false fun x : SA a => h7 x.2.2.2.1]
            · rw [if_neg h6, decide_eq_false fun x : SA a => h6 x.2.2.1.2]
          · rw [if_neg h5, decide_eq_false fun x : SA a => h5 x.2.2.1.1]
        · rw [decide_eq_false h4, Option.bind_some, if_neg (by decide), decide_eq_false fun x : SA a => h4 x.2.1.2]
      · rw [if_neg h3, Option.bind_some, if_neg (by decide), decide_eq_false fun x : SA a => h3 x.2.1.1]
    · rw [if_neg h2, decide_eq_false fun x : SA a => h2 x.1.2]
  · rw [if_neg h1, decide_eq_false fun x : SA a => h1 x.1.1]
theorem rright_l0 (l : List S24) (hn : l.length ≤ 1000000) : ∀ (d : Nat) (i : Int), 0 ≤ i → (l.length : Int) - i = d →
    Ev (fun k => thalwegref07_Right.l0 k l i) (upA (prevA l i) (l.drop i.toNat) && decide (1 ≤ l.length ∧ l.length ≤ 64)) := by
  intro d
  induction d with
  | zero =>
    intro i h0 hd
    refine Ev.from 1 fun k => ?_
    simp only [thalwegref07_Right.l0]
    rw [if_neg (by omega), List.drop_eq_nil_of_le (by omega)]
    simp only [upA, Bool.true_and]
    by_cases c : (l.length : Int) ≥ 1
    · rw [if_pos c]
      congr 1
      by_cases c2 : (l.length : Int) ≤ 64
      · rw [decide_eq_true c2, decide_eq_true (show 1 ≤ l.length ∧ l.length ≤ 64 by omega)]
      · rw [decide_eq_false c2, decide_eq_false (show ¬ (1 ≤ l.length ∧ l.length ≤ 64) by omega)]
    · rw [if_neg c, decide_eq_false (show ¬ (1 ≤ l.length ∧ l.length ≤ 64) by omega)]
  | succ d ih =>
    intro i h0 hd
    have h1 : i < (l.length : Int) := by omega
    refine Ev.step (f := fun k => _) (fun k => by simp only [thalwegref07_Right.l0]; rfl) ?_
    simp only [if_pos h1, if_pos h0, w64 (x := i + 1) (by omega) (by omega), one_eq, Option.bind_some]
    have hi := ih (i + 1) (by omega) (by omega)
    rw [prevA_succ l i h0] at hi
    rw [acks_get l i h0 h1]
    by_cases c1 : SA (rd_T24 l i)
    · simp only [decide_eq_true c1, if_true, upA, Bool.true_and]
      by_cases c2 : i > 0
      · simp only [if_pos c2, w64 (x := i - 1) (by omega) (by omega)]
        simp only [if_pos (show 0 ≤ i - 1 by omega), if_pos (show i - 1 < (l.length : Int) by omega)]
        rw [prevA_pos l i (by omega)]
        by_cases c3 : (rd_T24 l (i - 1)).f0 ≥ (rd_T24 l i).f0
        · simp only [if_pos c3, decide_eq_false (show ¬ (rd_T24 l (i - 1)).f0 < (rd_T24 l i).f0 by omega), Bool.false_and]
          exact Ev.now _
        · simp only [if_neg c3, decide_eq_true (show (rd_T24 l (i - 1)).f0 < (rd_T24 l i).f0 by omega), Bool.true_and]
          exact hi
      · simp only [if_neg c2]
        rw [decide_eq_true (show prevA l i < (rd_T24 l i).f0 by unfold prevA; rw [if_pos (by omega)]; have := c1.1; omega), Bool.true_and]
        exact hi
    · simp only [decide_eq_false c1, Bool.false_eq_true, if_false, upA, Bool.false_and]
      exact Ev.now _
theorem rright_ev (l : List S24) (hn : l.length ≤ 1000000) : Ev (fun k => thalwegref07_Right.f k l) (decide (RA l)) := by
  have h := rright_l0 l hn l.length 0 (by omega) (by omega)
  have e : (upA (prevA l 0) (l.drop (0 : Int).toNat) && decide (1 ≤ l.length ∧ l.length ≤ 64)) = decide (RA l) := by
    show (upA (-1) l && decide (1 ≤ l.length ∧ l.length ≤ 64)) = _
    rw [Bool.eq_iff_iff, Bool.and_eq_true, decide_eq_true_eq, decide_eq_true_eq]
    exact ⟨fun h => ⟨h.2.1, h.2.2, h.1⟩, fun h => ⟨h.2.2, h.1, h.2.1⟩⟩
  rw [e] at h
  exact h
theorem same_l0 (l : List S24) (hn : l.length ≤ 1000000) : ∀ (d : Nat) (i : Int), 0 ≤ i → (l.length : Int) - i = d → Ev (fun k => thalwegref07_Same.l0 k l l i) true := by
  intro d
  induction d with
  | zero =>
    intro i h0 hd
    refine Ev.from 1 fun k => ?_
    simp only [thalwegref07_Same.l0]
    rw [if_neg (by omega)]
  | succ d ih =>
    intro i h0 hd
    have h1 : i < (l.length : Int) := by omega
    refine Ev.step (f := fun k => _) (fun k => by simp only [thalwegref07_Same.l0]; rfl) ?_
    simp only [if_pos h1, if_pos h0, w64 (x := i + 1) (by omega) (by omega), beq_self_eq_true, Bool.not_true, Bool.or_self, Bool.false_eq_true, if_false]
    exact ih (i + 1) (by omega) (by omega)
theorem same_ev (l : List S24) (hn : l.length ≤ 1000000) : Ev (fun k => thalwegref07_Same.f k l l) true := by
  unfold thalwegref07_Same.f
  simp only [if_true]
  exact same_l0 l hn l.length 0 (by omega) (by omega)
theorem apL_len (l : List Int) : ∀ (m : Nat) (dn : List S24) (at_ : Int), (apL l m dn at_).1.length ≤ dn.length + m := by
  intro m
  induction m with
  | zero => intro dn at_; simp only [apL]; split <;> simp
  | succ m ih =>
    intro dn at_
    simp only [apL]
    split
    · have := ih (dn ++ [(apF l 4 z24 at_).1]) (apF l 4 z24 at_).2.1
      rw [List.length_append, List.length_singleton] at this
      omega
    · simp
/-- One field more, in the reference. -/
theorem rfield (l : List Int) (hB : Bytes l) (hl : l.length ≤ 1000000000000) (at_ many : Int) (dn : List S24) (i : Int) (v : List Int) (j : Int) (hj : 0 ≤ j) (hj4 : j < 4) (hv : v.length ≤ 4) {r : List S24 × Int × Int}
    (h0 : (getSpec l at_ (rd [1, 4, 2, 2] j)).2.2 = 0 → Ev (fun k => thalwegref07_Parse.l1 k l (getSpec l at_ (rd [1, 4, 2, 2] j)).2.1 many dn i (v ++ [(getSpec l at_ (rd [1, 4, 2, 2] j)).1]) [1, 4, 2, 2] (j + 1)) r)
    (h1 : ¬ (getSpec l at_ (rd [1, 4, 2, 2] j)).2.2 = 0 → r = ([], 0, (getSpec l at_ (rd [1, 4, 2, 2] j)).2.2)) : Ev (fun k => thalwegref07_Parse.l1 k l at_ many dn i v [1, 4, 2, 2] j) r := by
  refine Ev.step (f := fun k => _) (fun k => by simp only [thalwegref07_Parse.l1]; rfl) ?_
  simp only [if_pos hj4, if_pos hj, if_pos (show j < (([1, 4, 2, 2] : List Int).length : Int) from hj4), w64 (x := j + 1) (by omega) (by omega), if_pos (show v.length < 17592186044416 by omega)]
  refine Ev.bind (refGet_ev l at_ _ hB hl) ?_
  by_cases c : (getSpec l at_ (rd [1, 4, 2, 2] j)).2.2 = 0
  · simp only [if_pos c]
    exact h0 c
  · simp only [if_neg c, h1 c]
    exact Ev.now _
theorem rrows_ev (l : List Int) (hB : Bytes l) (hl : l.length ≤ 1000000000000) (many : Nat) (hm : many ≤ 255) : ∀ (m : Nat) (dn : List S24) (at_ : Int), dn.length + m = many →
    Ev (fun k => thalwegref07_Parse.l0 k l at_ (many : Int) dn (dn.length : Int)) (apL l m dn at_) := by
  intro m
  induction m with
  | zero =>
    intro dn at_ hd
    refine Ev.step (f := fun k => _) (fun k => by simp only [thalwegref07_Parse.l0]; rfl) ?_
    simp only [if_neg (show ¬ (dn.length : Int) < (many : Int) by omega), apL]
    refine Ev.bind (rright_ev dn (by omega)) ?_
    by_cases c : RA dn
    · simp only [decide_eq_true c, if_true, if_pos c]; exact Ev.now _
    · simp only [decide_eq_false c, Bool.false_eq_true, if_false, if_neg c]; exact Ev.now _
  | succ m ih =>
    intro dn at_ hd
    refine Ev.step (f := fun k => _) (fun k => by simp only [thalwegref07_Parse.l0]; rfl) ?_
    simp only [if_pos (show (dn.length : Int) < (many : Int) by omega), apL, apF]
    simp only [show (3 - 3 : Nat) = 0 from rfl, show (3 - 2 : Nat) = 1 from rfl, show (3 - 1 : Nat) = 2 from rfl, show (3 - 0 : Nat) = 3 from rfl, apSz, putF]
    refine rfield l hB hl at_ _ dn _ [] 0 (by omega) (by omega) (by simp) (fun c => ?_) (fun c => ?_)
    · rw [show rd [1, 4, 2, 2] 0 = 1 from rfl] at c ⊢
      simp only [if_pos c]
      generalize getSpec l at_ 1 = g0 at c ⊢
      refine rfield l hB hl g0.2.1 _ dn _ _ (0 + 1) (by omega) (by omega) (by simp) (fun c1 => ?_) (fun c1 => ?_)
      · rw [show rd [1, 4, 2, 2] (0 + 1) = 4 from rfl] at c1 ⊢
        simp only [if_pos c1]
        generalize getSpec l g0.2.1 4 = g1 at c1 ⊢
        refine rfield l hB hl g1.2.1 _ dn _ _ (0 + 1 + 1) (by omega) (by omega) (by simp) (fun c2 => ?_) (fun c2 => ?_)
        · rw [show rd [1, 4, 2, 2] (0 + 1 + 1) = 2 from rfl] at c2 ⊢
          simp only [if_pos c2]
          generalize getSpec l g1.2.1 2 = g2 at c2 ⊢
          refine rfield l hB hl g2.2.1 _ dn _ _ (0 + 1 + 1 + 1) (by omega) (by omega) (by simp) (fun c3 => ?_) (fun c3 => ?_)
          · rw [show rd [1, 4, 2, 2] (0 + 1 + 1 + 1) = 2 from rfl] at c3 ⊢
            simp only [if_pos c3]
            generalize getSpec l g2.2.1 2 = g3 at c3 ⊢
            refine Ev.step (f := fun k => _) (fun k => by simp only [thalwegref07_Parse.l1]; rfl) ?_
            have h2 := ih (dn ++ [⟨g0.1, g1.1, g2.1, g3.1⟩]) g3.2.1 (by rw [List.length_append, List.length_singleton]; omega)
            rw [List.length_append, List.length_singleton] at h2
            simp only [if_neg (show ¬ (0 + 1 + 1 + 1 + 1 : Int) < 4 by omega), List.nil_append, List.cons_append, List.length_cons, List.length_nil]
            simp only [show ((0 : Int) < ((0 + 1 + 1 + 1 + 1 : Nat) : Int)) = True by simp, show ((1 : Int) < ((0 + 1 + 1 + 1 + 1 : Nat) : Int)) = True by simp, show ((2 : Int) < ((0 + 1 + 1 + 1 + 1 : Nat) : Int)) = True by simp, show ((3 : Int) < ((0 + 1 + 1 + 1 + 1 : Nat) : Int)) = True by simp, if_true, if_pos (show dn.length < 4398046511104 by omega)]
            rw [w64 (x := (dn.length : Int) + 1) (by omega) (by omega)]
            exact h2
          · rw [show rd [1, 4, 2, 2] (0 + 1 + 1 + 1) = 2 from rfl] at c3 ⊢
            simp only [if_neg c3]
        · rw [show rd [1, 4, 2, 2] (0 + 1 + 1) = 2 from rfl] at c2 ⊢
          simp only [if_neg c2]
      · rw [show rd [1, 4, 2, 2] (0 + 1) = 4 from rfl] at c1 ⊢
        simp only [if_neg c1]
    · rw [show rd [1, 4, 2, 2] 0 = 1 from rfl] at c ⊢
      simp only [if_neg c]
theorem rparse_ev (l : List Int) (a : Int) (hB : Bytes l) (hl : l.length ≤ 1000000000000) : Ev (fun k => thalwegref07_Parse.f k l a) (apSpec l a) := by
  unfold thalwegref07_Parse.f apSpec
  refine Ev.bind (refGet_ev l a 1 hB hl) ?_
  have hr := get1_range l a hB
  by_cases c : (getSpec l a 1).2.2 = 0
  · simp only [if_pos c]
    obtain ⟨m, hm⟩ := Int.eq_ofNat_of_zero_le hr.1
    rw [hm] at hr ⊢
    exact rrows_ev l hB hl m (by omega) m [] _ (by simp)
  · simp only [if_neg c]
    exact Ev.now _
end Go.Proofs.Ytolfbnkdmafomaa.P
