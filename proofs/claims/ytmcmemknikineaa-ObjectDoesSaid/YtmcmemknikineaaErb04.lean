/- Layer 4, plain: the reference's right heights and their bytes. -/
import Derived.Test.YtmcmemknikineaaEb04
import Derived.Test.YtmcmemknikineaaErInt
import Derived.Test.YtmcmemknikineaaErBoth
import Derived.Test.YtmcmemknikineaaP13
import Derived.Test.YtmcmemknikineaaP14
import Derived.Test.YtmcmemknikineaaP18
import Derived.Test.YtmcmemknikineaaP15
import Derived.Test.YtmcmemknikineaaP19
namespace Go.Proofs.Ytmcmemknikineaa.P
set_option linter.unusedSimpArgs false
set_option linter.unusedVariables false
open Go.RowKit Go.Proofs.YtmcmemknikineaaW.PrintWords Go.Proofs.YtmcmemknikineaaW.PrintLast Go.Proofs.YtmcmemknikineaaW.PrintMore
theorem bool_same0 {p q : Prop} [Decidable p] [Decidable q] (h : p ↔ q) : (decide p) = (decide q) := by
  by_cases hp : p
  · rw [decide_eq_true hp, decide_eq_true (h.mp hp)]
  · rw [decide_eq_false hp, decide_eq_false (fun hq => hp (h.mpr hq))]
theorem rj_eq (k : Nat) (n x : Bool) (a b c d e : Int) : thalwegref02_Right.j0 (k + 1) x n a b c d e = some (decide (x = false ∧ ((n = true ∧ a = 0 ∧ b = 0 ∧ c = 0 ∧ d = 0) ∨ (n = false ∧ 0 ≤ a ∧ a ≤ 4611686018427387903 ∧ 0 ≤ b ∧ b < 64 ∧ 0 ≤ c ∧ c ≤ 1 ∧ -1099511627776 ≤ d ∧ d ≤ 1099511627776)))) := by
  simp only [thalwegref02_Right.j0]
  cases n <;> cases x <;> simp only [if_true, Bool.false_eq_true, if_false, true_and, false_and, or_false, false_or, Bool.true_eq_false, reduceCtorEq, decide_false]
  · repeat' split
    all_goals
      congr 1
      first
        | (rw [eq_comm, decide_eq_false_iff_not]; omega)
        | (apply bool_same0; omega)
  · congr 1
    rw [Bool.eq_iff_iff, decide_eq_true_eq]
    simp only [Bool.and_eq_true, beq_iff_eq]
theorem rr_eq (n : Bool) (a b c d e : Int) : Ev (fun k => thalwegref02_Right.f k n a b c d e) (decide (RH n a b c d e)) := by
  unfold thalwegref02_Right.f
  refine Ev.from 1 fun k => ?_
  rw [rj_eq, rj_eq]
  unfold RH
  by_cases h : e < 0
  · rw [if_pos h]
    have : ¬ 0 ≤ e := by omega
    simp only [this, false_and, Bool.true_eq_false]
  · rw [if_neg h]
    have h0 : 0 ≤ e := by omega
    simp only [decide_eq_false_iff_not, ge_iff_le, Int.not_le, h0, true_and]
theorem rb_eq (n : Bool) (a b c d e : Int) (h : RH n a b c d e) (wa : (Lit.int .i64 a).wf = true) (wd : (Lit.int .i64 d).wf = true) : Ev (fun k => thalwegref02_Bytes.f k n a b c d e) (hB n a b c d e, 0) := by
  have hc := rr_eq n a b c d e
  rw [decide_eq_true h] at hc
  unfold thalwegref02_Bytes.f hB
  refine Ev.bind hc ?_
  cases n with
  | true => simp only [if_true]; exact Ev.now _
  | false =>
    simp only [if_true, Bool.false_eq_true, if_false]
    refine Ev.bind (refInt_ev a wa) ?_
    refine Ev.bind (refInt_ev d wd) ?_
    refine Ev.bind (both_ev _ (by simp) (by simp [intSpec_length])) ?_
    refine ev_eq (Ev.now _) ?_
    simp
end Go.Proofs.Ytmcmemknikineaa.P
