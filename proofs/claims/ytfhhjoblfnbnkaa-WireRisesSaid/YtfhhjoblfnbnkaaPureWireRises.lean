/- WireRises: of two numbers in as many bytes the lesser one's bytes come ahead, byte by byte; the plain law. -/
import Derived.Test.YtfhhjoblfnbnkaaEa01
import Derived.Test.YtfhhjoblfnbnkaaEstr
import Derived.Test.YtfhhjoblfnbnkaaP13
namespace Go.Proofs.Ytfhhjoblfnbnkaa.Pure
set_option linter.unusedSimpArgs false
set_option linter.unusedVariables false
open Go.RowKit Go.Proofs.Ytfhhjoblfnbnkaa.P Go.Proofs.YtfhhjoblfnbnkaaW.PrintWords Go.Proofs.YtfhhjoblfnbnkaaW.PrintLast Go.Proofs.YtfhhjoblfnbnkaaW.PrintMore
theorem WireRises : thalweglaw01_WireRises.Pure := by
  intro v w n hv hw _
  apply Ev.rounds
  have bad : ∀ x y, Ev (fun k => thalweglaw01_WireRises.j0 k v w x y true) true := fun x y => by
    refine Ev.step (f := fun k => _) (fun k => by simp only [thalweglaw01_WireRises.j0]; rfl) ?_
    simp only [if_true]
    exact Ev.bind awake01 (Ev.now _)
  unfold thalweglaw01_WireRises.f
  simp only [wire_Put_eq v n hv, wire_Put_eq w n hw, Option.bind_some]
  unfold putSpec
  by_cases c1 : 1 ≤ n ∧ n ≤ 7 ∧ 0 ≤ v ∧ v < 256 ^ n.toNat
  · rw [if_pos c1]
    by_cases c2 : 1 ≤ n ∧ n ≤ 7 ∧ 0 ≤ w ∧ w < 256 ^ n.toNat
    · rw [if_pos c2]
      simp only [if_true, bne_self_eq_false]
      refine Ev.step (f := fun k => _) (fun k => by simp only [thalweglaw01_WireRises.j0]; rfl) ?_
      simp only [Bool.false_eq_true, if_false]
      refine Ev.bind awake01 ?_
      have hlt := bytes_less (be_bytes n.toNat v) (be_bytes n.toNat w) (by rw [be_length, be_length])
      rw [bev_be _ v c1.2.2.1 c1.2.2.2, bev_be _ w c2.2.2.1 c2.2.2.2] at hlt
      have heq : ((strOfNums (be n.toNat v)).toList == (strOfNums (be n.toNat w)).toList) = (v == w) := by
        rw [Bool.eq_iff_iff, beq_iff_eq, beq_iff_eq]
        constructor
        · intro h
          exact be_inj n.toNat v w c1.2.2 c2.2.2 (str_inj (be_bytes _ _) (be_bytes _ _) h)
        · rintro rfl; rfl
      simp only [if_true, hlt, heq, beq_self_eq_true]
      exact Ev.now _
    · rw [if_neg c2]
      simp only [if_true]
      exact bad _ _
  · rw [if_neg c1]
    simp only [if_neg (show ¬ (1 : Int) = 0 by decide)]
    exact bad _ _
end Go.Proofs.Ytfhhjoblfnbnkaa.Pure
