/- HeightDoes: the heights' functions answer as the document does; the plain law. -/
import Derived.Test.YtjeahmlahkngaaaErh
import Derived.Test.YtjeahmlahkngaaaSHeightDoes
import Derived.Test.YtjeahmlahkngaaaP21
namespace Go.Proofs.Ytjeahmlahkngaaa.Pure
set_option linter.unusedSimpArgs false
set_option linter.unusedVariables false
open Go.RowKit Go.Proofs.Ytjeahmlahkngaaa.P Go.Proofs.YtjeahmlahkngaaaW.PrintWords Go.Proofs.YtjeahmlahkngaaaW.PrintLast Go.Proofs.YtjeahmlahkngaaaW.PrintMore
theorem at_same (a b c d e : Int) : ∃ t, Ev (fun k => height_At.f k a b c d e) t ∧ Ev (fun k => thalwegref02_At.f k a b c d e) t := by
  by_cases h : RH false a b c d e
  · exact ⟨_, at_eq _ _ _ _ _ h, rat_eq _ _ _ _ _ h⟩
  · exact ⟨_, at_no _ _ _ _ _ h, rat_no _ _ _ _ _ h⟩
theorem bytes_same (n : Bool) (a b c d e : Int) (wa : (Lit.int .i64 a).wf = true) (wd : (Lit.int .i64 d).wf = true) : ∃ t, Ev (fun k => height_Bytes.f k n a b c d e) t ∧ Ev (fun k => thalwegref02_Bytes.f k n a b c d e) t := by
  by_cases h : RH n a b c d e
  · exact ⟨_, hb_eq _ _ _ _ _ _ h, rb_eq _ _ _ _ _ _ h wa wd⟩
  · exact ⟨_, hb_no _ _ _ _ _ _ h, rb_no _ _ _ _ _ _ h⟩
theorem hdoes_ev (n : Bool) (a b c d e : Int) (n' : Bool) (a' b' c' d' e' : Int) (u v w x y : Int) (wa : (Lit.int .i64 a).wf = true) (wd : (Lit.int .i64 d).wf = true) :
    Ev (fun k => thalweglaw02_HeightDoes.f k n a b c d e n' a' b' c' d' e' u v w x y) true := by
  obtain ⟨t, ht, ht'⟩ := at_same u v w x y
  obtain ⟨s, hs, hs'⟩ := bytes_same n a b c d e wa wd
  have hq : (((if RH n a b c d e then (0 : Int) else 1) == 0) == decide (RH n a b c d e)) = true := by
    by_cases h : RH n a b c d e
    · rw [if_pos h, decide_eq_true h]; rfl
    · rw [if_neg h, decide_eq_false h]; rfl
  unfold thalweglaw02_HeightDoes.f
  refine Ev.bind ht (Ev.bind ht' (Ev.bind hs (Ev.bind hs' (Ev.bind (hc_eq n a b c d e) (Ev.bind (rr_eq n a b c d e) ?_)))))
  simp only [hq, if_true]
  refine Ev.bind (less_eq n a b c d e n' a' b' c' d' e') (Ev.bind (rless_eq n a b c d e n' a' b' c' d' e') ?_)
  simp only [beq_self_eq_true, if_true]
  refine Ev.bind (level_eq n a b c d e) (Ev.bind (rlevel_eq n a b c d e) ?_)
  simp only [beq_self_eq_true, Bool.and_self, if_true]
  refine Ev.bind (level_eq n' a' b' c' d' e') (Ev.bind (order_eq _ _ _ _ _ _) (Ev.bind (rlevel_eq n' a' b' c' d' e') (Ev.bind (rorder_eq _ _ _ _ _ _) ?_)))
  simp only [beq_self_eq_true]
  refine Ev.step (f := fun k => _) (fun k => by simp only [thalweglaw02_HeightDoes.j0]; rfl) ?_
  refine Ev.bind awake02 ?_
  simp only [if_true, height_Null.f, thalwegref02_Null.f, height_Zero.f, thalwegref02_Zero.f, Option.bind_some, beq_self_eq_true, Bool.and_self]
  exact Ev.now _
theorem HeightDoes : thalweglaw02_HeightDoes.Pure := fun x _ _ _ _ h _ _ _ _ => Ev.rounds (hdoes_ev _ _ _ _ _ _ _ _ _ _ _ _ _ _ _ _ _ h.2.1 h.2.2.2.2.1)
end Go.Proofs.Ytjeahmlahkngaaa.Pure
