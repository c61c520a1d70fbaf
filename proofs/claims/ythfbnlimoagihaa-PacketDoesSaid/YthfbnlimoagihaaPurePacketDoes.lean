/- PacketDoes: the plain law: what packet answers is what the reference answers. -/
import Derived.Test.YthfbnlimoagihaaEp08
import Derived.Test.YthfbnlimoagihaaSPacketDoes
import Derived.Test.YthfbnlimoagihaaP6
namespace Go.Proofs.Ythfbnlimoagihaa.Pure
set_option linter.unusedSimpArgs false
set_option linter.unusedVariables false
open Go.RowKit Go.Proofs.Ythfbnlimoagihaa.P Go.Proofs.YthfbnlimoagihaaW.PrintWords Go.Proofs.YthfbnlimoagihaaW.PrintLast Go.Proofs.YthfbnlimoagihaaW.PrintMore
theorem does_ev (a b c d : Int) (s : ByteArray) : Ev (fun k => thalweglaw08_PacketDoes.f k a b c d s) true := by
  unfold thalweglaw08_PacketDoes.f
  by_cases hs : (s.size : Int) > 600
  · simp only [if_pos hs]
    exact Ev.now _
  simp only [if_neg hs, hop_eq, rhop_eq, pc_eq, rr8_eq, Option.bind_some, beq_self_eq_true, Bool.and_self, if_true]
  by_cases h : RP a b c d s
  · refine Ev.bind (pb_eq _ _ _ _ _ h) (Ev.bind (rpb_eq _ _ _ _ _ h) (Ev.bind awake08 ?_))
    simp only [if_pos h, decide_eq_true h, if_true, beq_self_eq_true]
    exact Ev.now _
  · refine Ev.bind (pb_no _ _ _ _ _ h) (Ev.bind (rpb_no _ _ _ _ _ h) (Ev.bind awake08 ?_))
    simp only [if_neg h, decide_eq_false h, show (((1 : Int) == 0) == false) = true by decide, if_true, beq_self_eq_true]
    exact Ev.now _
theorem PacketDoes : thalweglaw08_PacketDoes.Pure := fun x _ => Ev.rounds (does_ev _ _ _ _ _)
end Go.Proofs.Ythfbnlimoagihaa.Pure
