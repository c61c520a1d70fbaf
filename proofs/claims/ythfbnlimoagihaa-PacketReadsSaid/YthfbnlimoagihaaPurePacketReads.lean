/- PacketReads: the plain law: what is parsed is what the reference parses. -/
import Derived.Test.YthfbnlimoagihaaEr08
import Derived.Test.YthfbnlimoagihaaP12
namespace Go.Proofs.Ythfbnlimoagihaa.Pure
set_option linter.unusedSimpArgs false
set_option linter.unusedVariables false
open Go.RowKit Go.Proofs.Ythfbnlimoagihaa.P Go.Proofs.YthfbnlimoagihaaW.PrintWords Go.Proofs.YthfbnlimoagihaaW.PrintLast Go.Proofs.YthfbnlimoagihaaW.PrintMore
theorem PacketReads : thalweglaw08_PacketReads.Pure := by
  intro l a _ _ hB _
  have hB : Bytes l := bytes_of hB
  apply Ev.rounds
  unfold thalweglaw08_PacketReads.f
  by_cases hl : (l.length : Int) > 500
  · simp only [if_pos hl]
    exact Ev.now _
  simp only [if_neg hl, parse_eq l a hB (by omega), Option.bind_some]
  refine Ev.bind (rparse_ev l a hB (by omega)) (Ev.bind awake08 ?_)
  simp only [if_true, beq_self_eq_true, Bool.and_self]
  exact Ev.now _
end Go.Proofs.Ythfbnlimoagihaa.Pure
