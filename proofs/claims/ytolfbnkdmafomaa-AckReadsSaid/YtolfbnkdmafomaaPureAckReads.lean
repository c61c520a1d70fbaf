/- AckReads: the plain law: what is parsed is what the reference parses. -/
import Derived.Test.YtolfbnkdmafomaaEp07
import Derived.Test.YtolfbnkdmafomaaErack
import Derived.Test.YtolfbnkdmafomaaP24
namespace Go.Proofs.Ytolfbnkdmafomaa.Pure
set_option linter.unusedSimpArgs false
set_option linter.unusedVariables false
open Go.RowKit Go.Proofs.Ytolfbnkdmafomaa.P Go.Proofs.YtolfbnkdmafomaaW.PrintWords Go.Proofs.YtolfbnkdmafomaaW.PrintLast Go.Proofs.YtolfbnkdmafomaaW.PrintMore
theorem AckReads : thalweglaw07_AckReads.Pure := by
  intro l a _ _ hB _
  have hB : Bytes l := bytes_of hB
  apply Ev.rounds
  unfold thalweglaw07_AckReads.f
  by_cases hl : (l.length : Int) > 700
  · simp only [if_pos hl]
    exact Ev.now _
  have hp : ack_Parse.f l a = some (apSpec l a) := by unfold ack_Parse.f; rw [if_pos ⟨by omega, hB⟩]
  simp only [if_neg hl, hp, Option.bind_some]
  have hlen : (apSpec l a).1.length ≤ 1000 := by
    unfold apSpec
    split
    · have := apL_len l (getSpec l a 1).1.toNat [] (getSpec l a 1).2.1
      have := get1_range l a hB
      simp only [List.length_nil] at *
      omega
    · simp
  refine Ev.bind (rparse_ev l a hB (by omega)) (Ev.bind awake07 ?_)
  simp only [if_true]
  refine Ev.bind (same_ev _ (by omega)) ?_
  simp only [if_true, beq_self_eq_true]
  exact Ev.now _
end Go.Proofs.Ytolfbnkdmafomaa.Pure
