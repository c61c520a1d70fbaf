/- BeaconReads: the plain law: what is parsed is what the reference parses. -/
import Derived.Test.YtaiklcpmlkpfjaaErb6
import Derived.Test.YtaiklcpmlkpfjaaP11
namespace Go.Proofs.Ytaiklcpmlkpfjaa.Pure
set_option linter.unusedSimpArgs false
set_option linter.unusedVariables false
open Go.RowKit Go.Proofs.Ytaiklcpmlkpfjaa.P Go.Proofs.YtaiklcpmlkpfjaaW.PrintWords Go.Proofs.YtaiklcpmlkpfjaaW.PrintLast Go.Proofs.YtaiklcpmlkpfjaaW.PrintMore
theorem BeaconReads : thalweglaw06_BeaconReads.Pure := by
  intro l a _ _ hB _
  have hB : Bytes l := bytes_of hB
  apply Ev.rounds
  unfold thalweglaw06_BeaconReads.f
  by_cases hl : (l.length : Int) > 500
  · simp only [if_pos hl]
    exact Ev.now _
  have hp : beacon_Parse.f l a = some (bnGo l a) := by unfold beacon_Parse.f; rw [if_pos ⟨by omega, hB⟩]
  simp only [if_neg hl, hp, Option.bind_some]
  refine Ev.bind (rparse_ev l a hB (by omega)) ?_
  refine Ev.bind awake06 ?_
  simp only [if_true]
  refine Ev.bind (bsame_ev _ _ (by have := bnGo_length l hB a; omega)) ?_
  simp only [if_true, beq_self_eq_true]
  exact Ev.now _
end Go.Proofs.Ytaiklcpmlkpfjaa.Pure
