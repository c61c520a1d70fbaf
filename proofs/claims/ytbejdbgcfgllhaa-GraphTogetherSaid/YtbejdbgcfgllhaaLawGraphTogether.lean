-- WRITTEN BY xprint.py, a program of this session that drives the kit's printer.
import Derived.Test.YtbejdbgcfgllhaaRows
import Derived.Test.YtbejdbgcfgllhaaP20
import Derived.Test.YtbejdbgcfgllhaaSGraphTogether
import Derived.Test.YtbejdbgcfgllhaaPureGraphTogether
import Derived.Test.YtbejdbgcfgllhaaEop
import Derived.Test.YtbejdbgcfgllhaaEw
import Derived.WalkKit
import Derived.ProofKit
import Derived.OpenShut
import Derived.ShutString
import Derived.ChangeOld
import Derived.Below
import Derived.SizedLaws
namespace Go.Proofs.Ytbejdbgcfgllhaa.graphTogether
open Go.ChangeShapes Go.WideShapes Go.ChangeAt Go.RowKit Go.Proofs.YtbejdbgcfgllhaaW Go.Proofs.YtbejdbgcfgllhaaW.PrintWords Go.Proofs.Ytbejdbgcfgllhaa.P
open Go.ChangeMaps (open_string shut_string)
set_option linter.unusedVariables false
set_option linter.unusedSimpArgs false
theorem own : ownKnob Try.prog.godebug = none := by kernel_rfl
theorem laidOut : laidOutB Try.prog = true := by kernel_rfl
theorem opn36 : Opn.Opens Try.prog 36 k36 (fun x => ((Lit.int .i64 x.f0).wf = true ∧ (Lit.int .i64 x.f1).wf = true)) :=
  Opn.opens_iso (fun x : S36 => (x.f0, x.f1)) (fun a => ⟨a.1, a.2⟩) (fun _ => rfl) (Opn.opens_array Try.underlying36 (by kernel_rfl) (Opn.opensL_cons (Opn.opens_int Try.underlying3) (Opn.opensL_one (Opn.opens_int Try.underlying3))))
set_option maxRecDepth 100000 in
theorem lifted (os : Os) (started : os.Started) (H : Type) (enc : TypeId × Value → H) :
    ReturnsInHanded {} Try.checked os 5 .any (Rows.graphTogetherSpec.pre6 enc Try.prog Try.f5 Rows.graphTogetherRow.domain false) (Rows.graphTogetherSpec.post enc Try.prog Try.f5 false true false false) := by
  refine returnsInHanded_of_change_sized (C := Try.checked) own started (by kernel_rfl) Try.func5
    (ChangeSpec.witness6 (enc := enc) (C := Try.checked) false ⟨#[], #[.int .i64 0, .slice none 0 0], []⟩ 8 (by kernel_rfl) (by kernel_rfl) (by kernel_rfl) (by kernel_rfl)) ?_
  intro W base args ds gs before hval0 hW hcnd hsz0 _
  have hval : ∀ (j : Nat) t v, Try.f5.params[j]? = some t → args[j]? = some v → Value.okWide Try.prog W .any base t v := hval0
  have hW' := hW
  obtain ⟨p, q, hA0, hV, rfl, hfz, hnd⟩ := hW
  have hA : DataW.TrodAll enc Try.prog W 0 (fun _ => true) true Try.f5.params.toList args.toList ds p := hA0
  rw [Try.params5] at hA hval
  obtain ⟨v0, vs0, d0, ds0, p0, q0, hargs, rfl, rfl, h0, r0⟩ := trodAll_cons hA
  obtain ⟨v1, vs1, d1, ds1, p1, q1, rfl, rfl, rfl, h1, r1⟩ := trodAll_cons r0
  obtain ⟨rfl, rfl, rfl⟩ := trodAll_nil r1
  obtain rfl : args = #[v0, v1] := by cases args; simp_all
  obtain ⟨rfl, rfl⟩ := trodVars_none hV
  obtain ⟨a0, rfl, rfl, rfl, w0⟩ := open_int Try.underlying3 (hval 0 3 v0 rfl rfl) h0
  have k1 := h1
  have lt1 : ∀ x ∈ p1, x.block < W.heap.size := by obtain ⟨m, hm⟩ := k1; exact DataW.trod_lt m _ _ _ hm
  obtain ⟨a1, len1, cap1, rfl⟩ := okWide_slice Try.underlying28 (hval 1 28 v1 rfl rfl)
  obtain ⟨l1, K1, W1⟩ : ∃ l : List S36, (Kd.slice 36 k36).K W l [.slice a1 len1 cap1] ∧ (l.length ≤ maxLen ∧ ∀ x0_ ∈ l, ((Lit.int .i64 x0_.f0).wf = true ∧ (Lit.int .i64 x0_.f1).wf = true)) := by
    obtain ⟨fuel, hf⟩ := h1
    exact (Opn.opens_slice Try.underlying28 (by kernel_rfl) opn36) enc W 0 (fun _ => true) true fuel _ _ hf
  obtain ⟨A1, c1, E1, g1, C1⟩ := K1
  simp only [List.cons.injEq, Value.slice.injEq, and_true] at E1
  obtain ⟨rfl, rfl, rfl⟩ := E1
  obtain ⟨k, hk⟩ := Pure.GraphTogether a0 l1 w0 W1
  clear hA0 hval0 hsz0
  refine (thalweglaw25_GraphTogether.calls (k := k) (a0 := a0) (A1 := a1) (c1 := cap1) (l1 := l1) (r := true) (w := W) (hr1 := C1) (hc1 := g1) (h := hk)).mono fun e W' ⟨he, bel⟩ => ?_
  subst he
  exact ⟨_, rfl, _, _, _, [], _, [], hW', trodAll_mk1 (shut_bool Try.underlying4 _), (trodAll_cons_mk (shut_int Try.underlying3 w0) (trodAll_cons_mk (Below.trod laidOut (by kernel_rfl) (of_decide_eq_true (by kernel_rfl)) k1 bel lt1) trodAll_mk0)), rfl, bel.frame _, fun h => by cases h⟩
theorem over : Rows.graphTogetherRow.holds Try.pinned (OpenSpec.ofChange Rows.graphTogetherSpec) :=
  OpenClaim.holds_of_wide 5 Try.f5 rfl rfl rfl rfl rfl rfl rfl ⟨rfl, rfl, rfl, rfl, rfl⟩ rfl rfl rfl rfl rfl (by kernel_rfl) Try.func5 (by kernel_rfl)
    (of_decide_eq_true (by kernel_rfl)) (by unfold Func.isWrapper; first | (rw [if_pos (by decide +kernel)]; kernel_rfl) | (rw [if_neg (by decide +kernel)]; exact ⟨rfl, rfl⟩))
    (fun os started H enc _ => lifted os started H enc)
theorem proved : Rows.GraphTogetherSaid := over
#print axioms proved
end Go.Proofs.Ytbejdbgcfgllhaa.graphTogether
namespace Go.Proofs.Ytbejdbgcfgllhaa
/-- The row, under a short name, for the claim. -/
theorem graphTogether_holds : Rows.GraphTogetherSaid := graphTogether.proved
end Go.Proofs.Ytbejdbgcfgllhaa
