-- WRITTEN BY xprint.py, a program of this session that drives the kit's printer.
import Derived.Test.YtbejdbgcfgllhaaRows
import Derived.Test.YtbejdbgcfgllhaaP19
import Derived.Test.YtbejdbgcfgllhaaSGraphTells
import Derived.Test.YtbejdbgcfgllhaaPureGraphTells
import Derived.Test.YtbejdbgcfgllhaaEop
import Derived.Test.YtbejdbgcfgllhaaEw
import Derived.WalkKit
import Derived.ProofKit
import Derived.OpenShut
import Derived.ShutString
import Derived.ChangeOld
import Derived.Below
import Derived.SizedLaws
namespace Go.Proofs.Ytbejdbgcfgllhaa.graphTells
open Go.ChangeShapes Go.WideShapes Go.ChangeAt Go.RowKit Go.Proofs.YtbejdbgcfgllhaaW Go.Proofs.YtbejdbgcfgllhaaW.PrintWords Go.Proofs.Ytbejdbgcfgllhaa.P
open Go.ChangeMaps (open_string shut_string)
set_option linter.unusedVariables false
set_option linter.unusedSimpArgs false
theorem own : ownKnob Try.prog.godebug = none := by kernel_rfl
theorem laidOut : laidOutB Try.prog = true := by kernel_rfl
theorem opn36 : Opn.Opens Try.prog 36 k36 (fun x => ((Lit.int .i64 x.f0).wf = true ∧ (Lit.int .i64 x.f1).wf = true)) :=
  Opn.opens_iso (fun x : S36 => (x.f0, x.f1)) (fun a => ⟨a.1, a.2⟩) (fun _ => rfl) (Opn.opens_array Try.underlying36 (by kernel_rfl) (Opn.opensL_cons (Opn.opens_int Try.underlying3) (Opn.opensL_one (Opn.opens_int Try.underlying3))))
set_option maxRecDepth 100000 in
theorem lifted (os : Os) (started : os.Started) (H : Type) (enc : TypeId × Value → H) :
    ReturnsInHanded {} Try.checked os 4 .any (Rows.graphTellsSpec.pre6 enc Try.prog Try.f4 Rows.graphTellsRow.domain false) (Rows.graphTellsSpec.post enc Try.prog Try.f4 false true false false) := by
  refine returnsInHanded_of_change_sized (C := Try.checked) own started (by kernel_rfl) Try.func4
    (ChangeSpec.witness6 (enc := enc) (C := Try.checked) false ⟨#[], #[.int .i64 0, .slice none 0 0, .int .i64 0, .slice none 0 0, .int .i64 0], []⟩ 8 (by kernel_rfl) (by kernel_rfl) (by kernel_rfl) (by kernel_rfl)) ?_
  intro W base args ds gs before hval0 hW hcnd hsz0 _
  have hval : ∀ (j : Nat) t v, Try.f4.params[j]? = some t → args[j]? = some v → Value.okWide Try.prog W .any base t v := hval0
  have hW' := hW
  obtain ⟨p, q, hA0, hV, rfl, hfz, hnd⟩ := hW
  have hA : DataW.TrodAll enc Try.prog W 0 (fun _ => true) true Try.f4.params.toList args.toList ds p := hA0
  rw [Try.params4] at hA hval
  obtain ⟨v0, vs0, d0, ds0, p0, q0, hargs, rfl, rfl, h0, r0⟩ := trodAll_cons hA
  obtain ⟨v1, vs1, d1, ds1, p1, q1, rfl, rfl, rfl, h1, r1⟩ := trodAll_cons r0
  obtain ⟨v2, vs2, d2, ds2, p2, q2, rfl, rfl, rfl, h2, r2⟩ := trodAll_cons r1
  obtain ⟨v3, vs3, d3, ds3, p3, q3, rfl, rfl, rfl, h3, r3⟩ := trodAll_cons r2
  obtain ⟨v4, vs4, d4, ds4, p4, q4, rfl, rfl, rfl, h4, r4⟩ := trodAll_cons r3
  obtain ⟨rfl, rfl, rfl⟩ := trodAll_nil r4
  obtain rfl : args = #[v0, v1, v2, v3, v4] := by cases args; simp_all
  obtain ⟨rfl, rfl⟩ := trodVars_none hV
  obtain ⟨a0, rfl, rfl, rfl, w0⟩ := open_int Try.underlying3 (hval 0 3 v0 rfl rfl) h0
  have k1 := h1
  have lt1 : ∀ x ∈ p1, x.block < W.heap.size := by obtain ⟨m, hm⟩ := k1; exact DataW.trod_lt m _ _ _ hm
  obtain ⟨a1, len1, cap1, rfl⟩ := okWide_slice Try.underlying28 (hval 1 28 v1 rfl rfl)
  obtain ⟨l1, K1, W1⟩ : ∃ l : List S36, (Kd.slice 36 k36).K W l [.slice a1 len1 cap1] ∧ (l.length ≤ maxLen ∧ ∀ x0_ ∈ l, ((Lit.int .i64 x0_.f0).wf = true ∧ (Lit.int .i64 x0_.f1).wf = true)) := by
    obtain ⟨fuel, hf⟩ := h1
    exact (Opn.opens_slice Try.underlying28 (by kernel_rfl) opn36) enc W 0 (fun _ => true) true fuel _ _ hf
  obtain ⟨A1, c1, E1, g1, C1⟩ := K1
  simp only [List.cons.injEq, Value.slice.injEq, and_true] at E1
  obtain ⟨rfl, rfl, rfl⟩ := E1
  obtain ⟨a2, rfl, rfl, rfl, w2⟩ := open_int Try.underlying3 (hval 2 3 v2 rfl rfl) h2
  have k3 := h3
  have lt3 : ∀ x ∈ p3, x.block < W.heap.size := by obtain ⟨m, hm⟩ := k3; exact DataW.trod_lt m _ _ _ hm
  obtain ⟨a3, len3, cap3, rfl⟩ := okWide_slice Try.underlying22 (hval 3 22 v3 rfl rfl)
  obtain ⟨l3, K3, W3⟩ : ∃ l : List Int, (Kd.slice 3 (Kd.int .i64)).K W l [.slice a3 len3 cap3] ∧ (l.length ≤ maxLen ∧ ∀ x0_ ∈ l, (Lit.int .i64 x0_).wf = true) := by
    obtain ⟨fuel, hf⟩ := h3
    exact (Opn.opens_slice Try.underlying22 (by kernel_rfl) (Opn.opens_int Try.underlying3)) enc W 0 (fun _ => true) true fuel _ _ hf
  obtain ⟨A3, c3, E3, g3, C3⟩ := K3
  simp only [List.cons.injEq, Value.slice.injEq, and_true] at E3
  obtain ⟨rfl, rfl, rfl⟩ := E3
  obtain ⟨a4, rfl, rfl, rfl, w4⟩ := open_int Try.underlying3 (hval 4 3 v4 rfl rfl) h4
  obtain ⟨k, hk⟩ := Pure.GraphTells a0 l1 a2 l3 a4 w0 W1 w2 W3.1 W3.2 w4
  clear hA0 hval0 hsz0
  refine (thalweglaw25_GraphTells.calls (k := k) (a0 := a0) (A1 := a1) (c1 := cap1) (l1 := l1) (a2 := a2) (A3 := a3) (c3 := cap3) (l3 := l3) (a4 := a4) (r := true) (w := W) (hr1 := C1) (hc1 := g1) (hr3 := C3) (hc3 := g3) (h := hk)).mono fun e W' ⟨he, bel⟩ => ?_
  subst he
  exact ⟨_, rfl, _, _, _, [], _, [], hW', trodAll_mk1 (shut_bool Try.underlying4 _), (trodAll_cons_mk (shut_int Try.underlying3 w0) (trodAll_cons_mk (Below.trod laidOut (by kernel_rfl) (of_decide_eq_true (by kernel_rfl)) k1 bel lt1) (trodAll_cons_mk (shut_int Try.underlying3 w2) (trodAll_cons_mk (Below.trod laidOut (by kernel_rfl) (of_decide_eq_true (by kernel_rfl)) k3 bel lt3) (trodAll_cons_mk (shut_int Try.underlying3 w4) trodAll_mk0))))), rfl, bel.frame _, fun h => by cases h⟩
theorem over : Rows.graphTellsRow.holds Try.pinned (OpenSpec.ofChange Rows.graphTellsSpec) :=
  OpenClaim.holds_of_wide 4 Try.f4 rfl rfl rfl rfl rfl rfl rfl ⟨rfl, rfl, rfl, rfl, rfl⟩ rfl rfl rfl rfl rfl (by kernel_rfl) Try.func4 (by kernel_rfl)
    (of_decide_eq_true (by kernel_rfl)) (by unfold Func.isWrapper; first | (rw [if_pos (by decide +kernel)]; kernel_rfl) | (rw [if_neg (by decide +kernel)]; exact ⟨rfl, rfl⟩))
    (fun os started H enc _ => lifted os started H enc)
theorem proved : Rows.GraphTellsSaid := over
#print axioms proved
end Go.Proofs.Ytbejdbgcfgllhaa.graphTells
namespace Go.Proofs.Ytbejdbgcfgllhaa
/-- The row, under a short name, for the claim. -/
theorem graphTells_holds : Rows.GraphTellsSaid := graphTells.proved
end Go.Proofs.Ytbejdbgcfgllhaa
