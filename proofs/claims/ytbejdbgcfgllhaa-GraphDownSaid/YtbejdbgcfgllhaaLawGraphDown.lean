-- WRITTEN BY xprint.py, a program of this session that drives the kit's printer.
import Derived.Test.YtbejdbgcfgllhaaRows
import Derived.Test.YtbejdbgcfgllhaaP30
import Derived.Test.YtbejdbgcfgllhaaSGraphDown
import Derived.Test.YtbejdbgcfgllhaaPureGraphDown
import Derived.Test.YtbejdbgcfgllhaaEop
import Derived.Test.YtbejdbgcfgllhaaEw
import Derived.WalkKit
import Derived.ProofKit
import Derived.OpenShut
import Derived.ShutString
import Derived.ChangeOld
import Derived.Below
import Derived.SizedLaws
namespace Go.Proofs.Ytbejdbgcfgllhaa.graphDown
open Go.ChangeShapes Go.WideShapes Go.ChangeAt Go.RowKit Go.Proofs.YtbejdbgcfgllhaaW Go.Proofs.YtbejdbgcfgllhaaW.PrintWords Go.Proofs.Ytbejdbgcfgllhaa.P
open Go.ChangeMaps (open_string shut_string)
set_option linter.unusedVariables false
set_option linter.unusedSimpArgs false
theorem own : ownKnob Try.prog.godebug = none := by kernel_rfl
theorem laidOut : laidOutB Try.prog = true := by kernel_rfl
theorem opn45 : Opn.Opens Try.prog 45 k45 (fun x => (True ∧ (Lit.int .i64 x.f1).wf = true ∧ (Lit.int .i64 x.f2).wf = true ∧ (Lit.int .i64 x.f3).wf = true ∧ (Lit.int .i64 x.f4).wf = true ∧ (Lit.int .i64 x.f5).wf = true)) :=
  Opn.opens_iso (fun x : S45 => (x.f0, x.f1, x.f2, x.f3, x.f4, x.f5)) (fun a => ⟨a.1, a.2.1, a.2.2.1, a.2.2.2.1, a.2.2.2.2.1, a.2.2.2.2.2⟩) (fun _ => rfl) (Opn.opens_struct Try.underlying45 (by kernel_rfl) (by kernel_rfl) (Opn.opensL_cons (Opn.opens_bool Try.underlying4) (Opn.opensL_cons (Opn.opens_int Try.underlying3) (Opn.opensL_cons (Opn.opens_int Try.underlying3) (Opn.opensL_cons (Opn.opens_int Try.underlying3) (Opn.opensL_cons (Opn.opens_int Try.underlying3) (Opn.opensL_one (Opn.opens_int Try.underlying3))))))))
theorem opn55 : Opn.Opens Try.prog 55 k55 (fun x => ((Lit.int .i64 x.f0).wf = true ∧ (True ∧ (Lit.int .i64 x.f1.f1).wf = true ∧ (Lit.int .i64 x.f1.f2).wf = true ∧ (Lit.int .i64 x.f1.f3).wf = true ∧ (Lit.int .i64 x.f1.f4).wf = true ∧ (Lit.int .i64 x.f1.f5).wf = true))) :=
  Opn.opens_iso (fun x : S55 => (x.f0, x.f1)) (fun a => ⟨a.1, a.2⟩) (fun _ => rfl) (Opn.opens_struct Try.underlying55 (by kernel_rfl) (by kernel_rfl) (Opn.opensL_cons (Opn.opens_int Try.underlying3) (Opn.opensL_one opn45)))
set_option maxRecDepth 100000 in
theorem lifted (os : Os) (started : os.Started) (H : Type) (enc : TypeId × Value → H) :
    ReturnsInHanded {} Try.checked os 7 .any (Rows.graphDownSpec.pre6 enc Try.prog Try.f7 Rows.graphDownRow.domain false) (Rows.graphDownSpec.post enc Try.prog Try.f7 false true false false) := by
  refine returnsInHanded_of_change_sized (C := Try.checked) own started (by kernel_rfl) Try.func7
    (ChangeSpec.witness6 (enc := enc) (C := Try.checked) false ⟨#[], #[.slice none 0 0, .slice none 0 0, .slice none 0 0], []⟩ 8 (by kernel_rfl) (by kernel_rfl) (by kernel_rfl) (by kernel_rfl)) ?_
  intro W base args ds gs before hval0 hW hcnd hsz0 _
  have hval : ∀ (j : Nat) t v, Try.f7.params[j]? = some t → args[j]? = some v → Value.okWide Try.prog W .any base t v := hval0
  have hW' := hW
  obtain ⟨p, q, hA0, hV, rfl, hfz, hnd⟩ := hW
  have hA : DataW.TrodAll enc Try.prog W 0 (fun _ => true) true Try.f7.params.toList args.toList ds p := hA0
  rw [Try.params7] at hA hval
  obtain ⟨v0, vs0, d0, ds0, p0, q0, hargs, rfl, rfl, h0, r0⟩ := trodAll_cons hA
  obtain ⟨v1, vs1, d1, ds1, p1, q1, rfl, rfl, rfl, h1, r1⟩ := trodAll_cons r0
  obtain ⟨v2, vs2, d2, ds2, p2, q2, rfl, rfl, rfl, h2, r2⟩ := trodAll_cons r1
  obtain ⟨rfl, rfl, rfl⟩ := trodAll_nil r2
  obtain rfl : args = #[v0, v1, v2] := by cases args; simp_all
  obtain ⟨rfl, rfl⟩ := trodVars_none hV
  have k0 := h0
  have lt0 : ∀ x ∈ p0, x.block < W.heap.size := by obtain ⟨m, hm⟩ := k0; exact DataW.trod_lt m _ _ _ hm
  obtain ⟨a0, len0, cap0, rfl⟩ := okWide_slice Try.underlying39 (hval 0 39 v0 rfl rfl)
  obtain ⟨l0, K0, W0⟩ : ∃ l : List S45, (Kd.slice 45 k45).K W l [.slice a0 len0 cap0] ∧ (l.length ≤ maxLen ∧ ∀ x0_ ∈ l, (True ∧ (Lit.int .i64 x0_.f1).wf = true ∧ (Lit.int .i64 x0_.f2).wf = true ∧ (Lit.int .i64 x0_.f3).wf = true ∧ (Lit.int .i64 x0_.f4).wf = true ∧ (Lit.int .i64 x0_.f5).wf = true)) := by
    obtain ⟨fuel, hf⟩ := h0
    exact (Opn.opens_slice Try.underlying39 (by kernel_rfl) opn45) enc W 0 (fun _ => true) true fuel _ _ hf
  obtain ⟨A0, c0, E0, g0, C0⟩ := K0
  simp only [List.cons.injEq, Value.slice.injEq, and_true] at E0
  obtain ⟨rfl, rfl, rfl⟩ := E0
  have k1 := h1
  have lt1 : ∀ x ∈ p1, x.block < W.heap.size := by obtain ⟨m, hm⟩ := k1; exact DataW.trod_lt m _ _ _ hm
  obtain ⟨a1, len1, cap1, rfl⟩ := okWide_slice Try.underlying40 (hval 1 40 v1 rfl rfl)
  obtain ⟨l1, K1, W1⟩ : ∃ l : List (List (S55)), (Kd.slice 41 (Kd.slice 55 k55)).K W l [.slice a1 len1 cap1] ∧ (l.length ≤ maxLen ∧ ∀ x0_ ∈ l, (x0_.length ≤ maxLen ∧ ∀ x1_ ∈ x0_, ((Lit.int .i64 x1_.f0).wf = true ∧ (True ∧ (Lit.int .i64 x1_.f1.f1).wf = true ∧ (Lit.int .i64 x1_.f1.f2).wf = true ∧ (Lit.int .i64 x1_.f1.f3).wf = true ∧ (Lit.int .i64 x1_.f1.f4).wf = true ∧ (Lit.int .i64 x1_.f1.f5).wf = true)))) := by
    obtain ⟨fuel, hf⟩ := h1
    exact (Opn.opens_slice Try.underlying40 (by kernel_rfl) (Opn.opens_slice Try.underlying41 (by kernel_rfl) opn55)) enc W 0 (fun _ => true) true fuel _ _ hf
  obtain ⟨A1, c1, E1, g1, C1⟩ := K1
  simp only [List.cons.injEq, Value.slice.injEq, and_true] at E1
  obtain ⟨rfl, rfl, rfl⟩ := E1
  have k2 := h2
  have lt2 : ∀ x ∈ p2, x.block < W.heap.size := by obtain ⟨m, hm⟩ := k2; exact DataW.trod_lt m _ _ _ hm
  obtain ⟨a2, len2, cap2, rfl⟩ := okWide_slice Try.underlying22 (hval 2 22 v2 rfl rfl)
  obtain ⟨l2, K2, W2⟩ : ∃ l : List Int, (Kd.slice 3 (Kd.int .i64)).K W l [.slice a2 len2 cap2] ∧ (l.length ≤ maxLen ∧ ∀ x0_ ∈ l, (Lit.int .i64 x0_).wf = true) := by
    obtain ⟨fuel, hf⟩ := h2
    exact (Opn.opens_slice Try.underlying22 (by kernel_rfl) (Opn.opens_int Try.underlying3)) enc W 0 (fun _ => true) true fuel _ _ hf
  obtain ⟨A2, c2, E2, g2, C2⟩ := K2
  simp only [List.cons.injEq, Value.slice.injEq, and_true] at E2
  obtain ⟨rfl, rfl, rfl⟩ := E2
  obtain ⟨k, hk⟩ := Pure.GraphDown l0 l1 l2 W0 W1 W2.1 W2.2
  clear hA0 hval0 hsz0
  refine (thalweglaw25_GraphDown.calls (k := k) (A0 := a0) (c0 := cap0) (l0 := l0) (A1 := a1) (c1 := cap1) (l1 := l1) (A2 := a2) (c2 := cap2) (l2 := l2) (r := true) (w := W) (hr0 := C0) (hc0 := g0) (hr1 := C1) (hc1 := g1) (hr2 := C2) (hc2 := g2) (h := hk)).mono fun e W' ⟨he, bel⟩ => ?_
  subst he
  exact ⟨_, rfl, _, _, _, [], _, [], hW', trodAll_mk1 (shut_bool Try.underlying4 _), (trodAll_cons_mk (Below.trod laidOut (by kernel_rfl) (of_decide_eq_true (by kernel_rfl)) k0 bel lt0) (trodAll_cons_mk (Below.trod laidOut (by kernel_rfl) (of_decide_eq_true (by kernel_rfl)) k1 bel lt1) (trodAll_cons_mk (Below.trod laidOut (by kernel_rfl) (of_decide_eq_true (by kernel_rfl)) k2 bel lt2) trodAll_mk0))), rfl, bel.frame _, fun h => by cases h⟩
theorem over : Rows.graphDownRow.holds Try.pinned (OpenSpec.ofChange Rows.graphDownSpec) :=
  OpenClaim.holds_of_wide 7 Try.f7 rfl rfl rfl rfl rfl rfl rfl ⟨rfl, rfl, rfl, rfl, rfl⟩ rfl rfl rfl rfl rfl (by kernel_rfl) Try.func7 (by kernel_rfl)
    (of_decide_eq_true (by kernel_rfl)) (by unfold Func.isWrapper; first | (rw [if_pos (by decide +kernel)]; kernel_rfl) | (rw [if_neg (by decide +kernel)]; exact ⟨rfl, rfl⟩))
    (fun os started H enc _ => lifted os started H enc)
theorem proved : Rows.GraphDownSaid := over
#print axioms proved
end Go.Proofs.Ytbejdbgcfgllhaa.graphDown
namespace Go.Proofs.Ytbejdbgcfgllhaa
/-- The row, under a short name, for the claim. -/
theorem graphDown_holds : Rows.GraphDownSaid := graphDown.proved
end Go.Proofs.Ytbejdbgcfgllhaa
