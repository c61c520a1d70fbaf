-- WRITTEN BY xprint.py, a program of this session that drives the kit's printer.
import Derived.Test.YtjeahmlahkngaaaRows
import Derived.Test.YtjeahmlahkngaaaP17
import Derived.Test.YtjeahmlahkngaaaSHeightEnds
import Derived.Test.YtjeahmlahkngaaaPureHeightEnds
import Derived.Test.YtjeahmlahkngaaaEop
import Derived.Test.YtjeahmlahkngaaaEw
import Derived.WalkKit
import Derived.ProofKit
import Derived.OpenShut
import Derived.ShutString
import Derived.ChangeOld
import Derived.Below
import Derived.SizedLaws
namespace Go.Proofs.Ytjeahmlahkngaaa.heightEnds
open Go.ChangeShapes Go.WideShapes Go.ChangeAt Go.RowKit Go.Proofs.YtjeahmlahkngaaaW Go.Proofs.YtjeahmlahkngaaaW.PrintWords Go.Proofs.Ytjeahmlahkngaaa.P
open Go.ChangeMaps (open_string shut_string)
set_option linter.unusedVariables false
set_option linter.unusedSimpArgs false
theorem own : ownKnob Try.prog.godebug = none := by kernel_rfl
theorem laidOut : laidOutB Try.prog = true := by kernel_rfl
theorem opn23 : Opn.Opens Try.prog 23 k23 (fun x => (True ∧ (Lit.int .i64 x.f1).wf = true ∧ (Lit.int .i64 x.f2).wf = true ∧ (Lit.int .i64 x.f3).wf = true ∧ (Lit.int .i64 x.f4).wf = true ∧ (Lit.int .i64 x.f5).wf = true)) :=
  Opn.opens_iso (fun x : S23 => (x.f0, x.f1, x.f2, x.f3, x.f4, x.f5)) (fun a => ⟨a.1, a.2.1, a.2.2.1, a.2.2.2.1, a.2.2.2.2.1, a.2.2.2.2.2⟩) (fun _ => rfl) (Opn.opens_struct Try.underlying23 (by kernel_rfl) (by kernel_rfl) (Opn.opensL_cons (Opn.opens_bool Try.underlying4) (Opn.opensL_cons (Opn.opens_int Try.underlying3) (Opn.opensL_cons (Opn.opens_int Try.underlying3) (Opn.opensL_cons (Opn.opens_int Try.underlying3) (Opn.opensL_cons (Opn.opens_int Try.underlying3) (Opn.opensL_one (Opn.opens_int Try.underlying3))))))))
set_option maxRecDepth 100000 in
theorem lifted (os : Os) (started : os.Started) (H : Type) (enc : TypeId × Value → H) :
    ReturnsInHanded {} Try.checked os 6 .any (Rows.heightEndsSpec.pre6 enc Try.prog Try.f6 Rows.heightEndsRow.domain false) (Rows.heightEndsSpec.post enc Try.prog Try.f6 false true false false) := by
  refine returnsInHanded_of_change_sized (C := Try.checked) own started (by kernel_rfl) Try.func6
    (ChangeSpec.witness6 (enc := enc) (C := Try.checked) false ⟨#[], #[.slice none 0 0], []⟩ 8 (by kernel_rfl) (by kernel_rfl) (by kernel_rfl) (by kernel_rfl)) ?_
  intro W base args ds gs before hval0 hW hcnd hsz0 _
  have hval : ∀ (j : Nat) t v, Try.f6.params[j]? = some t → args[j]? = some v → Value.okWide Try.prog W .any base t v := hval0
  have hW' := hW
  obtain ⟨p, q, hA0, hV, rfl, hfz, hnd⟩ := hW
  have hA : DataW.TrodAll enc Try.prog W 0 (fun _ => true) true Try.f6.params.toList args.toList ds p := hA0
  rw [Try.params6] at hA hval
  obtain ⟨v0, vs0, d0, ds0, p0, q0, hargs, rfl, rfl, h0, r0⟩ := trodAll_cons hA
  obtain ⟨rfl, rfl, rfl⟩ := trodAll_nil r0
  obtain rfl : args = #[v0] := by cases args; simp_all
  obtain ⟨rfl, rfl⟩ := trodVars_none hV
  have k0 := h0
  have lt0 : ∀ x ∈ p0, x.block < W.heap.size := by obtain ⟨m, hm⟩ := k0; exact DataW.trod_lt m _ _ _ hm
  have hv0 := hval 0 41 v0 rfl rfl
  obtain ⟨a0, len0, cap0, rfl⟩ := okWide_slice Try.underlying41 (hval 0 41 v0 rfl rfl)
  obtain ⟨l0, K0, W0⟩ : ∃ l : List S23, (Kd.slice 23 k23).K W l [.slice a0 len0 cap0] ∧ (l.length ≤ maxLen ∧ ∀ x0_ ∈ l, (True ∧ (Lit.int .i64 x0_.f1).wf = true ∧ (Lit.int .i64 x0_.f2).wf = true ∧ (Lit.int .i64 x0_.f3).wf = true ∧ (Lit.int .i64 x0_.f4).wf = true ∧ (Lit.int .i64 x0_.f5).wf = true)) := by
    obtain ⟨fuel, hf⟩ := h0
    exact (Opn.opens_slice Try.underlying41 (by kernel_rfl) opn23) enc W 0 (fun _ => true) true fuel _ _ hf
  obtain ⟨A0, c0, E0, g0, C0⟩ := K0
  simp only [List.cons.injEq, Value.slice.injEq, and_true] at E0
  obtain ⟨rfl, rfl, rfl⟩ := E0
  obtain ⟨k, hk⟩ := Pure.HeightEnds l0 W0
  clear hA0 hval0 hsz0
  refine (thalweglaw02_HeightEnds.calls (k := k) (A0 := a0) (c0 := cap0) (l0 := l0) (r := true) (w := W) (hr0 := C0) (hc0 := g0) (h := hk) (hh := HasE.mk laidOut hv0 g0 C0)).mono fun e W' ⟨he, bel⟩ => ?_
  subst he
  exact ⟨_, rfl, _, _, _, [], _, [], hW', trodAll_mk1 (shut_bool Try.underlying4 _), (trodAll_cons_mk (Below.trod laidOut (by kernel_rfl) (of_decide_eq_true (by kernel_rfl)) k0 bel lt0) trodAll_mk0), rfl, bel.frame _, fun h => by cases h⟩
theorem over : Rows.heightEndsRow.holds Try.pinned (OpenSpec.ofChange Rows.heightEndsSpec) :=
  OpenClaim.holds_of_wide 6 Try.f6 rfl rfl rfl rfl rfl rfl rfl ⟨rfl, rfl, rfl, rfl, rfl⟩ rfl rfl rfl rfl rfl (by kernel_rfl) Try.func6 (by kernel_rfl)
    (of_decide_eq_true (by kernel_rfl)) (by unfold Func.isWrapper; first | (rw [if_pos (by decide +kernel)]; kernel_rfl) | (rw [if_neg (by decide +kernel)]; exact ⟨rfl, rfl⟩))
    (fun os started H enc _ => lifted os started H enc)
theorem proved : Rows.HeightEndsSaid := over
#print axioms proved
end Go.Proofs.Ytjeahmlahkngaaa.heightEnds
namespace Go.Proofs.Ytjeahmlahkngaaa
/-- The row, under a short name, for the claim. -/
theorem heightEnds_holds : Rows.HeightEndsSaid := heightEnds.proved
end Go.Proofs.Ytjeahmlahkngaaa
