-- WRITTEN BY xprint.py, a program of this session that drives the kit's printer.
import Derived.Test.YtfhhjoblfnbnkaaRows
import Derived.Test.YtfhhjoblfnbnkaaP12
import Derived.Test.YtfhhjoblfnbnkaaSWireBack
import Derived.Test.YtfhhjoblfnbnkaaPureWireBack
import Derived.Test.YtfhhjoblfnbnkaaEop
import Derived.Test.YtfhhjoblfnbnkaaEw
import Derived.WalkKit
import Derived.ProofKit
import Derived.OpenShut
import Derived.ShutString
import Derived.ChangeOld
import Derived.Below
import Derived.SizedLaws
namespace Go.Proofs.Ytfhhjoblfnbnkaa.wireBack
open Go.ChangeShapes Go.WideShapes Go.ChangeAt Go.RowKit Go.Proofs.YtfhhjoblfnbnkaaW Go.Proofs.YtfhhjoblfnbnkaaW.PrintWords Go.Proofs.Ytfhhjoblfnbnkaa.P
open Go.ChangeMaps (open_string shut_string)
set_option linter.unusedVariables false
set_option linter.unusedSimpArgs false
theorem own : ownKnob Try.prog.godebug = none := by kernel_rfl
theorem laidOut : laidOutB Try.prog = true := by kernel_rfl
set_option maxRecDepth 100000 in
theorem lifted (os : Os) (started : os.Started) (H : Type) (enc : TypeId × Value → H) :
    ReturnsInHanded {} Try.checked os 5 .any (Rows.wireBackSpec.pre6 enc Try.prog Try.f5 Rows.wireBackRow.domain false) (Rows.wireBackSpec.post enc Try.prog Try.f5 false true false false) := by
  refine returnsInHanded_of_change_sized (C := Try.checked) own started (by kernel_rfl) Try.func5
    (ChangeSpec.witness6 (enc := enc) (C := Try.checked) false ⟨#[], #[.int .i64 0, .int .i64 0, .slice none 0 0, .slice none 0 0], []⟩ 8 (by kernel_rfl) (by kernel_rfl) (by kernel_rfl) (by kernel_rfl)) ?_
  intro W base args ds gs before hval0 hW hcnd hsz0 _
  have hval : ∀ (j : Nat) t v, Try.f5.params[j]? = some t → args[j]? = some v → Value.okWide Try.prog W .any base t v := hval0
  have hW' := hW
  obtain ⟨p, q, hA0, hV, rfl, hfz, hnd⟩ := hW
  have hA : DataW.TrodAll enc Try.prog W 0 (fun _ => true) true Try.f5.params.toList args.toList ds p := hA0
  rw [Try.params5] at hA hval
  obtain ⟨v0, vs0, d0, ds0, p0, q0, hargs, rfl, rfl, h0, r0⟩ := trodAll_cons hA
  obtain ⟨v1, vs1, d1, ds1, p1, q1, rfl, rfl, rfl, h1, r1⟩ := trodAll_cons r0
  obtain ⟨v2, vs2, d2, ds2, p2, q2, rfl, rfl, rfl, h2, r2⟩ := trodAll_cons r1
  obtain ⟨v3, vs3, d3, ds3, p3, q3, rfl, rfl, rfl, h3, r3⟩ := trodAll_cons r2
  obtain ⟨rfl, rfl, rfl⟩ := trodAll_nil r3
  obtain rfl : args = #[v0, v1, v2, v3] := by cases args; simp_all
  obtain ⟨rfl, rfl⟩ := trodVars_none hV
  obtain ⟨a0, rfl, rfl, rfl, w0⟩ := open_int Try.underlying3 (hval 0 3 v0 rfl rfl) h0
  obtain ⟨a1, rfl, rfl, rfl, w1⟩ := open_int Try.underlying3 (hval 1 3 v1 rfl rfl) h1
  have k2 := h2
  have lt2 : ∀ x ∈ p2, x.block < W.heap.size := by obtain ⟨m, hm⟩ := k2; exact DataW.trod_lt m _ _ _ hm
  obtain ⟨a2, len2, cap2, rfl⟩ := okWide_slice Try.underlying22 (hval 2 22 v2 rfl rfl)
  obtain ⟨l2, K2, W2⟩ : ∃ l : List Int, (Kd.slice 5 (Kd.int .u8)).K W l [.slice a2 len2 cap2] ∧ (l.length ≤ maxLen ∧ ∀ x0_ ∈ l, (Lit.int .u8 x0_).wf = true) := by
    obtain ⟨fuel, hf⟩ := h2
    exact (Opn.opens_slice Try.underlying22 (by kernel_rfl) (Opn.opens_int Try.underlying5)) enc W 0 (fun _ => true) true fuel _ _ hf
  obtain ⟨A2, c2, E2, g2, C2⟩ := K2
  simp only [List.cons.injEq, Value.slice.injEq, and_true] at E2
  obtain ⟨rfl, rfl, rfl⟩ := E2
  have k3 := h3
  have lt3 : ∀ x ∈ p3, x.block < W.heap.size := by obtain ⟨m, hm⟩ := k3; exact DataW.trod_lt m _ _ _ hm
  obtain ⟨a3, len3, cap3, rfl⟩ := okWide_slice Try.underlying22 (hval 3 22 v3 rfl rfl)
  obtain ⟨l3, K3, W3⟩ : ∃ l : List Int, (Kd.slice 5 (Kd.int .u8)).K W l [.slice a3 len3 cap3] ∧ (l.length ≤ maxLen ∧ ∀ x0_ ∈ l, (Lit.int .u8 x0_).wf = true) := by
    obtain ⟨fuel, hf⟩ := h3
    exact (Opn.opens_slice Try.underlying22 (by kernel_rfl) (Opn.opens_int Try.underlying5)) enc W 0 (fun _ => true) true fuel _ _ hf
  obtain ⟨A3, c3, E3, g3, C3⟩ := K3
  simp only [List.cons.injEq, Value.slice.injEq, and_true] at E3
  obtain ⟨rfl, rfl, rfl⟩ := E3
  obtain ⟨k, hk⟩ := Pure.WireBack a0 a1 l2 l3 w0 w1 W2.1 W2.2 W3.1 W3.2
  clear hA0 hval0 hsz0
  refine (thalweglaw01_WireBack.calls (k := k) (a0 := a0) (a1 := a1) (P2_ := fun _ => True) (A2 := a2) (c2 := cap2) (l2 := l2) (P3_ := fun _ => True) (A3 := a3) (c3 := cap3) (l3 := l3) (r := true) (w := W) (hs2 := (Kd.V_mk g2 (Kd.F_mono (Kd.C_F (Kd.heap_int _) C2) (fun _ _ => trivial)))) (hs3 := (Kd.V_mk g3 (Kd.F_mono (Kd.C_F (Kd.heap_int _) C3) (fun _ _ => trivial)))) (h := hk)).mono fun e W' ⟨he, bel⟩ => ?_
  subst he
  exact ⟨_, rfl, _, _, _, [], _, [], hW', trodAll_mk1 (shut_bool Try.underlying4 _), (trodAll_cons_mk (shut_int Try.underlying3 w0) (trodAll_cons_mk (shut_int Try.underlying3 w1) (trodAll_cons_mk (Below.trod laidOut (by kernel_rfl) (of_decide_eq_true (by kernel_rfl)) k2 bel lt2) (trodAll_cons_mk (Below.trod laidOut (by kernel_rfl) (of_decide_eq_true (by kernel_rfl)) k3 bel lt3) trodAll_mk0)))), rfl, bel.frame _, fun h => by cases h⟩
theorem over : Rows.wireBackRow.holds Try.pinned (OpenSpec.ofChange Rows.wireBackSpec) :=
  OpenClaim.holds_of_wide 5 Try.f5 rfl rfl rfl rfl rfl rfl rfl ⟨rfl, rfl, rfl, rfl, rfl⟩ rfl rfl rfl rfl rfl (by kernel_rfl) Try.func5 (by kernel_rfl)
    (of_decide_eq_true (by kernel_rfl)) (by unfold Func.isWrapper; first | (rw [if_pos (by decide +kernel)]; kernel_rfl) | (rw [if_neg (by decide +kernel)]; exact ⟨rfl, rfl⟩))
    (fun os started H enc _ => lifted os started H enc)
theorem proved : Rows.WireBackSaid := over
#print axioms proved
end Go.Proofs.Ytfhhjoblfnbnkaa.wireBack
namespace Go.Proofs.Ytfhhjoblfnbnkaa
/-- The row, under a short name, for the claim. -/
theorem wireBack_holds : Rows.WireBackSaid := wireBack.proved
end Go.Proofs.Ytfhhjoblfnbnkaa
