-- WRITTEN BY xprint.py, a program of this session that drives the kit's printer.
import Derived.Test.YthfbnlimoagihaaRows
import Derived.Test.YthfbnlimoagihaaP8
import Derived.Test.YthfbnlimoagihaaSPacketApart
import Derived.Test.YthfbnlimoagihaaPurePacketApart
import Derived.Test.YthfbnlimoagihaaEop
import Derived.Test.YthfbnlimoagihaaEw
import Derived.WalkKit
import Derived.ProofKit
import Derived.OpenShut
import Derived.ShutString
import Derived.ChangeOld
import Derived.Below
import Derived.SizedLaws
namespace Go.Proofs.Ythfbnlimoagihaa.packetApart
open Go.ChangeShapes Go.WideShapes Go.ChangeAt Go.RowKit Go.Proofs.YthfbnlimoagihaaW Go.Proofs.YthfbnlimoagihaaW.PrintWords Go.Proofs.Ythfbnlimoagihaa.P
open Go.ChangeMaps (open_string shut_string)
set_option linter.unusedVariables false
set_option linter.unusedSimpArgs false
theorem own : ownKnob Try.prog.godebug = none := by kernel_rfl
theorem laidOut : laidOutB Try.prog = true := by kernel_rfl
theorem opn23 : Opn.Opens Try.prog 23 k23 (fun x => ((Lit.int .i64 x.f0).wf = true ∧ (Lit.int .i64 x.f1).wf = true ∧ (Lit.int .i64 x.f2).wf = true ∧ (Lit.int .i64 x.f3).wf = true ∧ x.f4.size ≤ maxLen)) :=
  Opn.opens_iso (fun x : S23 => (x.f0, x.f1, x.f2, x.f3, x.f4)) (fun a => ⟨a.1, a.2.1, a.2.2.1, a.2.2.2.1, a.2.2.2.2⟩) (fun _ => rfl) (Opn.opens_struct Try.underlying23 (by kernel_rfl) (by kernel_rfl) (Opn.opensL_cons (Opn.opens_int Try.underlying3) (Opn.opensL_cons (Opn.opens_int Try.underlying3) (Opn.opensL_cons (Opn.opens_int Try.underlying3) (Opn.opensL_cons (Opn.opens_int Try.underlying3) (Opn.opensL_one (Opn.opens_string Try.underlying9)))))))
set_option maxRecDepth 100000 in
theorem lifted (os : Os) (started : os.Started) (H : Type) (enc : TypeId × Value → H) :
    ReturnsInHanded {} Try.checked os 5 .any (Rows.packetApartSpec.pre6 enc Try.prog Try.f5 Rows.packetApartRow.domain false) (Rows.packetApartSpec.post enc Try.prog Try.f5 false true false false) := by
  refine returnsInHanded_of_change_sized (C := Try.checked) own started (by kernel_rfl) Try.func5
    (ChangeSpec.witness6 (enc := enc) (C := Try.checked) false ⟨#[], #[.agg #[(.int .i64 0), (.int .i64 0), (.int .i64 0), (.int .i64 0), (.string ⟨#[]⟩)], .agg #[(.int .i64 0), (.int .i64 0), (.int .i64 0), (.int .i64 0), (.string ⟨#[]⟩)]], []⟩ 8 (by kernel_rfl) (by kernel_rfl) (by kernel_rfl) (by kernel_rfl)) ?_
  intro W base args ds gs before hval0 hW hcnd hsz0 _
  have hval : ∀ (j : Nat) t v, Try.f5.params[j]? = some t → args[j]? = some v → Value.okWide Try.prog W .any base t v := hval0
  have hW' := hW
  obtain ⟨p, q, hA0, hV, rfl, hfz, hnd⟩ := hW
  have hA : DataW.TrodAll enc Try.prog W 0 (fun _ => true) true Try.f5.params.toList args.toList ds p := hA0
  rw [Try.params5] at hA hval
  obtain ⟨v0, vs0, d0, ds0, p0, q0, hargs, rfl, rfl, h0, r0⟩ := trodAll_cons hA
  obtain ⟨v1, vs1, d1, ds1, p1, q1, rfl, rfl, rfl, h1, r1⟩ := trodAll_cons r0
  obtain ⟨rfl, rfl, rfl⟩ := trodAll_nil r1
  obtain rfl : args = #[v0, v1] := by cases args; simp_all
  obtain ⟨rfl, rfl⟩ := trodVars_none hV
  have k0 := h0
  have lt0 : ∀ x ∈ p0, x.block < W.heap.size := by obtain ⟨m, hm⟩ := k0; exact DataW.trod_lt m _ _ _ hm
  obtain ⟨cs0, hv0, _⟩ := okWide_struct Try.underlying23 (hval 0 23 v0 rfl rfl)
  subst hv0
  obtain ⟨x0, K0, W0⟩ : ∃ x : S23, k23.K W x cs0.toList ∧ ((Lit.int .i64 x.f0).wf = true ∧ (Lit.int .i64 x.f1).wf = true ∧ (Lit.int .i64 x.f2).wf = true ∧ (Lit.int .i64 x.f3).wf = true ∧ x.f4.size ≤ maxLen) := by
    obtain ⟨fuel, hf⟩ := h0
    exact opn23 enc W 0 (fun _ => true) true fuel _ _ hf
  have E0 := k23_open K0
  obtain ⟨cl0⟩ := cs0
  have E0' : cl0 = _ := E0
  subst E0'
  have k1 := h1
  have lt1 : ∀ x ∈ p1, x.block < W.heap.size := by obtain ⟨m, hm⟩ := k1; exact DataW.trod_lt m _ _ _ hm
  obtain ⟨cs1, hv1, _⟩ := okWide_struct Try.underlying23 (hval 1 23 v1 rfl rfl)
  subst hv1
  obtain ⟨x1, K1, W1⟩ : ∃ x : S23, k23.K W x cs1.toList ∧ ((Lit.int .i64 x.f0).wf = true ∧ (Lit.int .i64 x.f1).wf = true ∧ (Lit.int .i64 x.f2).wf = true ∧ (Lit.int .i64 x.f3).wf = true ∧ x.f4.size ≤ maxLen) := by
    obtain ⟨fuel, hf⟩ := h1
    exact opn23 enc W 0 (fun _ => true) true fuel _ _ hf
  have E1 := k23_open K1
  obtain ⟨cl1⟩ := cs1
  have E1' : cl1 = _ := E1
  subst E1'
  obtain ⟨k, hk⟩ := Pure.PacketApart x0 x1 W0 W1
  clear hA0 hval0 hsz0
  refine (thalweglaw08_PacketApart.calls (k := k) (a0_0 := x0.f0) (a0_1 := x0.f1) (a0_2 := x0.f2) (a0_3 := x0.f3) (a0_4 := x0.f4) (a1_0 := x1.f0) (a1_1 := x1.f1) (a1_2 := x1.f2) (a1_3 := x1.f3) (a1_4 := x1.f4) (r := true) (w := W) (h := hk)).mono fun e W' ⟨he, bel⟩ => ?_
  subst he
  exact ⟨_, rfl, _, _, _, [], _, [], hW', trodAll_mk1 (shut_bool Try.underlying4 _), (trodAll_cons_mk (Below.trod laidOut (by kernel_rfl) (of_decide_eq_true (by kernel_rfl)) k0 bel lt0) (trodAll_cons_mk (Below.trod laidOut (by kernel_rfl) (of_decide_eq_true (by kernel_rfl)) k1 bel lt1) trodAll_mk0)), rfl, bel.frame _, fun h => by cases h⟩
theorem over : Rows.packetApartRow.holds Try.pinned (OpenSpec.ofChange Rows.packetApartSpec) :=
  OpenClaim.holds_of_wide 5 Try.f5 rfl rfl rfl rfl rfl rfl rfl ⟨rfl, rfl, rfl, rfl, rfl⟩ rfl rfl rfl rfl rfl (by kernel_rfl) Try.func5 (by kernel_rfl)
    (of_decide_eq_true (by kernel_rfl)) (by unfold Func.isWrapper; first | (rw [if_pos (by decide +kernel)]; kernel_rfl) | (rw [if_neg (by decide +kernel)]; exact ⟨rfl, rfl⟩))
    (fun os started H enc _ => lifted os started H enc)
theorem proved : Rows.PacketApartSaid := over
#print axioms proved
end Go.Proofs.Ythfbnlimoagihaa.packetApart
namespace Go.Proofs.Ythfbnlimoagihaa
/-- The row, under a short name, for the claim. -/
theorem packetApart_holds : Rows.PacketApartSaid := packetApart.proved
end Go.Proofs.Ythfbnlimoagihaa
