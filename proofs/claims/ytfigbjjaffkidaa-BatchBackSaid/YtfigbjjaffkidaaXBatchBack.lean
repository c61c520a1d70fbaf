/- The statement BatchBack, proved of the given program; it has no conditions. (Of many texts laid together) -/
import Derived.Test.YtfigbjjaffkidaaRows
import Derived.WalkKit
import Derived.ProofKit
import Derived.OpenShut
import Derived.ShutString
import Derived.ChangeOld
import Derived.Below
import Derived.SizedLaws
import Derived.Test.YtfigbjjaffkidaaXBatchBacka
import Derived.Test.YtfigbjjaffkidaaXBatchBackb
import Derived.Test.YtfigbjjaffkidaaXBatchBackc
import Derived.Test.YtfigbjjaffkidaaXBatchBackd
import Derived.Test.YtfigbjjaffkidaaXBatchBacke
set_option linter.unusedVariables false
set_option linter.unusedSimpArgs false
set_option maxHeartbeats 8000000
set_option maxRecDepth 100000
namespace Go.Proofs.Ytfigbjjaffkidaa.batchBack
open Go.ChangeShapes Go.WideShapes Go.ChangeAt Go.RowKit Go.Proofs.YtfigbjjaffkidaaW YtfigbjjaffkidaaW.PrintWords Go.Proofs.Ytfigbjjaffkidaa.P
open Go.ChangeMaps (open_string shut_string)
theorem own : ownKnob Try.prog.godebug = none := by kernel_rfl
theorem laidOut : laidOutB Try.prog = true := by kernel_rfl
theorem opn41 : Opn.Opens Try.prog 41 k41 (fun x => (True ∧ (Lit.int .i64 x.f1).wf = true ∧ (Lit.int .i64 x.f2).wf = true ∧ (Lit.int .i64 x.f3).wf = true ∧ (Lit.int .i64 x.f4).wf = true ∧ (Lit.int .i64 x.f5).wf = true)) :=
 Opn.opens_iso (fun x : S41 => (x.f0, x.f1, x.f2, x.f3, x.f4, x.f5)) (fun a => ⟨a.1, a.2.1, a.2.2.1, a.2.2.2.1, a.2.2.2.2.1, a.2.2.2.2.2⟩) (fun _ => rfl) (Opn.opens_struct Try.underlying41 (by kernel_rfl) (by kernel_rfl) (Opn.opensL_cons (Opn.opens_bool Try.underlying4) (Opn.opensL_cons (Opn.opens_int Try.underlying3) (Opn.opensL_cons (Opn.opens_int Try.underlying3) (Opn.opensL_cons (Opn.opens_int Try.underlying3) (Opn.opensL_cons (Opn.opens_int Try.underlying3) (Opn.opensL_one (Opn.opens_int Try.underlying3))))))))
theorem opn43 : Opn.Opens Try.prog 43 k43 (fun x => ((Lit.int .i64 x.f0).wf = true ∧ (Lit.int .i64 x.f1).wf = true ∧ (Lit.int .i64 x.f2).wf = true)) :=
 Opn.opens_iso (fun x : S43 => (x.f0, x.f1, x.f2)) (fun a => ⟨a.1, a.2.1, a.2.2⟩) (fun _ => rfl) (Opn.opens_struct Try.underlying43 (by kernel_rfl) (by kernel_rfl) (Opn.opensL_cons (Opn.opens_int Try.underlying3) (Opn.opensL_cons (Opn.opens_int Try.underlying3) (Opn.opensL_one (Opn.opens_int Try.underlying3)))))
theorem opn45 : Opn.Opens Try.prog 45 k45 (fun x => ((Lit.int .i64 x.f0).wf = true ∧ (Lit.int .i64 x.f1).wf = true ∧ (True ∧ (Lit.int .i64 x.f2.f1).wf = true ∧ (Lit.int .i64 x.f2.f2).wf = true ∧ (Lit.int .i64 x.f2.f3).wf = true ∧ (Lit.int .i64 x.f2.f4).wf = true ∧ (Lit.int .i64 x.f2.f5).wf = true) ∧ ((Lit.int .i64 x.f3.f0).wf = true ∧ (Lit.int .i64 x.f3.f1).wf = true ∧ (Lit.int .i64 x.f3.f2).wf = true) ∧ (Lit.int .i64 x.f4).wf = true)) :=
 Opn.opens_iso (fun x : S45 => (x.f0, x.f1, x.f2, x.f3, x.f4)) (fun a => ⟨a.1, a.2.1, a.2.2.1, a.2.2.2.1, a.2.2.2.2⟩) (fun _ => rfl) (Opn.opens_struct Try.underlying45 (by kernel_rfl) (by kernel_rfl) (Opn.opensL_cons (Opn.opens_int Try.underlying3) (Opn.opensL_cons (Opn.opens_int Try.underlying3) (Opn.opensL_cons opn41 (Opn.opensL_cons opn43 (Opn.opensL_one (Opn.opens_int Try.underlying3)))))))
theorem opn24 : Opn.Opens Try.prog 24 k24 (fun x => ((Lit.int .i64 x.f0).wf = true ∧ (x.f1.length ≤ maxLen ∧ ∀ x0_ ∈ x.f1, ((Lit.int .i64 x0_.f0).wf = true ∧ (Lit.int .i64 x0_.f1).wf = true ∧ (True ∧ (Lit.int .i64 x0_.f2.f1).wf = true ∧ (Lit.int .i64 x0_.f2.f2).wf = true ∧ (Lit.int .i64 x0_.f2.f3).wf = true ∧ (Lit.int .i64 x0_.f2.f4).wf = true ∧ (Lit.int .i64 x0_.f2.f5).wf = true) ∧ ((Lit.int .i64 x0_.f3.f0).wf = true ∧ (Lit.int .i64 x0_.f3.f1).wf = true ∧ (Lit.int .i64 x0_.f3.f2).wf = true) ∧ (Lit.int .i64 x0_.f4).wf = true)))) :=
 Opn.opens_iso (fun x : S24 => (x.f0, x.f1)) (fun a => ⟨a.1, a.2⟩) (fun _ => rfl) (Opn.opens_struct Try.underlying24 (by kernel_rfl) (by kernel_rfl) (Opn.opensL_cons (Opn.opens_int Try.underlying3) (Opn.opensL_one (Opn.opens_slice Try.underlying22 (by kernel_rfl) opn45))))
theorem lifted (os : Os) (started : os.Started) (H : Type) (enc : TypeId × Value → H) :
  ReturnsInHanded {} Try.checked os 7 .any (Rows.batchBackSpec.pre6 enc Try.prog Try.f7 Rows.batchBackRow.domain false) (Rows.batchBackSpec.post enc Try.prog Try.f7 false true false false) := by
 refine returnsInHanded_of_change_sized (C := Try.checked) own started (by kernel_rfl) Try.func7
  (ChangeSpec.witness6 (enc := enc) (C := Try.checked) false ⟨#[], #[.agg #[(.int .i64 0), (.slice none 0 0)], .slice none 0 0, .slice none 0 0], []⟩ 8 (by kernel_rfl) (by kernel_rfl) (by kernel_rfl) (by kernel_rfl)) ?_
 intro W base args ds gs before hval0 hW hcnd hsz0 _
 have hval : ∀ (j : Nat) t v, Try.f7.params[j]? = some t → args[j]? = some v → Value.okWide Try.prog W .any base t v := hval0
 have hW' := hW
 obtain ⟨p, q, hA0, hV, rfl, hfz, hnd⟩ := hW
 have hA : DataW.TrodAll enc Try.prog W 0 (fun _ => true) true Try.f7.params.toList args.toList ds p := hA0
 rw [Try.params7] at hA hval
 obtain ⟨v0, vs0, d0, ds0, p0, q0, hargs, rfl, rfl, h0, r0⟩ := trodAll_cons hA
 obtain ⟨v1, vs1, d1, ds1, p1, q1, rfl, rfl, rfl, h1, r1⟩ := trodAll_cons r0
 obtain ⟨v2, vs2, d2, ds2, p2, q2, rfl, rfl, rfl, h2, r2⟩ := trodAll_cons r1
 obtain ⟨rfl, rfl, rfl⟩ := trodAll_nil r2
 obtain rfl : args = #[v0, v1, v2] := by cases args; simp_all
 obtain ⟨rfl, rfl⟩ := trodVars_none hV
 have k0 := h0
 have lt0 : ∀ x ∈ p0, x.block < W.heap.size := by obtain ⟨m, hm⟩ := k0; exact DataW.trod_lt m _ _ _ hm
 obtain ⟨cs0, hv0, _⟩ := okWide_struct Try.underlying24 (hval 0 24 v0 rfl rfl)
 subst hv0
 obtain ⟨x0, K0, W0⟩ : ∃ x : S24, k24.K W x cs0.toList ∧ ((Lit.int .i64 x.f0).wf = true ∧ (x.f1.length ≤ maxLen ∧ ∀ x0_ ∈ x.f1, ((Lit.int .i64 x0_.f0).wf = true ∧ (Lit.int .i64 x0_.f1).wf = true ∧ (True ∧ (Lit.int .i64 x0_.f2.f1).wf = true ∧ (Lit.int .i64 x0_.f2.f2).wf = true ∧ (Lit.int .i64 x0_.f2.f3).wf = true ∧ (Lit.int .i64 x0_.f2.f4).wf = true ∧ (Lit.int .i64 x0_.f2.f5).wf = true) ∧ ((Lit.int .i64 x0_.f3.f0).wf = true ∧ (Lit.int .i64 x0_.f3.f1).wf = true ∧ (Lit.int .i64 x0_.f3.f2).wf = true) ∧ (Lit.int .i64 x0_.f4).wf = true))) := by
  obtain ⟨fuel, hf⟩ := h0
  exact opn24 enc W 0 (fun _ => true) true fuel _ _ hf
 obtain ⟨A0_1, c0_1, E0, g0_1, C0_1⟩ := k24_open K0
 obtain ⟨cl0⟩ := cs0
 have E0' : cl0 = _ := E0
 subst E0'
 have k1 := h1
 have lt1 : ∀ x ∈ p1, x.block < W.heap.size := by obtain ⟨m, hm⟩ := k1; exact DataW.trod_lt m _ _ _ hm
 obtain ⟨a1, len1, cap1, rfl⟩ := okWide_slice Try.underlying26 (hval 1 26 v1 rfl rfl)
 obtain ⟨l1, K1, W1⟩ : ∃ l : List Int, (Kd.slice 5 (Kd.int .u8)).K W l [.slice a1 len1 cap1] ∧ (l.length ≤ maxLen ∧ ∀ x0_ ∈ l, (Lit.int .u8 x0_).wf = true) := by
  obtain ⟨fuel, hf⟩ := h1
  exact (Opn.opens_slice Try.underlying26 (by kernel_rfl) (Opn.opens_int Try.underlying5)) enc W 0 (fun _ => true) true fuel _ _ hf
 obtain ⟨A1, c1, E1, g1, C1⟩ := K1
 simp only [List.cons.injEq, Value.slice.injEq, and_true] at E1
 obtain ⟨rfl, rfl, rfl⟩ := E1
 have k2 := h2
 have lt2 : ∀ x ∈ p2, x.block < W.heap.size := by obtain ⟨m, hm⟩ := k2; exact DataW.trod_lt m _ _ _ hm
 obtain ⟨a2, len2, cap2, rfl⟩ := okWide_slice Try.underlying26 (hval 2 26 v2 rfl rfl)
 obtain ⟨l2, K2, W2⟩ : ∃ l : List Int, (Kd.slice 5 (Kd.int .u8)).K W l [.slice a2 len2 cap2] ∧ (l.length ≤ maxLen ∧ ∀ x0_ ∈ l, (Lit.int .u8 x0_).wf = true) := by
  obtain ⟨fuel, hf⟩ := h2
  exact (Opn.opens_slice Try.underlying26 (by kernel_rfl) (Opn.opens_int Try.underlying5)) enc W 0 (fun _ => true) true fuel _ _ hf
 obtain ⟨A2, c2, E2, g2, C2⟩ := K2
 simp only [List.cons.injEq, Value.slice.injEq, and_true] at E2
 obtain ⟨rfl, rfl, rfl⟩ := E2
 obtain ⟨k, hk⟩ := Pure.BatchBack x0 l1 l2 W0 W1.1 W1.2 W2.1 W2.2
 clear hA0 hval0 hsz0
 refine (thalweglaw05_BatchBack.calls (k := k) (a0_0 := x0.f0) (P0_1_ := fun _ => True) (A0_1 := A0_1) (c0_1 := c0_1) (l0_1 := x0.f1) (P1_ := fun _ => True) (A1 := a1) (c1 := cap1) (l1 := l1) (P2_ := fun _ => True) (A2 := a2) (c2 := cap2) (l2 := l2) (r := true) (w := W) (hs0_1 := (Kd.V_mk g0_1 (Kd.F_mono (Kd.C_F (show Kd.Heap k45 from ⟨fun _ h => h⟩) C0_1) (fun _ _ => trivial)))) (hs1 := (Kd.V_mk g1 (Kd.F_mono (Kd.C_F (Kd.heap_int _) C1) (fun _ _ => trivial)))) (hs2 := (Kd.V_mk g2 (Kd.F_mono (Kd.C_F (Kd.heap_int _) C2) (fun _ _ => trivial)))) (h := hk)).mono fun e W' ⟨he, bel⟩ => ?_
 subst he
 exact ⟨_, rfl, _, _, _, [], _, [], hW', trodAll_mk1 (shut_bool Try.underlying4 _), (trodAll_cons_mk (Below.trod laidOut (by kernel_rfl) (of_decide_eq_true (by kernel_rfl)) k0 bel lt0) (trodAll_cons_mk (Below.trod laidOut (by kernel_rfl) (of_decide_eq_true (by kernel_rfl)) k1 bel lt1) (trodAll_cons_mk (Below.trod laidOut (by kernel_rfl) (of_decide_eq_true (by kernel_rfl)) k2 bel lt2) trodAll_mk0))), rfl, bel.frame _, fun h => by cases h⟩
theorem over : Rows.batchBackRow.holds Try.pinned (OpenSpec.ofChange Rows.batchBackSpec) :=
 OpenClaim.holds_of_wide 7 Try.f7 rfl rfl rfl rfl rfl rfl rfl ⟨rfl, rfl, rfl, rfl, rfl⟩ rfl rfl rfl rfl rfl (by kernel_rfl) Try.func7 (by kernel_rfl)
  (of_decide_eq_true (by kernel_rfl)) (by unfold Func.isWrapper; first | (rw [if_pos (by decide +kernel)]; kernel_rfl) | (rw [if_neg (by decide +kernel)]; exact ⟨rfl, rfl⟩))
  (fun os started H enc _ => lifted os started H enc)
theorem proved : Rows.BatchBackSaid := over
end Go.Proofs.Ytfigbjjaffkidaa.batchBack
namespace Go.Proofs.Ytfigbjjaffkidaa
theorem batchBack_holds : Rows.BatchBackSaid := batchBack.proved
end Go.Proofs.Ytfigbjjaffkidaa
