/- WireBack: what was put is got, wherever it stands; the plain law. -/
import Derived.Test.YtfhhjoblfnbnkaaEa01
import Derived.Test.YtfhhjoblfnbnkaaErBoth
import Derived.Test.YtfhhjoblfnbnkaaEpGetInt
import Derived.Test.YtfhhjoblfnbnkaaSWireBack
import Derived.Test.YtfhhjoblfnbnkaaP12
namespace Go.Proofs.Ytfhhjoblfnbnkaa.Pure
set_option linter.unusedSimpArgs false
set_option linter.unusedVariables false
open Go.RowKit Go.Proofs.Ytfhhjoblfnbnkaa.P Go.Proofs.YtfhhjoblfnbnkaaW.PrintWords Go.Proofs.YtfhhjoblfnbnkaaW.PrintLast Go.Proofs.YtfhhjoblfnbnkaaW.PrintMore
theorem drop_mid (A B C : List Int) : ((A ++ B ++ C).drop ((A.length : Int)).toNat).take B.length = B := by
  rw [Int.toNat_natCast, List.append_assoc, List.drop_left, List.take_left]
theorem num_mid (A B C : List Int) (n : Nat) (hn : B.length = n) : numSpec (A ++ B ++ C) (A.length : Int) (n : Int) = (bev B, (A.length : Int) + n, 0) := by
  subst hn
  unfold numSpec
  rw [if_neg (by simp only [List.length_append]; omega), if_neg (by simp only [List.length_append]; omega)]
  have := drop_mid A B C
  rw [Int.toNat_natCast] at this ⊢
  rw [Int.toNat_natCast, this]
theorem tail_ev (v n : Int) (A C b : List Int) (e : Int) (hv : (Lit.int .i64 v).wf = true) (hA : Bytes A) (hC : Bytes C) (lA : A.length ≤ 200) (lC : C.length ≤ 200) (hb : e = 0 ∨ e = 1 ∧ b = []) :
    Ev (fun k => thalweglaw01_WireBack.j1 k v A C b e false) true := by
  have bv := bnd64 hv
  refine Ev.step (f := fun k => _) (fun k => by simp only [thalweglaw01_WireBack.j1]; rfl) ?_
  have hl : (intSpec v).length = 8 := be_length _ _
  have hB8 : Bytes (intSpec v) := be_bytes _ _
  have hboth : Ev (fun k => thalwegref01_Both.f k [A, intSpec v, C]) (A ++ intSpec v ++ C) := by
    have := both_ev [A, intSpec v, C] (by simp) (by simp [hl]; omega)
    simpa using this
  simp only [Bool.false_eq_true, if_false, wire_Int_eq, Option.bind_some]
  refine Ev.bind hboth ?_
  have hg : wire_GetInt.f (A ++ intSpec v ++ C) (A.length : Int) = some (v, (A.length : Int) + 8, 0) := by
    rw [wire_GetInt_eq _ _ ((hA.append hB8).append hC) (by simp only [List.length_append, hl]; omega)]
    unfold getIntSpec
    rw [show (8 : Int) = ((8 : Nat) : Int) from rfl, num_mid A (intSpec v) C 8 hl]
    have hbe : bev (intSpec v) = v % 18446744073709551616 := bev_be 8 _ (by omega) (by omega)
    simp only [hbe]
    congr 2
    unfold wrap64
    omega
  simp only [hg, Option.bind_some]
  refine Ev.bind awake01 ?_
  simp only [if_true, hl, w64 (x := (A.length : Int) + 8) (by omega) (by omega)]
  rcases hb with rfl | ⟨rfl, rfl⟩
  · simp only [if_true, show (((8 : Nat) : Int) = 8) = True by simp, beq_self_eq_true]
    exact Ev.now _
  · simp only [if_neg (show ¬ (1 : Int) = 0 by decide), if_true, List.length_nil, show (((0 : Nat) : Int) = 0) = True by simp, show (((8 : Nat) : Int) = 8) = True by simp, beq_self_eq_true]
    exact Ev.now _
theorem back_ev (v n : Int) (A C : List Int) (hv : (Lit.int .i64 v).wf = true) (hA : Bytes A) (hC : Bytes C) : Ev (fun k => thalweglaw01_WireBack.f k v n A C) true := by
  have yes : Ev (fun k => thalweglaw01_WireBack.j0 k v n A C true) true := by
    refine Ev.step (f := fun k => _) (fun k => by simp only [thalweglaw01_WireBack.j0]; rfl) ?_
    simp only [if_true]
    exact Ev.now _
  unfold thalweglaw01_WireBack.f
  by_cases lA : (A.length : Int) > 200
  · simp only [if_pos lA]
    exact yes
  simp only [if_neg lA]
  by_cases lC : (C.length : Int) > 200
  · rw [decide_eq_true lC]
    exact yes
  rw [decide_eq_false lC]
  refine Ev.step (f := fun k => _) (fun k => by simp only [thalweglaw01_WireBack.j0]; rfl) ?_
  simp only [Bool.false_eq_true, if_false, wire_Put_eq v n hv, Option.bind_some]
  by_cases h : 1 ≤ n ∧ n ≤ 7 ∧ 0 ≤ v ∧ v < 256 ^ n.toNat
  · obtain ⟨m, rfl⟩ := Int.eq_ofNat_of_zero_le (show 0 ≤ n by omega)
    rw [show putSpec v (m : Int) = (be m v, 0) by unfold putSpec; rw [if_pos h]; simp]
    have hl : (be m v).length = m := be_length _ _
    have hB8 : Bytes (be m v) := be_bytes _ _
    have hboth : Ev (fun k => thalwegref01_Both.f k [A, be m v, C]) (A ++ be m v ++ C) := by
      have := both_ev [A, be m v, C] (by simp) (by simp [hl]; omega)
      simpa using this
    refine Ev.bind hboth ?_
    obtain ⟨h1, h2, h3, h4⟩ := h
    rw [Int.toNat_natCast] at h4
    have hg : wire_Get.f (A ++ be m v ++ C) (A.length : Int) (m : Int) = some (v, (A.length : Int) + m, 0) := by
      rw [wire_Get_eq _ _ _ ((hA.append hB8).append hC) (by simp only [List.length_append, hl]; omega)]
      unfold getSpec
      rw [if_neg (by omega), num_mid A (be m v) C m hl, bev_be m v h3 h4]
    simp only [hg, Option.bind_some, if_true, hl, w64 (x := (A.length : Int) + (m : Int)) (by omega) (by omega), bne_self_eq_false]
    exact tail_ev v m A C _ 0 hv hA hC (by omega) (by omega) (.inl rfl)
  · rw [show putSpec v n = ([], 1) by unfold putSpec; rw [if_neg h]]
    have hboth : Ev (fun k => thalwegref01_Both.f k [A, [], C]) (A ++ C) := by
      have := both_ev [A, [], C] (by simp) (by simp; omega)
      simpa using this
    refine Ev.bind hboth ?_
    simp only [wire_Get_eq (A ++ C) _ n (hA.append hC) (by simp only [List.length_append]; omega), Option.bind_some, if_neg (show ¬ (1 : Int) = 0 by decide)]
    exact tail_ev v n A C _ 1 hv hA hC (by omega) (by omega) (.inr ⟨rfl, rfl⟩)
theorem WireBack : thalweglaw01_WireBack.Pure := fun v n A C hv _ _ hA _ hC => Ev.rounds (back_ev v n A C hv (bytes_of hA) (bytes_of hC))
end Go.Proofs.Ytfhhjoblfnbnkaa.Pure
