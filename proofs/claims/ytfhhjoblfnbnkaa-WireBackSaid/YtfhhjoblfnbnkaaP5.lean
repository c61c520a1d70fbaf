-- WRITTEN BY xprint.py, a program of this session that drives the kit's printer.
import Derived.Test.YtfhhjoblfnbnkaaP0
import Derived.Test.YtfhhjoblfnbnkaaP1
import Derived.Test.YtfhhjoblfnbnkaaP4
namespace Go.Proofs.Ytfhhjoblfnbnkaa.P
open Go.RowKit Go.Proofs.YtfhhjoblfnbnkaaW.PrintWords Go.Proofs.YtfhhjoblfnbnkaaW.PrintLast Go.Proofs.YtfhhjoblfnbnkaaW.PrintMore
attribute [local go_sem] max2_int min2_int max_two min_two max_three min_three max_four min_four   -- for this text's walks alone
set_option linter.unusedVariables false
set_option linter.unusedSimpArgs false

/-! ### thalweglaw01_awake: function 13 -/
def thalweglaw01_awake.f (k : Nat)  : Option (Bool) := (wire_Put.f 258 3).bind fun bt123 => ((wire_Get.f (([0, 1, 2] : List Int)) 0 3).bind fun bt130 => ((wire_Int.f (-2)).bind fun t133 => ((wire_GetInt.f t133 0).bind fun bt136 => (if (strOfNums bt123.1).toList = ([0, 1, 2] : List UInt8) then (if bt123.2 = 0 then (if bt130.1 = 258 then (if bt130.2.1 = 3 then (if bt130.2.2 = bt123.2 then ((wire_Sum.f k ([] : List Int)).bind fun t139 => (if t139 = 1 then ((wire_Sum.f k (([1, 2] : List Int))).bind fun t143 => (if t143 = 1540 then (if bt136.1 = (-2) then (if bt136.2.1 = 8 then (some (bt136.2.2 == bt123.2)) else (none)) else (none)) else (none))) else (none))) else (none)) else (none)) else (none)) else (none)) else (none)))))
theorem thalweglaw01_awake.mono : ∀ k, LeO (thalweglaw01_awake.f k ) (thalweglaw01_awake.f (k + 1) ) := by
  intro  k
  unfold thalweglaw01_awake.f
  repeat' first
      | (with_reducible exact wire_Sum.mono _ _)
      | (with_reducible exact LeO.refl _)
      | (with_reducible exact LeO.none _)
      | (with_reducible refine LeO.ite ?_ ?_)
      | (with_reducible refine LeO.bind ?_ (fun _ => ?_))
      | exact wire_Sum.mono _ _
      | exact LeO.none _
      | refine LeO.ite ?_ ?_
      | refine LeO.bind ?_ (fun _ => ?_)
set_option maxHeartbeats 8000000 in
set_option maxRecDepth 100000 in
theorem thalweglaw01_awake.calls (k : Nat)  (r : Bool) (w : World) (h : thalweglaw01_awake.f k  = some r) :
    Calls Try.prog 13 #[] w fun e w' => e = .returned (.bool r) ∧ Below w.heap.size w w' := by
  have HB := Aside0.mk (Below.refl w.heap.size w)
  have H : ((wire_Put.f 258 3).bind fun bt123 => ((wire_Get.f (([0, 1, 2] : List Int)) 0 3).bind fun bt130 => ((wire_Int.f (-2)).bind fun t133 => ((wire_GetInt.f t133 0).bind fun bt136 => (if (strOfNums bt123.1).toList = ([0, 1, 2] : List UInt8) then (if bt123.2 = 0 then (if bt130.1 = 258 then (if bt130.2.1 = 3 then (if bt130.2.2 = bt123.2 then ((wire_Sum.f k ([] : List Int)).bind fun t139 => (if t139 = 1 then ((wire_Sum.f k (([1, 2] : List Int))).bind fun t143 => (if t143 = 1540 then (if bt136.1 = (-2) then (if bt136.2.1 = 8 then (some (bt136.2.2 == bt123.2)) else (none)) else (none)) else (none))) else (none))) else (none)) else (none)) else (none)) else (none)) else (none)))))) = some r := h
  clear h
  replace H := Option.bind_eq_some_iff.mp H
  obtain ⟨⟨t123, t124⟩, A10, H⟩ := H
  replace H : ((wire_Get.f (([0, 1, 2] : List Int)) 0 3).bind fun bt130 => ((wire_Int.f (-2)).bind fun t133 => ((wire_GetInt.f t133 0).bind fun bt136 => (if (strOfNums t123).toList = ([0, 1, 2] : List UInt8) then (if t124 = 0 then (if bt130.1 = 258 then (if bt130.2.1 = 3 then (if bt130.2.2 = t124 then ((wire_Sum.f k ([] : List Int)).bind fun t139 => (if t139 = 1 then ((wire_Sum.f k (([1, 2] : List Int))).bind fun t143 => (if t143 = 1540 then (if bt136.1 = (-2) then (if bt136.2.1 = 8 then (some (bt136.2.2 == t124)) else (none)) else (none)) else (none))) else (none))) else (none)) else (none)) else (none)) else (none)) else (none))))) = some r := H
  have A1 := Aside0.mk A10
  clear A10
  obtain ⟨y127, hy127⟩ : ∃ y_ : List Int, y_ = (([0, 1, 2] : List Int)) := ⟨_, rfl⟩
  replace H : ((wire_Get.f y127 0 3).bind fun bt130 => ((wire_Int.f (-2)).bind fun t133 => ((wire_GetInt.f t133 0).bind fun bt136 => (if (strOfNums t123).toList = ([0, 1, 2] : List UInt8) then (if t124 = 0 then (if bt130.1 = 258 then (if bt130.2.1 = 3 then (if bt130.2.2 = t124 then ((wire_Sum.f k ([] : List Int)).bind fun t139 => (if t139 = 1 then ((wire_Sum.f k (([1, 2] : List Int))).bind fun t143 => (if t143 = 1540 then (if bt136.1 = (-2) then (if bt136.2.1 = 8 then (some (bt136.2.2 == t124)) else (none)) else (none)) else (none))) else (none))) else (none)) else (none)) else (none)) else (none)) else (none))))) = some r := by first | (rw [hy127]; with_reducible exact H) | (have H2_ := (Option.bind_some _ _).symm.trans H; rw [hy127]; with_reducible exact H2_) | (have H2_ := (Option.bind_some _ _).symm.trans H; with_reducible exact H2_) | with_reducible exact H | (rw [hy127]; exact H) | exact H
  have Ny127 := Aside0.mk hy127
  clear hy127
  replace H := Option.bind_eq_some_iff.mp H
  obtain ⟨⟨t130, t131, t132⟩, A20, H⟩ := H
  replace H : ((wire_Int.f (-2)).bind fun t133 => ((wire_GetInt.f t133 0).bind fun bt136 => (if (strOfNums t123).toList = ([0, 1, 2] : List UInt8) then (if t124 = 0 then (if t130 = 258 then (if t131 = 3 then (if t132 = t124 then ((wire_Sum.f k ([] : List Int)).bind fun t139 => (if t139 = 1 then ((wire_Sum.f k (([1, 2] : List Int))).bind fun t143 => (if t143 = 1540 then (if bt136.1 = (-2) then (if bt136.2.1 = 8 then (some (bt136.2.2 == t124)) else (none)) else (none)) else (none))) else (none))) else (none)) else (none)) else (none)) else (none)) else (none)))) = some r := H
  have A2 := Aside0.mk A20
  clear A20
  replace H := Option.bind_eq_some_iff.mp H
  obtain ⟨t133, A30, H⟩ := H
  replace H : ((wire_GetInt.f t133 0).bind fun bt136 => (if (strOfNums t123).toList = ([0, 1, 2] : List UInt8) then (if t124 = 0 then (if t130 = 258 then (if t131 = 3 then (if t132 = t124 then ((wire_Sum.f k ([] : List Int)).bind fun t139 => (if t139 = 1 then ((wire_Sum.f k (([1, 2] : List Int))).bind fun t143 => (if t143 = 1540 then (if bt136.1 = (-2) then (if bt136.2.1 = 8 then (some (bt136.2.2 == t124)) else (none)) else (none)) else (none))) else (none))) else (none)) else (none)) else (none)) else (none)) else (none))) = some r := H
  have A3 := Aside0.mk A30
  clear A30
  replace H := Option.bind_eq_some_iff.mp H
  obtain ⟨⟨t136, t137, t138⟩, A40, H⟩ := H
  replace H : (if (strOfNums t123).toList = ([0, 1, 2] : List UInt8) then (if t124 = 0 then (if t130 = 258 then (if t131 = 3 then (if t132 = t124 then ((wire_Sum.f k ([] : List Int)).bind fun t139 => (if t139 = 1 then ((wire_Sum.f k (([1, 2] : List Int))).bind fun t143 => (if t143 = 1540 then (if t136 = (-2) then (if t137 = 8 then (some (t138 == t124)) else (none)) else (none)) else (none))) else (none))) else (none)) else (none)) else (none)) else (none)) else (none)) = some r := H
  have A4 := Aside0.mk A40
  clear A40
  by_cases c5 : (strOfNums t123).toList = ([0, 1, 2] : List UInt8)
  rotate_left
  · rw [if_neg c5] at H
    exact absurd H (by simp)
  rw [if_pos c5] at H
  have c5b0 : ((strOfNums t123).toList == ([0, 1, 2] : List UInt8)) = true := beq_iff_eq.mpr c5
  have c5b1 : ((strOfNums t123).toList != ([0, 1, 2] : List UInt8)) = false := bne_eq_false_iff_eq.mpr c5
  clear c5
  by_cases c6 : t124 = 0
  rotate_left
  · rw [if_neg c6] at H
    exact absurd H (by simp)
  rw [if_pos c6] at H
  have c6b0 : (t124 == 0) = true := beq_iff_eq.mpr c6
  have c6b1 : (t124 != 0) = false := bne_eq_false_iff_eq.mpr c6
  clear c6
  by_cases c7 : t130 = 258
  rotate_left
  · rw [if_neg c7] at H
    exact absurd H (by simp)
  rw [if_pos c7] at H
  have c7b0 : (t130 == 258) = true := beq_iff_eq.mpr c7
  have c7b1 : (t130 != 258) = false := bne_eq_false_iff_eq.mpr c7
  clear c7
  by_cases c8 : t131 = 3
  rotate_left
  · rw [if_neg c8] at H
    exact absurd H (by simp)
  rw [if_pos c8] at H
  have c8b0 : (t131 == 3) = true := beq_iff_eq.mpr c8
  have c8b1 : (t131 != 3) = false := bne_eq_false_iff_eq.mpr c8
  clear c8
  by_cases c9 : t132 = t124
  rotate_left
  · rw [if_neg c9] at H
    exact absurd H (by simp)
  rw [if_pos c9] at H
  have c9b0 : (t132 == t124) = true := beq_iff_eq.mpr c9
  have c9b1 : (t132 != t124) = false := bne_eq_false_iff_eq.mpr c9
  clear c9
  replace H := Option.bind_eq_some_iff.mp H
  obtain ⟨t139, A100, H⟩ := H
  replace H : (if t139 = 1 then ((wire_Sum.f k (([1, 2] : List Int))).bind fun t143 => (if t143 = 1540 then (if t136 = (-2) then (if t137 = 8 then (some (t138 == t124)) else (none)) else (none)) else (none))) else (none)) = some r := H
  have A10 := Aside0.mk A100
  clear A100
  by_cases c11 : t139 = 1
  rotate_left
  · rw [if_neg c11] at H
    exact absurd H (by simp)
  rw [if_pos c11] at H
  have c11b0 : (t139 == 1) = true := beq_iff_eq.mpr c11
  have c11b1 : (t139 != 1) = false := bne_eq_false_iff_eq.mpr c11
  clear c11
  obtain ⟨y140, hy140⟩ : ∃ y_ : List Int, y_ = (([1, 2] : List Int)) := ⟨_, rfl⟩
  replace H : ((wire_Sum.f k y140).bind fun t143 => (if t143 = 1540 then (if t136 = (-2) then (if t137 = 8 then (some (t138 == t124)) else (none)) else (none)) else (none))) = some r := by first | (rw [hy140]; with_reducible exact H) | (have H2_ := (Option.bind_some _ _).symm.trans H; rw [hy140]; with_reducible exact H2_) | (have H2_ := (Option.bind_some _ _).symm.trans H; with_reducible exact H2_) | with_reducible exact H | (rw [hy140]; exact H) | exact H
  have Ny140 := Aside0.mk hy140
  clear hy140
  replace H := Option.bind_eq_some_iff.mp H
  obtain ⟨t143, A120, H⟩ := H
  replace H : (if t143 = 1540 then (if t136 = (-2) then (if t137 = 8 then (some (t138 == t124)) else (none)) else (none)) else (none)) = some r := H
  have A12 := Aside0.mk A120
  clear A120
  by_cases c13 : t143 = 1540
  rotate_left
  · rw [if_neg c13] at H
    exact absurd H (by simp)
  rw [if_pos c13] at H
  have c13b0 : (t143 == 1540) = true := beq_iff_eq.mpr c13
  have c13b1 : (t143 != 1540) = false := bne_eq_false_iff_eq.mpr c13
  clear c13
  by_cases c14 : t136 = (-2)
  rotate_left
  · rw [if_neg c14] at H
    exact absurd H (by simp)
  rw [if_pos c14] at H
  have c14b0 : (t136 == (-2)) = true := beq_iff_eq.mpr c14
  have c14b1 : (t136 != (-2)) = false := bne_eq_false_iff_eq.mpr c14
  clear c14
  by_cases c15 : t137 = 8
  rotate_left
  · rw [if_neg c15] at H
    exact absurd H (by simp)
  rw [if_pos c15] at H
  have c15b0 : (t137 == 8) = true := beq_iff_eq.mpr c15
  have c15b1 : (t137 != 8) = false := bne_eq_false_iff_eq.mpr c15
  clear c15
  obtain rfl := Option.some.inj H
  go_enter Try.func13, Try.ntmps13
  go_wp2_with (first | ((with_reducible refine gate_callee (f := 10) rfl ?_); refine goesL_ (some 10) rfl rfl Try.func10 (by kernel_rfl) rfl #[.int .i64 258, .int .i64 3] rfl (by (try simp only [List.map_toArray, List.map_cons, List.map_nil]); first | done | rfl | (simp only [List.length_drop, List.length_take]; rfl)) ?_; (with_reducible refine (wire_Put.calls 258 3 t123 t124 _ A1.out).mono ?_); rintro e w16 ⟨v125, rfl, ho0, hb⟩; refine ⟨_, rfl, ?_⟩; have n0_ := Aside0.mk (Kd.R_lower ho0 (below_size (by repeat (first | (with_reducible first | exact HB.out | apply below_alloc | apply pw_below_drewN | apply below_drew1) | exact HB.out)))); have n1_ := Aside0.mk (below_step (by repeat (first | (with_reducible first | exact HB.out | apply below_alloc | apply pw_below_drewN | apply below_drew1) | exact HB.out)) hb); clear HB; have HO126 := n0_; have HB := n1_; clear n0_ n1_; (try clear hb); (try clear hb2); (try clear hk); (try clear hi); (try clear ho0)) | ((with_reducible refine gate_dst (N := 14) rfl ?_); (try (refine gate_guard (by rfl) ?_; dsimp only)); refine Kd.R_lit (Kd.int .u8) _ 5 ?hg (N := 14) ?hd (xs := ([0, 1, 2] : List Int)) (inner := [.int .u8 0, .int .u8 1, .int .u8 2]) (ok := fun _ => True) (okp := fun _ => True) ?hr ?hp (fun _ hk => hk) trivial (Below.refl _ _) (Nat.le_refl _) (by simp) ?_; (case hd => rfl); (case hg => rfl); (case hr => first | (go_simp; done) | (go_simp; rfl)); (case hp => exact (Reps.one (show Kd.M (Kd.int .u8) _ _ _ 0 [.int .u8 0] from rfl) (Reps.one (show Kd.M (Kd.int .u8) _ _ _ 1 [.int .u8 1] from rfl) (Reps.one (show Kd.M (Kd.int .u8) _ _ _ 2 [.int .u8 2] from rfl) (Reps.none _ _))))); intro v128 w17 ho18 hb hg_ hnew_; clear hg_ hnew_; (first | rw [← Ny127.out] at ho18 | (simp only [Int.reduceToNat] at ho18; rw [← Ny127.out] at ho18)); have n0_ := Aside0.mk (Kd.R_elder' (by (with_reducible repeat (first | apply Kd.R_alloc | apply Kd.R_drewN | apply Kd.R_drew)); exact HO126.out) (Kd.R_base ho18) hb); have n1_ := Aside0.mk (Kd.R_lower (Kd.R_new' ho18 (Kd.R_lt (by (with_reducible repeat (first | apply Kd.R_alloc | apply Kd.R_drewN | apply Kd.R_drew)); exact HO126.out))) (below_size (by repeat (first | (with_reducible first | exact HB.out | apply below_alloc | apply pw_below_drewN | apply below_drew1) | exact HB.out)))); have n2_ := Aside0.mk (below_step (by repeat (first | (with_reducible first | exact HB.out | apply below_alloc | apply pw_below_drewN | apply below_drew1) | exact HB.out)) hb); clear HO126; clear HB; have HO126 := n0_; have HO129 := n1_; have HB := n2_; clear n0_ n1_ n2_; clear hb ho18; obtain ⟨Ao19, co19, eo19⟩ := Kd.R_slice HO129.out; subst eo19) | ((with_reducible refine gate_callee (f := 17) rfl ?_); refine goesL_ (some 15) rfl rfl Try.func17 (by kernel_rfl) rfl #[.slice Ao19 y127.length co19, .int .i64 0, .int .i64 3] rfl (by (try simp only [List.map_toArray, List.map_cons, List.map_nil]); first | done | rfl | (simp only [List.length_drop, List.length_take]; rfl)) ?_; (with_reducible refine (wire_Get.calls _ _ y127 0 3 t130 t131 t132 _ ?side1 ?side2 A2.out).mono ?_); (case side1 => repeat (first | exact (Kd.R_reads' HO129.out).2.2 | (with_reducible refine Kd.C_alloc ?_ _) | (with_reducible refine Kd.C_drewN ?_ _) | (with_reducible refine Kd.C_drew ?_))); (case side2 => exact (Kd.R_reads' HO129.out).2.1); rintro e w20 ⟨rfl, hb⟩; refine ⟨_, rfl, ?_⟩; have n0_ := Aside0.mk (Kd.R_below (by (with_reducible repeat (first | apply Kd.R_alloc | apply Kd.R_drewN | apply Kd.R_drew)); exact HO126.out) hb); have n1_ := Aside0.mk (Kd.R_below (by (with_reducible repeat (first | apply Kd.R_alloc | apply Kd.R_drewN | apply Kd.R_drew)); exact HO129.out) hb); have n2_ := Aside0.mk (below_step (by repeat (first | (with_reducible first | exact HB.out | apply below_alloc | apply pw_below_drewN | apply below_drew1) | exact HB.out)) hb); clear HO126; clear HO129; clear HB; have HO126 := n0_; have HO129 := n1_; have HB := n2_; clear n0_ n1_ n2_; (try clear hb); (try clear hb2); (try clear hk); (try clear hi)) | ((with_reducible refine gate_callee (f := 14) rfl ?_); refine goesL_ (some 20) rfl rfl Try.func14 (by kernel_rfl) rfl #[.int .i64 (-2)] rfl (by (try simp only [List.map_toArray, List.map_cons, List.map_nil]); first | done | rfl | (simp only [List.length_drop, List.length_take]; rfl)) ?_; (with_reducible refine (wire_Int.calls (-2) t133 _ A3.out).mono ?_); rintro e w21 ⟨v134, rfl, ho0, hb⟩; refine ⟨_, rfl, ?_⟩; have n0_ := Aside0.mk (Kd.R_elder' (by (with_reducible repeat (first | apply Kd.R_alloc | apply Kd.R_drewN | apply Kd.R_drew)); exact HO126.out) (Kd.R_base ho0) hb); have n1_ := Aside0.mk (Kd.R_elder' (by (with_reducible repeat (first | apply Kd.R_alloc | apply Kd.R_drewN | apply Kd.R_drew)); exact HO129.out) (Kd.R_base ho0) hb); have n2_ := Aside0.mk (Kd.R_lower (Kd.R_new' (Kd.R_new' ho0 (Kd.R_lt (by (with_reducible repeat (first | apply Kd.R_alloc | apply Kd.R_drewN | apply Kd.R_drew)); exact HO126.out))) (Kd.R_lt (by (with_reducible repeat (first | apply Kd.R_alloc | apply Kd.R_drewN | apply Kd.R_drew)); exact HO129.out))) (below_size (by repeat (first | (with_reducible first | exact HB.out | apply below_alloc | apply pw_below_drewN | apply below_drew1) | exact HB.out)))); have n3_ := Aside0.mk (below_step (by repeat (first | (with_reducible first | exact HB.out | apply below_alloc | apply pw_below_drewN | apply below_drew1) | exact HB.out)) hb); clear HO126; clear HO129; clear HB; have HO126 := n0_; have HO129 := n1_; have HO135 := n2_; have HB := n3_; clear n0_ n1_ n2_ n3_; (try clear hb); (try clear hb2); (try clear hk); (try clear hi); (try clear ho0); obtain ⟨Ao22, co22, eo22⟩ := Kd.R_slice HO135.out; subst eo22) | ((with_reducible refine gate_callee (f := 19) rfl ?_); refine goesL_ (some 21) rfl rfl Try.func19 (by kernel_rfl) rfl #[.slice Ao22 t133.length co22, .int .i64 0] rfl (by (try simp only [List.map_toArray, List.map_cons, List.map_nil]); first | done | rfl | (simp only [List.length_drop, List.length_take]; rfl)) ?_; (with_reducible refine (wire_GetInt.calls _ _ t133 0 t136 t137 t138 _ ?side1 ?side2 A4.out).mono ?_); (case side1 => repeat (first | exact (Kd.R_reads' HO135.out).2.2 | (with_reducible refine Kd.C_alloc ?_ _) | (with_reducible refine Kd.C_drewN ?_ _) | (with_reducible refine Kd.C_drew ?_))); (case side2 => exact (Kd.R_reads' HO135.out).2.1); rintro e w23 ⟨rfl, hb⟩; refine ⟨_, rfl, ?_⟩; have n0_ := Aside0.mk (Kd.R_below (by (with_reducible repeat (first | apply Kd.R_alloc | apply Kd.R_drewN | apply Kd.R_drew)); exact HO126.out) hb); have n1_ := Aside0.mk (Kd.R_below (by (with_reducible repeat (first | apply Kd.R_alloc | apply Kd.R_drewN | apply Kd.R_drew)); exact HO129.out) hb); have n2_ := Aside0.mk (Kd.R_below (by (with_reducible repeat (first | apply Kd.R_alloc | apply Kd.R_drewN | apply Kd.R_drew)); exact HO135.out) hb); have n3_ := Aside0.mk (below_step (by repeat (first | (with_reducible first | exact HB.out | apply below_alloc | apply pw_below_drewN | apply below_drew1) | exact HB.out)) hb); clear HO126; clear HO129; clear HO135; clear HB; have HO126 := n0_; have HO129 := n1_; have HO135 := n2_; have HB := n3_; clear n0_ n1_ n2_ n3_; (try clear hb); (try clear hb2); (try clear hk); (try clear hi); have hcv24 := own_string (P := Try.prog) Try.underlying22 Try.underlying5 Try.underlying9 (Kd.own_of_R HO126.out)) | ((with_reducible refine gate_dst (N := 50) rfl ?_); (try (refine gate_guard (by rfl) ?_; dsimp only)); refine Kd.R_lit (Kd.int .u8) _ 5 ?hg (N := 50) ?hd (xs := ([1, 2] : List Int)) (inner := [.int .u8 1, .int .u8 2]) (ok := fun _ => True) (okp := fun _ => True) ?hr ?hp (fun _ hk => hk) trivial (Below.refl _ _) (Nat.le_refl _) (by simp) ?_; (case hd => rfl); (case hg => rfl); (case hr => first | (go_simp; done) | (go_simp; rfl)); (case hp => exact (Reps.one (show Kd.M (Kd.int .u8) _ _ _ 1 [.int .u8 1] from rfl) (Reps.one (show Kd.M (Kd.int .u8) _ _ _ 2 [.int .u8 2] from rfl) (Reps.none _ _)))); intro v141 w25 ho26 hb hg_ hnew_; clear hg_ hnew_; (first | rw [← Ny140.out] at ho26 | (simp only [Int.reduceToNat] at ho26; rw [← Ny140.out] at ho26)); have n0_ := Aside0.mk (Kd.R_elder' (by (with_reducible repeat (first | apply Kd.R_alloc | apply Kd.R_drewN | apply Kd.R_drew)); exact HO126.out) (Kd.R_base ho26) hb); have n1_ := Aside0.mk (Kd.R_elder' (by (with_reducible repeat (first | apply Kd.R_alloc | apply Kd.R_drewN | apply Kd.R_drew)); exact HO129.out) (Kd.R_base ho26) hb); have n2_ := Aside0.mk (Kd.R_elder' (by (with_reducible repeat (first | apply Kd.R_alloc | apply Kd.R_drewN | apply Kd.R_drew)); exact HO135.out) (Kd.R_base ho26) hb); have n3_ := Aside0.mk (Kd.R_lower (Kd.R_new' (Kd.R_new' (Kd.R_new' ho26 (Kd.R_lt (by (with_reducible repeat (first | apply Kd.R_alloc | apply Kd.R_drewN | apply Kd.R_drew)); exact HO126.out))) (Kd.R_lt (by (with_reducible repeat (first | apply Kd.R_alloc | apply Kd.R_drewN | apply Kd.R_drew)); exact HO129.out))) (Kd.R_lt (by (with_reducible repeat (first | apply Kd.R_alloc | apply Kd.R_drewN | apply Kd.R_drew)); exact HO135.out))) (below_size (by repeat (first | (with_reducible first | exact HB.out | apply below_alloc | apply pw_below_drewN | apply below_drew1) | exact HB.out)))); have n4_ := Aside0.mk (below_step (by repeat (first | (with_reducible first | exact HB.out | apply below_alloc | apply pw_below_drewN | apply below_drew1) | exact HB.out)) hb); clear HO126; clear HO129; clear HO135; clear HB; have HO126 := n0_; have HO129 := n1_; have HO135 := n2_; have HO142 := n3_; have HB := n4_; clear n0_ n1_ n2_ n3_ n4_; clear hb ho26; obtain ⟨Ao27, co27, eo27⟩ := Kd.R_slice HO142.out; subst eo27) | (go_at_call 12; (with_reducible refine (wire_Sum.calls k _ _ y140 t143 _ ?side1 ?side2 A12.out).mono ?_); (case side1 => repeat (first | exact (Kd.R_reads' HO142.out).2.2 | (with_reducible refine Kd.C_alloc ?_ _) | (with_reducible refine Kd.C_drewN ?_ _) | (with_reducible refine Kd.C_drew ?_))); (case side2 => exact (Kd.R_reads' HO142.out).2.1); rintro e w' ⟨rfl, ⟨nd, rfl⟩⟩) | (go_at_call 12; (refine (wire_Sum.calls k _ _ ([] : List Int) t139 _ ?side1 ?side2 A10.out).mono ?_); (case side1 => exact Kd.C_nil _ _); (case side2 => exact Nat.le_refl _); rintro e w' ⟨rfl, ⟨nd, rfl⟩⟩))
  go_ret
  exact ⟨by first | rfl | (simp [errW_none, errW_some] <;> rfl) | (simp [*, errW_none, errW_some] <;> rfl), by repeat (first | (with_reducible first | exact HB.out | apply below_alloc | apply pw_below_drewN | apply below_drew1) | exact HB.out)⟩

end Go.Proofs.Ytfhhjoblfnbnkaa.P
