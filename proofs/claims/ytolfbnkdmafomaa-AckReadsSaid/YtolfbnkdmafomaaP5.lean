-- WRITTEN BY xprint.py, a program of this session that drives the kit's printer.
import Derived.Test.YtolfbnkdmafomaaP0
import Derived.Test.YtolfbnkdmafomaaP3
import Derived.Test.YtolfbnkdmafomaaP4
namespace Go.Proofs.Ytolfbnkdmafomaa.P
open Go.RowKit Go.Proofs.YtolfbnkdmafomaaW.PrintWords Go.Proofs.YtolfbnkdmafomaaW.PrintLast Go.Proofs.YtolfbnkdmafomaaW.PrintMore
attribute [local go_sem] max2_int min2_int max_two min_two max_three min_three max_four min_four   -- for this text's walks alone
set_option linter.unusedVariables false
set_option linter.unusedSimpArgs false

/-! ### thalweglaw07_awake: function 9 -/
def thalweglaw07_awake.f (k : Nat)  : Option (Bool) := (ack_Of.f k 5 (([7, 6, 30] : List Int))).bind fun bt128 => (if bt128.2.2.2.1 = 3 then (if bt128.2.2.1 = 5 then (if bt128.2.2.2.2 = 0 then ((ack_Has.f k bt128.1 bt128.2.1 bt128.2.2.1 bt128.2.2.2.1 4).bind fun t134 => (if t134 = true then ((ack_Has.f k bt128.1 bt128.2.1 bt128.2.2.1 bt128.2.2.2.1 5).bind fun t135 => (if t135 = true then (none) else ((ack_Has.f k bt128.1 bt128.2.1 bt128.2.2.1 bt128.2.2.2.1 6).bind fun t136 => (if t136 = true then ((ack_Has.f k bt128.1 bt128.2.1 bt128.2.2.1 bt128.2.2.2.1 8).bind fun t137 => (some (!t137))) else (none))))) else (none))) else (none)) else (none)) else (none))
theorem thalweglaw07_awake.mono : ∀ k, LeO (thalweglaw07_awake.f k ) (thalweglaw07_awake.f (k + 1) ) := by
  intro  k
  unfold thalweglaw07_awake.f
  repeat' first
      | (with_reducible exact ack_Has.mono _ _ _ _ _ _)
      | (with_reducible exact ack_Of.mono _ _ _)
      | (with_reducible exact LeO.refl _)
      | (with_reducible exact LeO.none _)
      | (with_reducible refine LeO.ite ?_ ?_)
      | (with_reducible refine LeO.bind ?_ (fun _ => ?_))
      | exact ack_Has.mono _ _ _ _ _ _
      | exact ack_Of.mono _ _ _
      | exact LeO.none _
      | refine LeO.ite ?_ ?_
      | refine LeO.bind ?_ (fun _ => ?_)
set_option maxHeartbeats 8000000 in
set_option maxRecDepth 100000 in
theorem thalweglaw07_awake.calls (k : Nat)  (r : Bool) (w : World) (h : thalweglaw07_awake.f k  = some r) :
    Calls Try.prog 9 #[] w fun e w' => e = .returned (.bool r) ∧ Below w.heap.size w w' := by
  have hu24 := Try.underlying24
  have HB := Aside0.mk (Below.refl w.heap.size w)
  have H : ((ack_Of.f k 5 (([7, 6, 30] : List Int))).bind fun bt128 => (if bt128.2.2.2.1 = 3 then (if bt128.2.2.1 = 5 then (if bt128.2.2.2.2 = 0 then ((ack_Has.f k bt128.1 bt128.2.1 bt128.2.2.1 bt128.2.2.2.1 4).bind fun t134 => (if t134 = true then ((ack_Has.f k bt128.1 bt128.2.1 bt128.2.2.1 bt128.2.2.2.1 5).bind fun t135 => (if t135 = true then (none) else ((ack_Has.f k bt128.1 bt128.2.1 bt128.2.2.1 bt128.2.2.2.1 6).bind fun t136 => (if t136 = true then ((ack_Has.f k bt128.1 bt128.2.1 bt128.2.2.1 bt128.2.2.2.1 8).bind fun t137 => (some (!t137))) else (none))))) else (none))) else (none)) else (none)) else (none))) = some r := h
  clear h
  obtain ⟨y125, hy125⟩ : ∃ y_ : List Int, y_ = (([7, 6, 30] : List Int)) := ⟨_, rfl⟩
  replace H : ((ack_Of.f k 5 y125).bind fun bt128 => (if bt128.2.2.2.1 = 3 then (if bt128.2.2.1 = 5 then (if bt128.2.2.2.2 = 0 then ((ack_Has.f k bt128.1 bt128.2.1 bt128.2.2.1 bt128.2.2.2.1 4).bind fun t134 => (if t134 = true then ((ack_Has.f k bt128.1 bt128.2.1 bt128.2.2.1 bt128.2.2.2.1 5).bind fun t135 => (if t135 = true then (none) else ((ack_Has.f k bt128.1 bt128.2.1 bt128.2.2.1 bt128.2.2.2.1 6).bind fun t136 => (if t136 = true then ((ack_Has.f k bt128.1 bt128.2.1 bt128.2.2.1 bt128.2.2.2.1 8).bind fun t137 => (some (!t137))) else (none))))) else (none))) else (none)) else (none)) else (none))) = some r := by first | (rw [hy125]; with_reducible exact H) | (have H2_ := (Option.bind_some _ _).symm.trans H; rw [hy125]; with_reducible exact H2_) | (have H2_ := (Option.bind_some _ _).symm.trans H; with_reducible exact H2_) | with_reducible exact H | (rw [hy125]; exact H) | exact H
  have Ny125 := Aside0.mk hy125
  clear hy125
  replace H := Option.bind_eq_some_iff.mp H
  obtain ⟨⟨t128, t129, t130, t131, t132⟩, A10, H⟩ := H
  replace H : (if t131 = 3 then (if t130 = 5 then (if t132 = 0 then ((ack_Has.f k t128 t129 t130 t131 4).bind fun t134 => (if t134 = true then ((ack_Has.f k t128 t129 t130 t131 5).bind fun t135 => (if t135 = true then (none) else ((ack_Has.f k t128 t129 t130 t131 6).bind fun t136 => (if t136 = true then ((ack_Has.f k t128 t129 t130 t131 8).bind fun t137 => (some (!t137))) else (none))))) else (none))) else (none)) else (none)) else (none)) = some r := H
  have A1 := Aside0.mk A10
  clear A10
  by_cases c2 : t131 = 3
  rotate_left
  · rw [if_neg c2] at H
    exact absurd H (by simp)
  rw [if_pos c2] at H
  have c2b0 : (t131 == 3) = true := beq_iff_eq.mpr c2
  have c2b1 : (t131 != 3) = false := bne_eq_false_iff_eq.mpr c2
  clear c2
  by_cases c3 : t130 = 5
  rotate_left
  · rw [if_neg c3] at H
    exact absurd H (by simp)
  rw [if_pos c3] at H
  have c3b0 : (t130 == 5) = true := beq_iff_eq.mpr c3
  have c3b1 : (t130 != 5) = false := bne_eq_false_iff_eq.mpr c3
  clear c3
  by_cases c4 : t132 = 0
  rotate_left
  · rw [if_neg c4] at H
    exact absurd H (by simp)
  rw [if_pos c4] at H
  have c4b0 : (t132 == 0) = true := beq_iff_eq.mpr c4
  have c4b1 : (t132 != 0) = false := bne_eq_false_iff_eq.mpr c4
  clear c4
  replace H := Option.bind_eq_some_iff.mp H
  obtain ⟨t134, A50, H⟩ := H
  replace H : (if t134 = true then ((ack_Has.f k t128 t129 t130 t131 5).bind fun t135 => (if t135 = true then (none) else ((ack_Has.f k t128 t129 t130 t131 6).bind fun t136 => (if t136 = true then ((ack_Has.f k t128 t129 t130 t131 8).bind fun t137 => (some (!t137))) else (none))))) else (none)) = some r := H
  have A5 := Aside0.mk A50
  clear A50
  by_cases c6 : t134 = true
  · subst c6
    have H1 : ((ack_Has.f k t128 t129 t130 t131 5).bind fun t135 => (if t135 = true then (none) else ((ack_Has.f k t128 t129 t130 t131 6).bind fun t136 => (if t136 = true then ((ack_Has.f k t128 t129 t130 t131 8).bind fun t137 => (some (!t137))) else (none))))) = some r := by rw [if_pos rfl] at H; exact H
    clear H
    have H := H1
    clear H1
    replace H := Option.bind_eq_some_iff.mp H
    obtain ⟨t135, A70, H⟩ := H
    replace H : (if t135 = true then (none) else ((ack_Has.f k t128 t129 t130 t131 6).bind fun t136 => (if t136 = true then ((ack_Has.f k t128 t129 t130 t131 8).bind fun t137 => (some (!t137))) else (none)))) = some r := H
    have A7 := Aside0.mk A70
    clear A70
    by_cases c8 : t135 = true
    · subst c8
      have H1 : (none) = some r := by rw [if_pos rfl] at H; exact H
      clear H
      have H := H1
      clear H1
      exact absurd H (by simp)
    · replace c8 := Bool.eq_false_iff.mpr c8
      subst c8
      have H1 : ((ack_Has.f k t128 t129 t130 t131 6).bind fun t136 => (if t136 = true then ((ack_Has.f k t128 t129 t130 t131 8).bind fun t137 => (some (!t137))) else (none))) = some r := by rw [if_neg (show ¬ (false = true) by decide)] at H; exact H
      clear H
      have H := H1
      clear H1
      replace H := Option.bind_eq_some_iff.mp H
      obtain ⟨t136, A90, H⟩ := H
      replace H : (if t136 = true then ((ack_Has.f k t128 t129 t130 t131 8).bind fun t137 => (some (!t137))) else (none)) = some r := H
      have A9 := Aside0.mk A90
      clear A90
      by_cases c10 : t136 = true
      · subst c10
        have H1 : ((ack_Has.f k t128 t129 t130 t131 8).bind fun t137 => (some (!t137))) = some r := by rw [if_pos rfl] at H; exact H
        clear H
        have H := H1
        clear H1
        replace H := Option.bind_eq_some_iff.mp H
        obtain ⟨t137, A110, H⟩ := H
        replace H : (some (!t137)) = some r := H
        have A11 := Aside0.mk A110
        clear A110
        obtain rfl := Option.some.inj H
        go_enter Try.func9, Try.ntmps9
        go_wp2_with (first | ((with_reducible refine gate_dst (N := 4) rfl ?_); refine Kd.R_lit (Kd.int .i64) _ 3 ?hg (N := 4) ?hd (xs := ([7, 6, 30] : List Int)) (inner := [.int .i64 7, .int .i64 6, .int .i64 30]) (ok := fun _ => True) (okp := fun _ => True) ?hr ?hp (fun _ hk => hk) trivial (Below.refl _ _) (Nat.le_refl _) (by simp) ?_; (case hd => rfl); (case hg => rfl); (case hr => first | (go_simp; done) | (go_simp; rfl)); (case hp => exact (Reps.one (show Kd.M (Kd.int .i64) _ _ _ 7 [.int .i64 7] from rfl) (Reps.one (show Kd.M (Kd.int .i64) _ _ _ 6 [.int .i64 6] from rfl) (Reps.one (show Kd.M (Kd.int .i64) _ _ _ 30 [.int .i64 30] from rfl) (Reps.none _ _))))); intro v126 w12 ho13 hb hg_ hnew_; clear hg_ hnew_; (first | rw [← Ny125.out] at ho13 | (simp only [Int.reduceToNat] at ho13; rw [← Ny125.out] at ho13)); have n0_ := Aside0.mk (Kd.R_lower ho13 (below_size (by repeat (first | (with_reducible first | exact HB.out | apply below_alloc | apply pw_below_drewN | apply below_drew1) | exact HB.out)))); have n1_ := Aside0.mk (below_step (by repeat (first | (with_reducible first | exact HB.out | apply below_alloc | apply pw_below_drewN | apply below_drew1) | exact HB.out)) hb); clear HB; have HO127 := n0_; have HB := n1_; clear n0_ n1_; clear hb ho13; obtain ⟨Ao14, co14, eo14⟩ := Kd.R_slice HO127.out; subst eo14) | ((with_reducible refine gate_callee (f := 8) rfl ?_); refine goesL_ (some 5) rfl rfl Try.func8 (by kernel_rfl) rfl #[.int .i64 5, .slice Ao14 y125.length co14] rfl (by (try simp only [List.map_toArray, List.map_cons, List.map_nil]); first | done | rfl | (simp only [List.length_drop, List.length_take]; rfl)) ?_; (with_reducible refine (ack_Of.calls k 5 _ _ y125 t128 t129 t130 t131 t132 _ ?side1 ?side2 A1.out).mono ?_); (case side1 => repeat (first | exact (Kd.R_reads' HO127.out).2.2 | (with_reducible refine Kd.C_alloc ?_ _) | (with_reducible refine Kd.C_drewN ?_ _) | (with_reducible refine Kd.C_drew ?_))); (case side2 => exact (Kd.R_reads' HO127.out).2.1); rintro e w15 ⟨rfl, hb⟩; refine ⟨_, rfl, ?_⟩; have n0_ := Aside0.mk (Kd.R_below (by (with_reducible repeat (first | apply Kd.R_alloc | apply Kd.R_drewN | apply Kd.R_drew)); exact HO127.out) hb); have n1_ := Aside0.mk (below_step (by repeat (first | (with_reducible first | exact HB.out | apply below_alloc | apply pw_below_drewN | apply below_drew1) | exact HB.out)) hb); clear HO127; clear HB; have HO127 := n0_; have HB := n1_; clear n0_ n1_; (try clear hb); (try clear hb2); (try clear hk); (try clear hi)) | ((with_reducible refine gate_dst (N := 1) rfl ?_); refine box_event ?hg (N := 1) ?hd (cs := #[.int .i64 0, .int .i64 0, .int .i64 0, .int .i64 0]) (t := 24) ?hr ?_; (case hd => rfl); (case hg => rfl); (case hr => first | (go_simp; done) | (go_simp; rfl)); intro gb133 hg w16 hbox hb; have n0_ := Aside0.mk (Kd.R_below (by (with_reducible repeat (first | apply Kd.R_alloc | apply Kd.R_drewN | apply Kd.R_drew)); exact HO127.out) hb); have n1_ := Aside0.mk (below_step (by repeat (first | (with_reducible first | exact HB.out | apply below_alloc | apply pw_below_drewN | apply below_drew1) | exact HB.out)) hb); have n2_ := Aside0.mk (hbox); have n3_ := Aside0.mk ((by rw [hg]; exact (below_size (by repeat (first | (with_reducible first | exact HB.out | apply below_alloc | apply pw_below_drewN | apply below_drew1) | exact HB.out))) : w.heap.size ≤ gb133)); have n4_ := Aside0.mk ((by rw [hg]; exact (below_size (by repeat (first | (with_reducible first | exact HB.out | apply below_alloc | apply pw_below_drewN | apply below_drew1) | exact HB.out))) : w.heap.size ≤ gb133)); clear HO127; clear HB; have HO127 := n0_; have HB := n1_; have BK133 := n2_; have GW133 := n3_; have GE133 := n4_; clear n0_ n1_ n2_ n3_ n4_; clear hb hbox hg; have hcz17_0 : w16.cell? ⟨gb133, 0, none⟩ = some (.int .i64 0) := (blk_cell BK133.out 0).trans rfl; have hcz17_1 : w16.cell? ⟨gb133, 1, none⟩ = some (.int .i64 0) := (blk_cell BK133.out 1).trans rfl; have hcz17_2 : w16.cell? ⟨gb133, 2, none⟩ = some (.int .i64 0) := (blk_cell BK133.out 2).trans rfl; have hcz17_3 : w16.cell? ⟨gb133, 3, none⟩ = some (.int .i64 0) := (blk_cell BK133.out 3).trans rfl; have hfz17_0 := blk_frozen BK133.out 0; have hfz17_1 := blk_frozen BK133.out 1; have hfz17_2 := blk_frozen BK133.out 2; have hfz17_3 := blk_frozen BK133.out 3) | (go_at_call 11; (with_reducible refine (ack_Has.calls k t128 t129 t130 t131 4 true _ A5.out).mono ?_); rintro e w18 ⟨rfl, hb⟩; have n0_ := Aside0.mk (Kd.R_below (by (with_reducible repeat (first | apply Kd.R_alloc | apply Kd.R_drewN | apply Kd.R_drew)); exact (Kd.R_mono (Kd.R_far (p := ⟨gb133, 3, none⟩) (Kd.R_far (p := ⟨gb133, 2, none⟩) (Kd.R_far (p := ⟨gb133, 1, none⟩) (Kd.R_far (p := ⟨gb133, 0, none⟩) (Kd.R_types HO127.out BK133.out (by decide)) (fun _ hk => hk.2) (.int .i64 t128)) (fun _ hk => hk.2) (.int .i64 t129)) (fun _ hk => hk.2) (.int .i64 t130)) (fun _ hk => hk.2) (.int .i64 t131)) (fun _ h_ => h_.1))) hb); have n1_ := Aside0.mk (blk_below (g := gb133) (o := .cells #[.int .i64 t128, .int .i64 t129, .int .i64 t130, .int .i64 t131] 24 (0, 0)) (by (with_reducible repeat (first | refine blk_drewN ?_ _ | refine blk_drew ?_ | refine blk_alloc ?_ _)); refine blk_put (cs := #[.int .i64 t128, .int .i64 t129, .int .i64 t130, .int .i64 0]) ?_ 3 _ rfl; (with_reducible repeat (first | refine blk_drewN ?_ _ | refine blk_drew ?_ | refine blk_alloc ?_ _)); refine blk_put (cs := #[.int .i64 t128, .int .i64 t129, .int .i64 0, .int .i64 0]) ?_ 2 _ rfl; (with_reducible repeat (first | refine blk_drewN ?_ _ | refine blk_drew ?_ | refine blk_alloc ?_ _)); refine blk_put (cs := #[.int .i64 t128, .int .i64 0, .int .i64 0, .int .i64 0]) ?_ 1 _ rfl; (with_reducible repeat (first | refine blk_drewN ?_ _ | refine blk_drew ?_ | refine blk_alloc ?_ _)); refine blk_put (cs := #[.int .i64 0, .int .i64 0, .int .i64 0, .int .i64 0]) ?_ 0 _ rfl; (with_reducible repeat (first | refine blk_drewN ?_ _ | refine blk_drew ?_ | refine blk_alloc ?_ _)); exact BK133.out) hb); have n2_ := Aside0.mk (below_step (by repeat (first | (with_reducible first | exact HB.out | apply below_alloc | apply pw_below_drewN | apply below_drew1 | refine below_set ?_ GE133.out) | exact HB.out)) hb); clear HO127; clear BK133; clear HB; have HO127 := n0_; have BK133 := n1_; have HB := n2_; clear n0_ n1_ n2_; (try clear hb); (try clear hb2); (try clear hk); (try clear hi); have hcz19_0 : w18.cell? ⟨gb133, 0, none⟩ = some (.int .i64 t128) := (blk_cell BK133.out 0).trans rfl; have hcz19_1 : w18.cell? ⟨gb133, 1, none⟩ = some (.int .i64 t129) := (blk_cell BK133.out 1).trans rfl; have hcz19_2 : w18.cell? ⟨gb133, 2, none⟩ = some (.int .i64 t130) := (blk_cell BK133.out 2).trans rfl; have hcz19_3 : w18.cell? ⟨gb133, 3, none⟩ = some (.int .i64 t131) := (blk_cell BK133.out 3).trans rfl; have hfz19_0 := blk_frozen BK133.out 0; have hfz19_1 := blk_frozen BK133.out 1; have hfz19_2 := blk_frozen BK133.out 2; have hfz19_3 := blk_frozen BK133.out 3) | (go_at_call 11; (with_reducible refine (ack_Has.calls k t128 t129 t130 t131 5 false _ A7.out).mono ?_); rintro e w20 ⟨rfl, hb⟩; have n0_ := Aside0.mk (Kd.R_below (by (with_reducible repeat (first | apply Kd.R_alloc | apply Kd.R_drewN | apply Kd.R_drew)); exact HO127.out) hb); have n1_ := Aside0.mk (blk_below (g := gb133) (o := .cells #[.int .i64 t128, .int .i64 t129, .int .i64 t130, .int .i64 t131] 24 (0, 0)) (by (with_reducible repeat (first | refine blk_drewN ?_ _ | refine blk_drew ?_ | refine blk_alloc ?_ _)); exact BK133.out) hb); have n2_ := Aside0.mk (below_step (by repeat (first | (with_reducible first | exact HB.out | apply below_alloc | apply pw_below_drewN | apply below_drew1 | refine below_set ?_ GE133.out) | exact HB.out)) hb); clear HO127; clear BK133; clear HB; have HO127 := n0_; have BK133 := n1_; have HB := n2_; clear n0_ n1_ n2_; (try clear hb); (try clear hb2); (try clear hk); (try clear hi); have hcz21_0 : w20.cell? ⟨gb133, 0, none⟩ = some (.int .i64 t128) := (blk_cell BK133.out 0).trans rfl; have hcz21_1 : w20.cell? ⟨gb133, 1, none⟩ = some (.int .i64 t129) := (blk_cell BK133.out 1).trans rfl; have hcz21_2 : w20.cell? ⟨gb133, 2, none⟩ = some (.int .i64 t130) := (blk_cell BK133.out 2).trans rfl; have hcz21_3 : w20.cell? ⟨gb133, 3, none⟩ = some (.int .i64 t131) := (blk_cell BK133.out 3).trans rfl; have hfz21_0 := blk_frozen BK133.out 0; have hfz21_1 := blk_frozen BK133.out 1; have hfz21_2 := blk_frozen BK133.out 2; have hfz21_3 := blk_frozen BK133.out 3) | (go_at_call 11; (with_reducible refine (ack_Has.calls k t128 t129 t130 t131 6 true _ A9.out).mono ?_); rintro e w22 ⟨rfl, hb⟩; have n0_ := Aside0.mk (Kd.R_below (by (with_reducible repeat (first | apply Kd.R_alloc | apply Kd.R_drewN | apply Kd.R_drew)); exact HO127.out) hb); have n1_ := Aside0.mk (blk_below (g := gb133) (o := .cells #[.int .i64 t128, .int .i64 t129, .int .i64 t130, .int .i64 t131] 24 (0, 0)) (by (with_reducible repeat (first | refine blk_drewN ?_ _ | refine blk_drew ?_ | refine blk_alloc ?_ _)); exact BK133.out) hb); have n2_ := Aside0.mk (below_step (by repeat (first | (with_reducible first | exact HB.out | apply below_alloc | apply pw_below_drewN | apply below_drew1 | refine below_set ?_ GE133.out) | exact HB.out)) hb); clear HO127; clear BK133; clear HB; have HO127 := n0_; have BK133 := n1_; have HB := n2_; clear n0_ n1_ n2_; (try clear hb); (try clear hb2); (try clear hk); (try clear hi); have hcz23_0 : w22.cell? ⟨gb133, 0, none⟩ = some (.int .i64 t128) := (blk_cell BK133.out 0).trans rfl; have hcz23_1 : w22.cell? ⟨gb133, 1, none⟩ = some (.int .i64 t129) := (blk_cell BK133.out 1).trans rfl; have hcz23_2 : w22.cell? ⟨gb133, 2, none⟩ = some (.int .i64 t130) := (blk_cell BK133.out 2).trans rfl; have hcz23_3 : w22.cell? ⟨gb133, 3, none⟩ = some (.int .i64 t131) := (blk_cell BK133.out 3).trans rfl; have hfz23_0 := blk_frozen BK133.out 0; have hfz23_1 := blk_frozen BK133.out 1; have hfz23_2 := blk_frozen BK133.out 2; have hfz23_3 := blk_frozen BK133.out 3) | (go_at_call 11; (with_reducible refine (ack_Has.calls k t128 t129 t130 t131 8 t137 _ A11.out).mono ?_); rintro e w24 ⟨rfl, hb⟩; have n0_ := Aside0.mk (Kd.R_below (by (with_reducible repeat (first | apply Kd.R_alloc | apply Kd.R_drewN | apply Kd.R_drew)); exact HO127.out) hb); have n1_ := Aside0.mk (blk_below (g := gb133) (o := .cells #[.int .i64 t128, .int .i64 t129, .int .i64 t130, .int .i64 t131] 24 (0, 0)) (by (with_reducible repeat (first | refine blk_drewN ?_ _ | refine blk_drew ?_ | refine blk_alloc ?_ _)); exact BK133.out) hb); have n2_ := Aside0.mk (below_step (by repeat (first | (with_reducible first | exact HB.out | apply below_alloc | apply pw_below_drewN | apply below_drew1 | refine below_set ?_ GE133.out) | exact HB.out)) hb); clear HO127; clear BK133; clear HB; have HO127 := n0_; have BK133 := n1_; have HB := n2_; clear n0_ n1_ n2_; (try clear hb); (try clear hb2); (try clear hk); (try clear hi)))
        go_ret
        exact ⟨by first | rfl | (simp [errW_none, errW_some] <;> rfl) | (simp [*, errW_none, errW_some] <;> rfl), by repeat (first | (with_reducible first | exact HB.out | apply below_alloc | apply pw_below_drewN | apply below_drew1 | refine below_set ?_ GE133.out) | exact HB.out)⟩
      · replace c10 := Bool.eq_false_iff.mpr c10
        subst c10
        have H1 : (none) = some r := by rw [if_neg (show ¬ (false = true) by decide)] at H; exact H
        clear H
        have H := H1
        clear H1
        exact absurd H (by simp)
  · replace c6 := Bool.eq_false_iff.mpr c6
    subst c6
    have H1 : (none) = some r := by rw [if_neg (show ¬ (false = true) by decide)] at H; exact H
    clear H
    have H := H1
    clear H1
    exact absurd H (by simp)

end Go.Proofs.Ytolfbnkdmafomaa.P
