-- WRITTEN BY xprint.py, a program of this session that drives the kit's printer.
import Derived.Test.YtmcmemknikineaaP0
import Derived.Test.YtmcmemknikineaaP1
import Derived.Test.YtmcmemknikineaaP2
import Derived.Test.YtmcmemknikineaaP13
import Derived.Test.YtmcmemknikineaaP14
namespace Go.Proofs.Ytmcmemknikineaa.P
open Go.RowKit Go.Proofs.YtmcmemknikineaaW.PrintWords Go.Proofs.YtmcmemknikineaaW.PrintLast Go.Proofs.YtmcmemknikineaaW.PrintMore
attribute [local go_sem] max2_int min2_int max_two min_two max_three min_three max_four min_four   -- for this text's walks alone
set_option linter.unusedVariables false
set_option linter.unusedSimpArgs false

attribute [local go_sem high] eqA23 eqA25
/-! ### thalwegref04_Right: function 11 -/
def thalwegref04_Right.j0 : Nat → Bool → Int → Int → Bool → Int → Int → Int → Int → Int → Int → Int → Int → Int → Option (Bool)
  | 0, _, _, _, _, _, _, _, _, _, _, _, _, _ => none
  | k + 1, x12, x233000, x233001, x233002, x233003, x233004, x233005, x233006, x233007, x233008, x233009, x233010, x233011 => if x12 = true then (some false) else (if x233000 = 1 then (if (x233008 == 0 && (x233009 == 0 && (x233010 == 0))) = true then (if (!x233002 && (x233003 == 0 && (x233004 == 0 && (x233005 == 0 && (x233006 == 0 && (x233007 == 0)))))) = true then (some (x233011 == 0)) else (some false)) else (some false)) else (if x233000 = 2 then (if (x233008 == 0 && (x233009 == 0 && (x233010 == 0))) = true then (if x233011 = 0 then ((thalwegref02_Right.f k x233002 x233003 x233004 x233005 x233006 x233007).bind fun t233 => (some t233)) else (some false)) else (some false)) else (if x233000 = 3 then (if (!x233002 && (x233003 == 0 && (x233004 == 0 && (x233005 == 0 && (x233006 == 0 && (x233007 == 0)))))) = true then (if x233011 = 0 then ((thalwegref02_Right.f k false x233008 x233009 x233010 0 0).bind fun t234 => (some t234)) else (some false)) else (some false)) else (if x233000 = 4 then (if (x233008 == 0 && (x233009 == 0 && (x233010 == 0))) = true then (if x233011 ≥ 0 then (if x233011 ≤ 65535 then ((thalwegref02_Told.f k x233002 x233003 x233004 x233005 x233006 x233007).bind fun t235 => (some t235)) else (some false)) else (some false)) else (some false)) else (some false)))))
def thalwegref04_Right.f (k : Nat) (a0_0 : Int) (a0_1 : Int) (a0_2 : Bool) (a0_3 : Int) (a0_4 : Int) (a0_5 : Int) (a0_6 : Int) (a0_7 : Int) (a0_8 : Int) (a0_9 : Int) (a0_10 : Int) (a0_11 : Int) : Option (Bool) := if a0_1 < 0 then (thalwegref04_Right.j0 k true a0_0 a0_1 a0_2 a0_3 a0_4 a0_5 a0_6 a0_7 a0_8 a0_9 a0_10 a0_11) else (thalwegref04_Right.j0 k (decide (a0_1 ≥ 64)) a0_0 a0_1 a0_2 a0_3 a0_4 a0_5 a0_6 a0_7 a0_8 a0_9 a0_10 a0_11)
theorem thalwegref04_Right.mono_l : ∀ k, (∀ y0 y1 y2 y3 y4 y5 y6 y7 y8 y9 y10 y11 y12, LeO (thalwegref04_Right.j0 k y0 y1 y2 y3 y4 y5 y6 y7 y8 y9 y10 y11 y12) (thalwegref04_Right.j0 (k + 1) y0 y1 y2 y3 y4 y5 y6 y7 y8 y9 y10 y11 y12))
  | 0 => fun _ _ _ _ _ _ _ _ _ _ _ _ _ r h => by simp [thalwegref04_Right.j0] at h
  | k + 1 => by
    have ih0 := thalwegref04_Right.mono_l k
    · intro y0 y1 y2 y3 y4 y5 y6 y7 y8 y9 y10 y11 y12
      unfold thalwegref04_Right.j0
      repeat' first
      | (with_reducible exact ih0 _ _ _ _ _ _ _ _ _ _ _ _ _)
      | (with_reducible exact thalwegref02_Right.mono _ _ _ _ _ _ _)
      | (with_reducible exact thalwegref02_Told.mono _ _ _ _ _ _ _)
      | (with_reducible exact LeO.refl _)
      | (with_reducible exact LeO.none _)
      | (with_reducible refine LeO.ite ?_ ?_)
      | (with_reducible refine LeO.bind ?_ (fun _ => ?_))
      | exact ih0 _ _ _ _ _ _ _ _ _ _ _ _ _
      | exact thalwegref02_Right.mono _ _ _ _ _ _ _
      | exact thalwegref02_Told.mono _ _ _ _ _ _ _
      | exact LeO.none _
      | refine LeO.ite ?_ ?_
      | refine LeO.bind ?_ (fun _ => ?_)
theorem thalwegref04_Right.mono : ∀ a0 a1 a2 a3 a4 a5 a6 a7 a8 a9 a10 a11 k, LeO (thalwegref04_Right.f k a0 a1 a2 a3 a4 a5 a6 a7 a8 a9 a10 a11) (thalwegref04_Right.f (k + 1) a0 a1 a2 a3 a4 a5 a6 a7 a8 a9 a10 a11) := by
  intro a0 a1 a2 a3 a4 a5 a6 a7 a8 a9 a10 a11 k
  have ih0 := thalwegref04_Right.mono_l k
  unfold thalwegref04_Right.f
  repeat' first
      | (with_reducible exact ih0 _ _ _ _ _ _ _ _ _ _ _ _ _)
      | (with_reducible exact thalwegref02_Right.mono _ _ _ _ _ _ _)
      | (with_reducible exact thalwegref02_Told.mono _ _ _ _ _ _ _)
      | (with_reducible exact LeO.refl _)
      | (with_reducible exact LeO.none _)
      | (with_reducible refine LeO.ite ?_ ?_)
      | (with_reducible refine LeO.bind ?_ (fun _ => ?_))
      | exact ih0 _ _ _ _ _ _ _ _ _ _ _ _ _
      | exact thalwegref02_Right.mono _ _ _ _ _ _ _
      | exact thalwegref02_Told.mono _ _ _ _ _ _ _
      | exact LeO.none _
      | refine LeO.ite ?_ ?_
      | refine LeO.bind ?_ (fun _ => ?_)
set_option maxHeartbeats 8000000 in
set_option maxRecDepth 100000 in
theorem thalwegref04_Right.calls (k : Nat) (a0_0 : Int) (a0_1 : Int) (a0_2 : Bool) (a0_3 : Int) (a0_4 : Int) (a0_5 : Int) (a0_6 : Int) (a0_7 : Int) (a0_8 : Int) (a0_9 : Int) (a0_10 : Int) (a0_11 : Int) (r : Bool) (w : World) (h : thalwegref04_Right.f k a0_0 a0_1 a0_2 a0_3 a0_4 a0_5 a0_6 a0_7 a0_8 a0_9 a0_10 a0_11 = some r) :
    Calls Try.prog 11 #[.agg #[.int .i64 a0_0, .int .i64 a0_1, .bool a0_2, .int .i64 a0_3, .int .i64 a0_4, .int .i64 a0_5, .int .i64 a0_6, .int .i64 a0_7, .int .i64 a0_8, .int .i64 a0_9, .int .i64 a0_10, .int .i64 a0_11]] w fun e w' => e = .returned (.bool r) ∧ Below w.heap.size w w' := by
  have hu27 := Try.underlying27
  have hu25 := Try.underlying25
  have hu23 := Try.underlying23
  have HB := Aside0.mk (Below.refl w.heap.size w)
  have H : (if a0_1 < 0 then (thalwegref04_Right.j0 k true a0_0 a0_1 a0_2 a0_3 a0_4 a0_5 a0_6 a0_7 a0_8 a0_9 a0_10 a0_11) else (thalwegref04_Right.j0 k (decide (a0_1 ≥ 64)) a0_0 a0_1 a0_2 a0_3 a0_4 a0_5 a0_6 a0_7 a0_8 a0_9 a0_10 a0_11)) = some r := h
  clear h
  have HC2 := Aside0.mk H
  clear H
  go_enter Try.func11, Try.ntmps11
  go_upto_region 1 with (first | ((with_reducible refine gate_dst (N := 1) rfl ?_); refine box_event ?hg (N := 1) ?hd (cs := #[.int .i64 a0_0, .int .i64 a0_1, .bool a0_2, .int .i64 a0_3, .int .i64 a0_4, .int .i64 a0_5, .int .i64 a0_6, .int .i64 a0_7, .int .i64 a0_8, .int .i64 a0_9, .int .i64 a0_10, .int .i64 a0_11]) (t := 27) ?hr ?_; (case hd => rfl); (case hg => rfl); (case hr => first | (go_simp; done) | (go_simp; rfl)); intro gb232 hg w3 hbox hb; have n0_ := Aside0.mk (below_step (by repeat (first | (with_reducible first | exact HB.out | apply below_alloc | apply pw_below_drewN | apply below_drew1) | exact HB.out)) hb); have n1_ := Aside0.mk (hbox); have n2_ := Aside0.mk ((by rw [hg]; exact (below_size (by repeat (first | (with_reducible first | exact HB.out | apply below_alloc | apply pw_below_drewN | apply below_drew1) | exact HB.out))) : w.heap.size ≤ gb232)); have n3_ := Aside0.mk ((by rw [hg]; exact (below_size (by repeat (first | (with_reducible first | exact HB.out | apply below_alloc | apply pw_below_drewN | apply below_drew1) | exact HB.out))) : w.heap.size ≤ gb232)); clear HB; have HB := n0_; have BK232 := n1_; have GW232 := n2_; have GE232 := n3_; clear n0_ n1_ n2_ n3_; clear hb hbox hg))
  (try simp only [Act.put, List.setIfInBounds_toArray, List.set_cons_zero, List.set_cons_succ])
  go_cut [12] (fun v12 wc => ∃ (kq : Nat) (x12_1 : Bool), v12 = .bool x12_1 ∧ Aside0 (thalwegref04_Right.j0 kq x12_1 a0_0 a0_1 a0_2 a0_3 a0_4 a0_5 a0_6 a0_7 a0_8 a0_9 a0_10 a0_11 = some r) ∧ Aside0 (kq ≤ k) ∧ Aside0 (wc.heap[gb232]? = some (.cells #[.int .i64 a0_0, .int .i64 a0_1, .bool a0_2, .int .i64 a0_3, .int .i64 a0_4, .int .i64 a0_5, .int .i64 a0_6, .int .i64 a0_7, .int .i64 a0_8, .int .i64 a0_9, .int .i64 a0_10, .int .i64 a0_11] 27 (0, 0))) ∧ Aside0 (Below w.heap.size w wc))
  case first =>
    have H := HC2.out
    clear HC2
    by_cases c4 : a0_1 < 0
    · rw [if_pos c4] at H
      have c4b0 : decide (a0_1 < 0) = true := decide_eq_true c4
      clear c4
      (first | rw [c4b0] | (simp only [i64_w, i32_w]; rw [c4b0]) | skip)
      have H' := Aside0.mk H
      clear H
      have hcz5_0 : w3.cell? ⟨gb232, 0, none⟩ = some (.int .i64 a0_0) := (blk_cell BK232.out 0).trans rfl
      have hcz5_1 : w3.cell? ⟨gb232, 1, none⟩ = some (.int .i64 a0_1) := (blk_cell BK232.out 1).trans rfl
      have hcz5_2 : w3.cell? ⟨gb232, 2, none⟩ = some (.bool a0_2) := (blk_cell BK232.out 2).trans rfl
      have hcz5_3 : w3.cell? ⟨gb232, 3, none⟩ = some (.int .i64 a0_3) := (blk_cell BK232.out 3).trans rfl
      have hcz5_4 : w3.cell? ⟨gb232, 4, none⟩ = some (.int .i64 a0_4) := (blk_cell BK232.out 4).trans rfl
      have hcz5_5 : w3.cell? ⟨gb232, 5, none⟩ = some (.int .i64 a0_5) := (blk_cell BK232.out 5).trans rfl
      have hcz5_6 : w3.cell? ⟨gb232, 6, none⟩ = some (.int .i64 a0_6) := (blk_cell BK232.out 6).trans rfl
      have hcz5_7 : w3.cell? ⟨gb232, 7, none⟩ = some (.int .i64 a0_7) := (blk_cell BK232.out 7).trans rfl
      have hcz5_8 : w3.cell? ⟨gb232, 8, none⟩ = some (.int .i64 a0_8) := (blk_cell BK232.out 8).trans rfl
      have hcz5_9 : w3.cell? ⟨gb232, 9, none⟩ = some (.int .i64 a0_9) := (blk_cell BK232.out 9).trans rfl
      have hcz5_10 : w3.cell? ⟨gb232, 10, none⟩ = some (.int .i64 a0_10) := (blk_cell BK232.out 10).trans rfl
      have hcz5_11 : w3.cell? ⟨gb232, 11, none⟩ = some (.int .i64 a0_11) := (blk_cell BK232.out 11).trans rfl
      have hfz5_0 := blk_frozen BK232.out 0
      have hfz5_1 := blk_frozen BK232.out 1
      have hfz5_2 := blk_frozen BK232.out 2
      have hfz5_3 := blk_frozen BK232.out 3
      have hfz5_4 := blk_frozen BK232.out 4
      have hfz5_5 := blk_frozen BK232.out 5
      have hfz5_6 := blk_frozen BK232.out 6
      have hfz5_7 := blk_frozen BK232.out 7
      have hfz5_8 := blk_frozen BK232.out 8
      have hfz5_9 := blk_frozen BK232.out 9
      have hfz5_10 := blk_frozen BK232.out 10
      have hfz5_11 := blk_frozen BK232.out 11
      go_wp2
      go_meet
      case rel => exact ⟨_, (true), (by first | rfl | (simp; done) | (simp [*]; done)), H', ⟨by first | omega | exact Nat.le_refl _⟩, ⟨by (with_reducible repeat (first | refine blk_drewN ?_ _ | refine blk_drew ?_ | refine blk_alloc ?_ _)); exact BK232.out⟩, ⟨by repeat (first | (with_reducible first | exact HB.out | apply below_alloc | apply pw_below_drewN | apply below_drew1 | refine below_set ?_ GE232.out) | exact HB.out)⟩⟩
    · rw [if_neg c4] at H
      have c4b0 : decide (a0_1 < 0) = false := decide_eq_false c4
      clear c4
      (first | rw [c4b0] | (simp only [i64_w, i32_w]; rw [c4b0]) | skip)
      have H' := Aside0.mk H
      clear H
      have hcz6_0 : w3.cell? ⟨gb232, 0, none⟩ = some (.int .i64 a0_0) := (blk_cell BK232.out 0).trans rfl
      have hcz6_1 : w3.cell? ⟨gb232, 1, none⟩ = some (.int .i64 a0_1) := (blk_cell BK232.out 1).trans rfl
      have hcz6_2 : w3.cell? ⟨gb232, 2, none⟩ = some (.bool a0_2) := (blk_cell BK232.out 2).trans rfl
      have hcz6_3 : w3.cell? ⟨gb232, 3, none⟩ = some (.int .i64 a0_3) := (blk_cell BK232.out 3).trans rfl
      have hcz6_4 : w3.cell? ⟨gb232, 4, none⟩ = some (.int .i64 a0_4) := (blk_cell BK232.out 4).trans rfl
      have hcz6_5 : w3.cell? ⟨gb232, 5, none⟩ = some (.int .i64 a0_5) := (blk_cell BK232.out 5).trans rfl
      have hcz6_6 : w3.cell? ⟨gb232, 6, none⟩ = some (.int .i64 a0_6) := (blk_cell BK232.out 6).trans rfl
      have hcz6_7 : w3.cell? ⟨gb232, 7, none⟩ = some (.int .i64 a0_7) := (blk_cell BK232.out 7).trans rfl
      have hcz6_8 : w3.cell? ⟨gb232, 8, none⟩ = some (.int .i64 a0_8) := (blk_cell BK232.out 8).trans rfl
      have hcz6_9 : w3.cell? ⟨gb232, 9, none⟩ = some (.int .i64 a0_9) := (blk_cell BK232.out 9).trans rfl
      have hcz6_10 : w3.cell? ⟨gb232, 10, none⟩ = some (.int .i64 a0_10) := (blk_cell BK232.out 10).trans rfl
      have hcz6_11 : w3.cell? ⟨gb232, 11, none⟩ = some (.int .i64 a0_11) := (blk_cell BK232.out 11).trans rfl
      have hfz6_0 := blk_frozen BK232.out 0
      have hfz6_1 := blk_frozen BK232.out 1
      have hfz6_2 := blk_frozen BK232.out 2
      have hfz6_3 := blk_frozen BK232.out 3
      have hfz6_4 := blk_frozen BK232.out 4
      have hfz6_5 := blk_frozen BK232.out 5
      have hfz6_6 := blk_frozen BK232.out 6
      have hfz6_7 := blk_frozen BK232.out 7
      have hfz6_8 := blk_frozen BK232.out 8
      have hfz6_9 := blk_frozen BK232.out 9
      have hfz6_10 := blk_frozen BK232.out 10
      have hfz6_11 := blk_frozen BK232.out 11
      go_wp2
      go_meet
      case rel => exact ⟨_, (decide (a0_1 ≥ 64)), (by first | rfl | (simp; done) | (simp [*]; done)), H', ⟨by first | omega | exact Nat.le_refl _⟩, ⟨by (with_reducible repeat (first | refine blk_drewN ?_ _ | refine blk_drew ?_ | refine blk_alloc ?_ _)); exact BK232.out⟩, ⟨by repeat (first | (with_reducible first | exact HB.out | apply below_alloc | apply pw_below_drewN | apply below_drew1 | refine below_set ?_ GE232.out) | exact HB.out)⟩⟩
  case rest =>
    clear HC2
    try clear c1
    try clear p2
    try clear c4
    try clear c4b0
    try clear hcz5_0
    try clear hcz5_1
    try clear hcz5_10
    try clear hcz5_11
    try clear hcz5_2
    try clear hcz5_3
    try clear hcz5_4
    try clear hcz5_5
    try clear hcz5_6
    try clear hcz5_7
    try clear hcz5_8
    try clear hcz5_9
    try clear hcz6_0
    try clear hcz6_1
    try clear hcz6_10
    try clear hcz6_11
    try clear hcz6_2
    try clear hcz6_3
    try clear hcz6_4
    try clear hcz6_5
    try clear hcz6_6
    try clear hcz6_7
    try clear hcz6_8
    try clear hcz6_9
    try clear hfz5_0
    try clear hfz5_1
    try clear hfz5_10
    try clear hfz5_11
    try clear hfz5_2
    try clear hfz5_3
    try clear hfz5_4
    try clear hfz5_5
    try clear hfz5_6
    try clear hfz5_7
    try clear hfz5_8
    try clear hfz5_9
    try clear hfz6_0
    try clear hfz6_1
    try clear hfz6_10
    try clear hfz6_11
    try clear hfz6_2
    try clear hfz6_3
    try clear hfz6_4
    try clear hfz6_5
    try clear hfz6_6
    try clear hfz6_7
    try clear hfz6_8
    try clear hfz6_9
    obtain ⟨kq, x12_1, rfl, HA, HJ1, BK232, HB⟩ := hcut
    cases kq with
    | zero => exact absurd HA.out (by simp [thalwegref04_Right.j0])
    | succ kj1 =>
      have H := HA.out
      clear HA
      simp only [thalwegref04_Right.j0] at H
      by_cases c7 : x12_1 = true
      · subst c7
        have H1 : (some false) = some r := by rw [if_pos rfl] at H; exact H
        clear H
        have H := H1
        clear H1
        obtain rfl := Option.some.inj H
        go_wp2
        go_ret
        exact ⟨by first | rfl | (simp [errW_none, errW_some] <;> rfl) | (simp [*, errW_none, errW_some] <;> rfl), by repeat (first | (with_reducible first | exact HB.out | apply below_alloc | apply pw_below_drewN | apply below_drew1 | refine below_set ?_ GE232.out) | exact HB.out)⟩
      · replace c7 := Bool.eq_false_iff.mpr c7
        subst c7
        have H1 : (if a0_0 = 1 then (if (a0_8 == 0 && (a0_9 == 0 && (a0_10 == 0))) = true then (if (!a0_2 && (a0_3 == 0 && (a0_4 == 0 && (a0_5 == 0 && (a0_6 == 0 && (a0_7 == 0)))))) = true then (some (a0_11 == 0)) else (some false)) else (some false)) else (if a0_0 = 2 then (if (a0_8 == 0 && (a0_9 == 0 && (a0_10 == 0))) = true then (if a0_11 = 0 then ((thalwegref02_Right.f kj1 a0_2 a0_3 a0_4 a0_5 a0_6 a0_7).bind fun t233 => (some t233)) else (some false)) else (some false)) else (if a0_0 = 3 then (if (!a0_2 && (a0_3 == 0 && (a0_4 == 0 && (a0_5 == 0 && (a0_6 == 0 && (a0_7 == 0)))))) = true then (if a0_11 = 0 then ((thalwegref02_Right.f kj1 false a0_8 a0_9 a0_10 0 0).bind fun t234 => (some t234)) else (some false)) else (some false)) else (if a0_0 = 4 then (if (a0_8 == 0 && (a0_9 == 0 && (a0_10 == 0))) = true then (if a0_11 ≥ 0 then (if a0_11 ≤ 65535 then ((thalwegref02_Told.f kj1 a0_2 a0_3 a0_4 a0_5 a0_6 a0_7).bind fun t235 => (some t235)) else (some false)) else (some false)) else (some false)) else (some false))))) = some r := by rw [if_neg (show ¬ (false = true) by decide)] at H; exact H
        clear H
        have H := H1
        clear H1
        by_cases c8 : a0_0 = 1
        · rw [if_pos c8] at H
          have c8b0 : (a0_0 == 1) = true := beq_iff_eq.mpr c8
          have c8b1 : (a0_0 != 1) = false := bne_eq_false_iff_eq.mpr c8
          clear c8
          by_cases c9 : (a0_8 == 0 && (a0_9 == 0 && (a0_10 == 0))) = true
          · rw [if_pos c9] at H
            have c9b0 : (a0_8 == 0 && (a0_9 == 0 && (a0_10 == 0))) = true := c9
            (try (have c9b1 : decide (a0_8 = 0 && (a0_9 == 0 && (a0_10 == 0))) = true := by simpa using c9))
            (try (have c9b2 : (a0_8 == 0 && (a0_9 == 0 && (a0_10 == 0))) = true := by simpa using c9))
            clear c9
            by_cases c10 : (!a0_2 && (a0_3 == 0 && (a0_4 == 0 && (a0_5 == 0 && (a0_6 == 0 && (a0_7 == 0)))))) = true
            · rw [if_pos c10] at H
              have c10b0 : (!a0_2 && (a0_3 == 0 && (a0_4 == 0 && (a0_5 == 0 && (a0_6 == 0 && (a0_7 == 0)))))) = true := c10
              clear c10
              obtain rfl := Option.some.inj H
              have hcz11_0 : wc.cell? ⟨gb232, 0, none⟩ = some (.int .i64 a0_0) := (blk_cell BK232.out 0).trans rfl
              have hcz11_1 : wc.cell? ⟨gb232, 1, none⟩ = some (.int .i64 a0_1) := (blk_cell BK232.out 1).trans rfl
              have hcz11_2 : wc.cell? ⟨gb232, 2, none⟩ = some (.bool a0_2) := (blk_cell BK232.out 2).trans rfl
              have hcz11_3 : wc.cell? ⟨gb232, 3, none⟩ = some (.int .i64 a0_3) := (blk_cell BK232.out 3).trans rfl
              have hcz11_4 : wc.cell? ⟨gb232, 4, none⟩ = some (.int .i64 a0_4) := (blk_cell BK232.out 4).trans rfl
              have hcz11_5 : wc.cell? ⟨gb232, 5, none⟩ = some (.int .i64 a0_5) := (blk_cell BK232.out 5).trans rfl
              have hcz11_6 : wc.cell? ⟨gb232, 6, none⟩ = some (.int .i64 a0_6) := (blk_cell BK232.out 6).trans rfl
              have hcz11_7 : wc.cell? ⟨gb232, 7, none⟩ = some (.int .i64 a0_7) := (blk_cell BK232.out 7).trans rfl
              have hcz11_8 : wc.cell? ⟨gb232, 8, none⟩ = some (.int .i64 a0_8) := (blk_cell BK232.out 8).trans rfl
              have hcz11_9 : wc.cell? ⟨gb232, 9, none⟩ = some (.int .i64 a0_9) := (blk_cell BK232.out 9).trans rfl
              have hcz11_10 : wc.cell? ⟨gb232, 10, none⟩ = some (.int .i64 a0_10) := (blk_cell BK232.out 10).trans rfl
              have hcz11_11 : wc.cell? ⟨gb232, 11, none⟩ = some (.int .i64 a0_11) := (blk_cell BK232.out 11).trans rfl
              have hfz11_0 := blk_frozen BK232.out 0
              have hfz11_1 := blk_frozen BK232.out 1
              have hfz11_2 := blk_frozen BK232.out 2
              have hfz11_3 := blk_frozen BK232.out 3
              have hfz11_4 := blk_frozen BK232.out 4
              have hfz11_5 := blk_frozen BK232.out 5
              have hfz11_6 := blk_frozen BK232.out 6
              have hfz11_7 := blk_frozen BK232.out 7
              have hfz11_8 := blk_frozen BK232.out 8
              have hfz11_9 := blk_frozen BK232.out 9
              have hfz11_10 := blk_frozen BK232.out 10
              have hfz11_11 := blk_frozen BK232.out 11
              go_wp2
              go_ret
              exact ⟨by first | rfl | (simp [errW_none, errW_some] <;> rfl) | (simp [*, errW_none, errW_some] <;> rfl), by repeat (first | (with_reducible first | exact HB.out | apply below_alloc | apply pw_below_drewN | apply below_drew1 | refine below_set ?_ GE232.out) | exact HB.out)⟩
            · rw [if_neg c10] at H
              have c10b0 : (!a0_2 && (a0_3 == 0 && (a0_4 == 0 && (a0_5 == 0 && (a0_6 == 0 && (a0_7 == 0)))))) = false := by simpa using c10
              clear c10
              obtain rfl := Option.some.inj H
              have hcz12_0 : wc.cell? ⟨gb232, 0, none⟩ = some (.int .i64 a0_0) := (blk_cell BK232.out 0).trans rfl
              have hcz12_1 : wc.cell? ⟨gb232, 1, none⟩ = some (.int .i64 a0_1) := (blk_cell BK232.out 1).trans rfl
              have hcz12_2 : wc.cell? ⟨gb232, 2, none⟩ = some (.bool a0_2) := (blk_cell BK232.out 2).trans rfl
              have hcz12_3 : wc.cell? ⟨gb232, 3, none⟩ = some (.int .i64 a0_3) := (blk_cell BK232.out 3).trans rfl
              have hcz12_4 : wc.cell? ⟨gb232, 4, none⟩ = some (.int .i64 a0_4) := (blk_cell BK232.out 4).trans rfl
              have hcz12_5 : wc.cell? ⟨gb232, 5, none⟩ = some (.int .i64 a0_5) := (blk_cell BK232.out 5).trans rfl
              have hcz12_6 : wc.cell? ⟨gb232, 6, none⟩ = some (.int .i64 a0_6) := (blk_cell BK232.out 6).trans rfl
              have hcz12_7 : wc.cell? ⟨gb232, 7, none⟩ = some (.int .i64 a0_7) := (blk_cell BK232.out 7).trans rfl
              have hcz12_8 : wc.cell? ⟨gb232, 8, none⟩ = some (.int .i64 a0_8) := (blk_cell BK232.out 8).trans rfl
              have hcz12_9 : wc.cell? ⟨gb232, 9, none⟩ = some (.int .i64 a0_9) := (blk_cell BK232.out 9).trans rfl
              have hcz12_10 : wc.cell? ⟨gb232, 10, none⟩ = some (.int .i64 a0_10) := (blk_cell BK232.out 10).trans rfl
              have hcz12_11 : wc.cell? ⟨gb232, 11, none⟩ = some (.int .i64 a0_11) := (blk_cell BK232.out 11).trans rfl
              have hfz12_0 := blk_frozen BK232.out 0
              have hfz12_1 := blk_frozen BK232.out 1
              have hfz12_2 := blk_frozen BK232.out 2
              have hfz12_3 := blk_frozen BK232.out 3
              have hfz12_4 := blk_frozen BK232.out 4
              have hfz12_5 := blk_frozen BK232.out 5
              have hfz12_6 := blk_frozen BK232.out 6
              have hfz12_7 := blk_frozen BK232.out 7
              have hfz12_8 := blk_frozen BK232.out 8
              have hfz12_9 := blk_frozen BK232.out 9
              have hfz12_10 := blk_frozen BK232.out 10
              have hfz12_11 := blk_frozen BK232.out 11
              go_wp2
              go_ret
              exact ⟨by first | rfl | (simp [errW_none, errW_some] <;> rfl) | (simp [*, errW_none, errW_some] <;> rfl), by repeat (first | (with_reducible first | exact HB.out | apply below_alloc | apply pw_below_drewN | apply below_drew1 | refine below_set ?_ GE232.out) | exact HB.out)⟩
          · rw [if_neg c9] at H
            have c9b0 : (a0_8 == 0 && (a0_9 == 0 && (a0_10 == 0))) = false := by simpa using c9
            (try (have c9b1 : decide (a0_8 = 0 && (a0_9 == 0 && (a0_10 == 0))) = false := by simpa using c9))
            (try (have c9b2 : (a0_8 == 0 && (a0_9 == 0 && (a0_10 == 0))) = false := by simpa using c9))
            (try (have c9b3 : ¬ (a0_8 = 0 && (a0_9 == 0 && (a0_10 == 0))) := by simpa using c9))
            clear c9
            obtain rfl := Option.some.inj H
            have hcz13_0 : wc.cell? ⟨gb232, 0, none⟩ = some (.int .i64 a0_0) := (blk_cell BK232.out 0).trans rfl
            have hcz13_1 : wc.cell? ⟨gb232, 1, none⟩ = some (.int .i64 a0_1) := (blk_cell BK232.out 1).trans rfl
            have hcz13_2 : wc.cell? ⟨gb232, 2, none⟩ = some (.bool a0_2) := (blk_cell BK232.out 2).trans rfl
            have hcz13_3 : wc.cell? ⟨gb232, 3, none⟩ = some (.int .i64 a0_3) := (blk_cell BK232.out 3).trans rfl
            have hcz13_4 : wc.cell? ⟨gb232, 4, none⟩ = some (.int .i64 a0_4) := (blk_cell BK232.out 4).trans rfl
            have hcz13_5 : wc.cell? ⟨gb232, 5, none⟩ = some (.int .i64 a0_5) := (blk_cell BK232.out 5).trans rfl
            have hcz13_6 : wc.cell? ⟨gb232, 6, none⟩ = some (.int .i64 a0_6) := (blk_cell BK232.out 6).trans rfl
            have hcz13_7 : wc.cell? ⟨gb232, 7, none⟩ = some (.int .i64 a0_7) := (blk_cell BK232.out 7).trans rfl
            have hcz13_8 : wc.cell? ⟨gb232, 8, none⟩ = some (.int .i64 a0_8) := (blk_cell BK232.out 8).trans rfl
            have hcz13_9 : wc.cell? ⟨gb232, 9, none⟩ = some (.int .i64 a0_9) := (blk_cell BK232.out 9).trans rfl
            have hcz13_10 : wc.cell? ⟨gb232, 10, none⟩ = some (.int .i64 a0_10) := (blk_cell BK232.out 10).trans rfl
            have hcz13_11 : wc.cell? ⟨gb232, 11, none⟩ = some (.int .i64 a0_11) := (blk_cell BK232.out 11).trans rfl
            have hfz13_0 := blk_frozen BK232.out 0
            have hfz13_1 := blk_frozen BK232.out 1
            have hfz13_2 := blk_frozen BK232.out 2
            have hfz13_3 := blk_frozen BK232.out 3
            have hfz13_4 := blk_frozen BK232.out 4
            have hfz13_5 := blk_frozen BK232.out 5
            have hfz13_6 := blk_frozen BK232.out 6
            have hfz13_7 := blk_frozen BK232.out 7
            have hfz13_8 := blk_frozen BK232.out 8
            have hfz13_9 := blk_frozen BK232.out 9
            have hfz13_10 := blk_frozen BK232.out 10
            have hfz13_11 := blk_frozen BK232.out 11
            go_wp2
            go_ret
            exact ⟨by first | rfl | (simp [errW_none, errW_some] <;> rfl) | (simp [*, errW_none, errW_some] <;> rfl), by repeat (first | (with_reducible first | exact HB.out | apply below_alloc | apply pw_below_drewN | apply below_drew1 | refine below_set ?_ GE232.out) | exact HB.out)⟩
        · rw [if_neg c8] at H
          have c8b0 : (a0_0 == 1) = false := beq_eq_false_iff_ne.mpr c8
          have c8b1 : (a0_0 != 1) = true := bne_iff_ne.mpr c8
          by_cases c14 : a0_0 = 2
          · rw [if_pos c14] at H
            have c14b0 : (a0_0 == 2) = true := beq_iff_eq.mpr c14
            have c14b1 : (a0_0 != 2) = false := bne_eq_false_iff_eq.mpr c14
            clear c14
            by_cases c15 : (a0_8 == 0 && (a0_9 == 0 && (a0_10 == 0))) = true
            · rw [if_pos c15] at H
              have c15b0 : (a0_8 == 0 && (a0_9 == 0 && (a0_10 == 0))) = true := c15
              (try (have c15b1 : decide (a0_8 = 0 && (a0_9 == 0 && (a0_10 == 0))) = true := by simpa using c15))
              (try (have c15b2 : (a0_8 == 0 && (a0_9 == 0 && (a0_10 == 0))) = true := by simpa using c15))
              clear c15
              by_cases c16 : a0_11 = 0
              · rw [if_pos c16] at H
                have c16b0 : (a0_11 == 0) = true := beq_iff_eq.mpr c16
                have c16b1 : (a0_11 != 0) = false := bne_eq_false_iff_eq.mpr c16
                clear c16
                replace H := Option.bind_eq_some_iff.mp H
                obtain ⟨t233, A170, H⟩ := H
                replace H : (some t233) = some r := H
                have A17 := Aside0.mk A170
                clear A170
                obtain rfl := Option.some.inj H
                have hcz18_0 : wc.cell? ⟨gb232, 0, none⟩ = some (.int .i64 a0_0) := (blk_cell BK232.out 0).trans rfl
                have hcz18_1 : wc.cell? ⟨gb232, 1, none⟩ = some (.int .i64 a0_1) := (blk_cell BK232.out 1).trans rfl
                have hcz18_2 : wc.cell? ⟨gb232, 2, none⟩ = some (.bool a0_2) := (blk_cell BK232.out 2).trans rfl
                have hcz18_3 : wc.cell? ⟨gb232, 3, none⟩ = some (.int .i64 a0_3) := (blk_cell BK232.out 3).trans rfl
                have hcz18_4 : wc.cell? ⟨gb232, 4, none⟩ = some (.int .i64 a0_4) := (blk_cell BK232.out 4).trans rfl
                have hcz18_5 : wc.cell? ⟨gb232, 5, none⟩ = some (.int .i64 a0_5) := (blk_cell BK232.out 5).trans rfl
                have hcz18_6 : wc.cell? ⟨gb232, 6, none⟩ = some (.int .i64 a0_6) := (blk_cell BK232.out 6).trans rfl
                have hcz18_7 : wc.cell? ⟨gb232, 7, none⟩ = some (.int .i64 a0_7) := (blk_cell BK232.out 7).trans rfl
                have hcz18_8 : wc.cell? ⟨gb232, 8, none⟩ = some (.int .i64 a0_8) := (blk_cell BK232.out 8).trans rfl
                have hcz18_9 : wc.cell? ⟨gb232, 9, none⟩ = some (.int .i64 a0_9) := (blk_cell BK232.out 9).trans rfl
                have hcz18_10 : wc.cell? ⟨gb232, 10, none⟩ = some (.int .i64 a0_10) := (blk_cell BK232.out 10).trans rfl
                have hcz18_11 : wc.cell? ⟨gb232, 11, none⟩ = some (.int .i64 a0_11) := (blk_cell BK232.out 11).trans rfl
                have hfz18_0 := blk_frozen BK232.out 0
                have hfz18_1 := blk_frozen BK232.out 1
                have hfz18_2 := blk_frozen BK232.out 2
                have hfz18_3 := blk_frozen BK232.out 3
                have hfz18_4 := blk_frozen BK232.out 4
                have hfz18_5 := blk_frozen BK232.out 5
                have hfz18_6 := blk_frozen BK232.out 6
                have hfz18_7 := blk_frozen BK232.out 7
                have hfz18_8 := blk_frozen BK232.out 8
                have hfz18_9 := blk_frozen BK232.out 9
                have hfz18_10 := blk_frozen BK232.out 10
                have hfz18_11 := blk_frozen BK232.out 11
                go_wp2_with (first | (go_at_call 21; (with_reducible refine (thalwegref02_Right.calls kj1 a0_2 a0_3 a0_4 a0_5 a0_6 a0_7 t233 _ A17.out).mono ?_); rintro e w19 ⟨rfl, hb⟩; have n0_ := Aside0.mk (blk_below (g := gb232) (o := .cells #[.int .i64 a0_0, .int .i64 a0_1, .bool a0_2, .int .i64 a0_3, .int .i64 a0_4, .int .i64 a0_5, .int .i64 a0_6, .int .i64 a0_7, .int .i64 a0_8, .int .i64 a0_9, .int .i64 a0_10, .int .i64 a0_11] 27 (0, 0)) (by (with_reducible repeat (first | refine blk_drewN ?_ _ | refine blk_drew ?_ | refine blk_alloc ?_ _)); exact BK232.out) hb); have n1_ := Aside0.mk (below_step (by repeat (first | (with_reducible first | exact HB.out | apply below_alloc | apply pw_below_drewN | apply below_drew1 | refine below_set ?_ GE232.out) | exact HB.out)) hb); clear BK232; clear HB; have BK232 := n0_; have HB := n1_; clear n0_ n1_; (try clear hb); (try clear hb2); (try clear hk); (try clear hi)))
                go_ret
                exact ⟨by first | rfl | (simp [errW_none, errW_some] <;> rfl) | (simp [*, errW_none, errW_some] <;> rfl), by repeat (first | (with_reducible first | exact HB.out | apply below_alloc | apply pw_below_drewN | apply below_drew1 | refine below_set ?_ GE232.out) | exact HB.out)⟩
              · rw [if_neg c16] at H
                have c16b0 : (a0_11 == 0) = false := beq_eq_false_iff_ne.mpr c16
                have c16b1 : (a0_11 != 0) = true := bne_iff_ne.mpr c16
                obtain rfl := Option.some.inj H
                have hcz20_0 : wc.cell? ⟨gb232, 0, none⟩ = some (.int .i64 a0_0) := (blk_cell BK232.out 0).trans rfl
                have hcz20_1 : wc.cell? ⟨gb232, 1, none⟩ = some (.int .i64 a0_1) := (blk_cell BK232.out 1).trans rfl
                have hcz20_2 : wc.cell? ⟨gb232, 2, none⟩ = some (.bool a0_2) := (blk_cell BK232.out 2).trans rfl
                have hcz20_3 : wc.cell? ⟨gb232, 3, none⟩ = some (.int .i64 a0_3) := (blk_cell BK232.out 3).trans rfl
                have hcz20_4 : wc.cell? ⟨gb232, 4, none⟩ = some (.int .i64 a0_4) := (blk_cell BK232.out 4).trans rfl
                have hcz20_5 : wc.cell? ⟨gb232, 5, none⟩ = some (.int .i64 a0_5) := (blk_cell BK232.out 5).trans rfl
                have hcz20_6 : wc.cell? ⟨gb232, 6, none⟩ = some (.int .i64 a0_6) := (blk_cell BK232.out 6).trans rfl
                have hcz20_7 : wc.cell? ⟨gb232, 7, none⟩ = some (.int .i64 a0_7) := (blk_cell BK232.out 7).trans rfl
                have hcz20_8 : wc.cell? ⟨gb232, 8, none⟩ = some (.int .i64 a0_8) := (blk_cell BK232.out 8).trans rfl
                have hcz20_9 : wc.cell? ⟨gb232, 9, none⟩ = some (.int .i64 a0_9) := (blk_cell BK232.out 9).trans rfl
                have hcz20_10 : wc.cell? ⟨gb232, 10, none⟩ = some (.int .i64 a0_10) := (blk_cell BK232.out 10).trans rfl
                have hcz20_11 : wc.cell? ⟨gb232, 11, none⟩ = some (.int .i64 a0_11) := (blk_cell BK232.out 11).trans rfl
                have hfz20_0 := blk_frozen BK232.out 0
                have hfz20_1 := blk_frozen BK232.out 1
                have hfz20_2 := blk_frozen BK232.out 2
                have hfz20_3 := blk_frozen BK232.out 3
                have hfz20_4 := blk_frozen BK232.out 4
                have hfz20_5 := blk_frozen BK232.out 5
                have hfz20_6 := blk_frozen BK232.out 6
                have hfz20_7 := blk_frozen BK232.out 7
                have hfz20_8 := blk_frozen BK232.out 8
                have hfz20_9 := blk_frozen BK232.out 9
                have hfz20_10 := blk_frozen BK232.out 10
                have hfz20_11 := blk_frozen BK232.out 11
                go_wp2
                go_ret
                exact ⟨by first | rfl | (simp [errW_none, errW_some] <;> rfl) | (simp [*, errW_none, errW_some] <;> rfl), by repeat (first | (with_reducible first | exact HB.out | apply below_alloc | apply pw_below_drewN | apply below_drew1 | refine below_set ?_ GE232.out) | exact HB.out)⟩
            · rw [if_neg c15] at H
              have c15b0 : (a0_8 == 0 && (a0_9 == 0 && (a0_10 == 0))) = false := by simpa using c15
              (try (have c15b1 : decide (a0_8 = 0 && (a0_9 == 0 && (a0_10 == 0))) = false := by simpa using c15))
              (try (have c15b2 : (a0_8 == 0 && (a0_9 == 0 && (a0_10 == 0))) = false := by simpa using c15))
              (try (have c15b3 : ¬ (a0_8 = 0 && (a0_9 == 0 && (a0_10 == 0))) := by simpa using c15))
              clear c15
              obtain rfl := Option.some.inj H
              have hcz21_0 : wc.cell? ⟨gb232, 0, none⟩ = some (.int .i64 a0_0) := (blk_cell BK232.out 0).trans rfl
              have hcz21_1 : wc.cell? ⟨gb232, 1, none⟩ = some (.int .i64 a0_1) := (blk_cell BK232.out 1).trans rfl
              have hcz21_2 : wc.cell? ⟨gb232, 2, none⟩ = some (.bool a0_2) := (blk_cell BK232.out 2).trans rfl
              have hcz21_3 : wc.cell? ⟨gb232, 3, none⟩ = some (.int .i64 a0_3) := (blk_cell BK232.out 3).trans rfl
              have hcz21_4 : wc.cell? ⟨gb232, 4, none⟩ = some (.int .i64 a0_4) := (blk_cell BK232.out 4).trans rfl
              have hcz21_5 : wc.cell? ⟨gb232, 5, none⟩ = some (.int .i64 a0_5) := (blk_cell BK232.out 5).trans rfl
              have hcz21_6 : wc.cell? ⟨gb232, 6, none⟩ = some (.int .i64 a0_6) := (blk_cell BK232.out 6).trans rfl
              have hcz21_7 : wc.cell? ⟨gb232, 7, none⟩ = some (.int .i64 a0_7) := (blk_cell BK232.out 7).trans rfl
              have hcz21_8 : wc.cell? ⟨gb232, 8, none⟩ = some (.int .i64 a0_8) := (blk_cell BK232.out 8).trans rfl
              have hcz21_9 : wc.cell? ⟨gb232, 9, none⟩ = some (.int .i64 a0_9) := (blk_cell BK232.out 9).trans rfl
              have hcz21_10 : wc.cell? ⟨gb232, 10, none⟩ = some (.int .i64 a0_10) := (blk_cell BK232.out 10).trans rfl
              have hcz21_11 : wc.cell? ⟨gb232, 11, none⟩ = some (.int .i64 a0_11) := (blk_cell BK232.out 11).trans rfl
              have hfz21_0 := blk_frozen BK232.out 0
              have hfz21_1 := blk_frozen BK232.out 1
              have hfz21_2 := blk_frozen BK232.out 2
              have hfz21_3 := blk_frozen BK232.out 3
              have hfz21_4 := blk_frozen BK232.out 4
              have hfz21_5 := blk_frozen BK232.out 5
              have hfz21_6 := blk_frozen BK232.out 6
              have hfz21_7 := blk_frozen BK232.out 7
              have hfz21_8 := blk_frozen BK232.out 8
              have hfz21_9 := blk_frozen BK232.out 9
              have hfz21_10 := blk_frozen BK232.out 10
              have hfz21_11 := blk_frozen BK232.out 11
              go_wp2
              go_ret
              exact ⟨by first | rfl | (simp [errW_none, errW_some] <;> rfl) | (simp [*, errW_none, errW_some] <;> rfl), by repeat (first | (with_reducible first | exact HB.out | apply below_alloc | apply pw_below_drewN | apply below_drew1 | refine below_set ?_ GE232.out) | exact HB.out)⟩
          · rw [if_neg c14] at H
            have c14b0 : (a0_0 == 2) = false := beq_eq_false_iff_ne.mpr c14
            have c14b1 : (a0_0 != 2) = true := bne_iff_ne.mpr c14
            by_cases c22 : a0_0 = 3
            · rw [if_pos c22] at H
              have c22b0 : (a0_0 == 3) = true := beq_iff_eq.mpr c22
              have c22b1 : (a0_0 != 3) = false := bne_eq_false_iff_eq.mpr c22
              clear c22
              by_cases c23 : (!a0_2 && (a0_3 == 0 && (a0_4 == 0 && (a0_5 == 0 && (a0_6 == 0 && (a0_7 == 0)))))) = true
              · rw [if_pos c23] at H
                have c23b0 : (!a0_2 && (a0_3 == 0 && (a0_4 == 0 && (a0_5 == 0 && (a0_6 == 0 && (a0_7 == 0)))))) = true := c23
                clear c23
                by_cases c24 : a0_11 = 0
                · rw [if_pos c24] at H
                  have c24b0 : (a0_11 == 0) = true := beq_iff_eq.mpr c24
                  have c24b1 : (a0_11 != 0) = false := bne_eq_false_iff_eq.mpr c24
                  clear c24
                  replace H := Option.bind_eq_some_iff.mp H
                  obtain ⟨t234, A250, H⟩ := H
                  replace H : (some t234) = some r := H
                  have A25 := Aside0.mk A250
                  clear A250
                  obtain rfl := Option.some.inj H
                  have hcz26_0 : wc.cell? ⟨gb232, 0, none⟩ = some (.int .i64 a0_0) := (blk_cell BK232.out 0).trans rfl
                  have hcz26_1 : wc.cell? ⟨gb232, 1, none⟩ = some (.int .i64 a0_1) := (blk_cell BK232.out 1).trans rfl
                  have hcz26_2 : wc.cell? ⟨gb232, 2, none⟩ = some (.bool a0_2) := (blk_cell BK232.out 2).trans rfl
                  have hcz26_3 : wc.cell? ⟨gb232, 3, none⟩ = some (.int .i64 a0_3) := (blk_cell BK232.out 3).trans rfl
                  have hcz26_4 : wc.cell? ⟨gb232, 4, none⟩ = some (.int .i64 a0_4) := (blk_cell BK232.out 4).trans rfl
                  have hcz26_5 : wc.cell? ⟨gb232, 5, none⟩ = some (.int .i64 a0_5) := (blk_cell BK232.out 5).trans rfl
                  have hcz26_6 : wc.cell? ⟨gb232, 6, none⟩ = some (.int .i64 a0_6) := (blk_cell BK232.out 6).trans rfl
                  have hcz26_7 : wc.cell? ⟨gb232, 7, none⟩ = some (.int .i64 a0_7) := (blk_cell BK232.out 7).trans rfl
                  have hcz26_8 : wc.cell? ⟨gb232, 8, none⟩ = some (.int .i64 a0_8) := (blk_cell BK232.out 8).trans rfl
                  have hcz26_9 : wc.cell? ⟨gb232, 9, none⟩ = some (.int .i64 a0_9) := (blk_cell BK232.out 9).trans rfl
                  have hcz26_10 : wc.cell? ⟨gb232, 10, none⟩ = some (.int .i64 a0_10) := (blk_cell BK232.out 10).trans rfl
                  have hcz26_11 : wc.cell? ⟨gb232, 11, none⟩ = some (.int .i64 a0_11) := (blk_cell BK232.out 11).trans rfl
                  have hfz26_0 := blk_frozen BK232.out 0
                  have hfz26_1 := blk_frozen BK232.out 1
                  have hfz26_2 := blk_frozen BK232.out 2
                  have hfz26_3 := blk_frozen BK232.out 3
                  have hfz26_4 := blk_frozen BK232.out 4
                  have hfz26_5 := blk_frozen BK232.out 5
                  have hfz26_6 := blk_frozen BK232.out 6
                  have hfz26_7 := blk_frozen BK232.out 7
                  have hfz26_8 := blk_frozen BK232.out 8
                  have hfz26_9 := blk_frozen BK232.out 9
                  have hfz26_10 := blk_frozen BK232.out 10
                  have hfz26_11 := blk_frozen BK232.out 11
                  go_wp2_with (first | (go_at_call 21; (with_reducible refine (thalwegref02_Right.calls kj1 false a0_8 a0_9 a0_10 0 0 t234 _ A25.out).mono ?_); rintro e w27 ⟨rfl, hb⟩; have n0_ := Aside0.mk (blk_below (g := gb232) (o := .cells #[.int .i64 a0_0, .int .i64 a0_1, .bool a0_2, .int .i64 a0_3, .int .i64 a0_4, .int .i64 a0_5, .int .i64 a0_6, .int .i64 a0_7, .int .i64 a0_8, .int .i64 a0_9, .int .i64 a0_10, .int .i64 a0_11] 27 (0, 0)) (by (with_reducible repeat (first | refine blk_drewN ?_ _ | refine blk_drew ?_ | refine blk_alloc ?_ _)); exact BK232.out) hb); have n1_ := Aside0.mk (below_step (by repeat (first | (with_reducible first | exact HB.out | apply below_alloc | apply pw_below_drewN | apply below_drew1 | refine below_set ?_ GE232.out) | exact HB.out)) hb); clear BK232; clear HB; have BK232 := n0_; have HB := n1_; clear n0_ n1_; (try clear hb); (try clear hb2); (try clear hk); (try clear hi)))
                  go_ret
                  exact ⟨by first | rfl | (simp [errW_none, errW_some] <;> rfl) | (simp [*, errW_none, errW_some] <;> rfl), by repeat (first | (with_reducible first | exact HB.out | apply below_alloc | apply pw_below_drewN | apply below_drew1 | refine below_set ?_ GE232.out) | exact HB.out)⟩
                · rw [if_neg c24] at H
                  have c24b0 : (a0_11 == 0) = false := beq_eq_false_iff_ne.mpr c24
                  have c24b1 : (a0_11 != 0) = true := bne_iff_ne.mpr c24
                  obtain rfl := Option.some.inj H
                  have hcz28_0 : wc.cell? ⟨gb232, 0, none⟩ = some (.int .i64 a0_0) := (blk_cell BK232.out 0).trans rfl
                  have hcz28_1 : wc.cell? ⟨gb232, 1, none⟩ = some (.int .i64 a0_1) := (blk_cell BK232.out 1).trans rfl
                  have hcz28_2 : wc.cell? ⟨gb232, 2, none⟩ = some (.bool a0_2) := (blk_cell BK232.out 2).trans rfl
                  have hcz28_3 : wc.cell? ⟨gb232, 3, none⟩ = some (.int .i64 a0_3) := (blk_cell BK232.out 3).trans rfl
                  have hcz28_4 : wc.cell? ⟨gb232, 4, none⟩ = some (.int .i64 a0_4) := (blk_cell BK232.out 4).trans rfl
                  have hcz28_5 : wc.cell? ⟨gb232, 5, none⟩ = some (.int .i64 a0_5) := (blk_cell BK232.out 5).trans rfl
                  have hcz28_6 : wc.cell? ⟨gb232, 6, none⟩ = some (.int .i64 a0_6) := (blk_cell BK232.out 6).trans rfl
                  have hcz28_7 : wc.cell? ⟨gb232, 7, none⟩ = some (.int .i64 a0_7) := (blk_cell BK232.out 7).trans rfl
                  have hcz28_8 : wc.cell? ⟨gb232, 8, none⟩ = some (.int .i64 a0_8) := (blk_cell BK232.out 8).trans rfl
                  have hcz28_9 : wc.cell? ⟨gb232, 9, none⟩ = some (.int .i64 a0_9) := (blk_cell BK232.out 9).trans rfl
                  have hcz28_10 : wc.cell? ⟨gb232, 10, none⟩ = some (.int .i64 a0_10) := (blk_cell BK232.out 10).trans rfl
                  have hcz28_11 : wc.cell? ⟨gb232, 11, none⟩ = some (.int .i64 a0_11) := (blk_cell BK232.out 11).trans rfl
                  have hfz28_0 := blk_frozen BK232.out 0
                  have hfz28_1 := blk_frozen BK232.out 1
                  have hfz28_2 := blk_frozen BK232.out 2
                  have hfz28_3 := blk_frozen BK232.out 3
                  have hfz28_4 := blk_frozen BK232.out 4
                  have hfz28_5 := blk_frozen BK232.out 5
                  have hfz28_6 := blk_frozen BK232.out 6
                  have hfz28_7 := blk_frozen BK232.out 7
                  have hfz28_8 := blk_frozen BK232.out 8
                  have hfz28_9 := blk_frozen BK232.out 9
                  have hfz28_10 := blk_frozen BK232.out 10
                  have hfz28_11 := blk_frozen BK232.out 11
                  go_wp2
                  go_ret
                  exact ⟨by first | rfl | (simp [errW_none, errW_some] <;> rfl) | (simp [*, errW_none, errW_some] <;> rfl), by repeat (first | (with_reducible first | exact HB.out | apply below_alloc | apply pw_below_drewN | apply below_drew1 | refine below_set ?_ GE232.out) | exact HB.out)⟩
              · rw [if_neg c23] at H
                have c23b0 : (!a0_2 && (a0_3 == 0 && (a0_4 == 0 && (a0_5 == 0 && (a0_6 == 0 && (a0_7 == 0)))))) = false := by simpa using c23
                clear c23
                obtain rfl := Option.some.inj H
                have hcz29_0 : wc.cell? ⟨gb232, 0, none⟩ = some (.int .i64 a0_0) := (blk_cell BK232.out 0).trans rfl
                have hcz29_1 : wc.cell? ⟨gb232, 1, none⟩ = some (.int .i64 a0_1) := (blk_cell BK232.out 1).trans rfl
                have hcz29_2 : wc.cell? ⟨gb232, 2, none⟩ = some (.bool a0_2) := (blk_cell BK232.out 2).trans rfl
                have hcz29_3 : wc.cell? ⟨gb232, 3, none⟩ = some (.int .i64 a0_3) := (blk_cell BK232.out 3).trans rfl
                have hcz29_4 : wc.cell? ⟨gb232, 4, none⟩ = some (.int .i64 a0_4) := (blk_cell BK232.out 4).trans rfl
                have hcz29_5 : wc.cell? ⟨gb232, 5, none⟩ = some (.int .i64 a0_5) := (blk_cell BK232.out 5).trans rfl
                have hcz29_6 : wc.cell? ⟨gb232, 6, none⟩ = some (.int .i64 a0_6) := (blk_cell BK232.out 6).trans rfl
                have hcz29_7 : wc.cell? ⟨gb232, 7, none⟩ = some (.int .i64 a0_7) := (blk_cell BK232.out 7).trans rfl
                have hcz29_8 : wc.cell? ⟨gb232, 8, none⟩ = some (.int .i64 a0_8) := (blk_cell BK232.out 8).trans rfl
                have hcz29_9 : wc.cell? ⟨gb232, 9, none⟩ = some (.int .i64 a0_9) := (blk_cell BK232.out 9).trans rfl
                have hcz29_10 : wc.cell? ⟨gb232, 10, none⟩ = some (.int .i64 a0_10) := (blk_cell BK232.out 10).trans rfl
                have hcz29_11 : wc.cell? ⟨gb232, 11, none⟩ = some (.int .i64 a0_11) := (blk_cell BK232.out 11).trans rfl
                have hfz29_0 := blk_frozen BK232.out 0
                have hfz29_1 := blk_frozen BK232.out 1
                have hfz29_2 := blk_frozen BK232.out 2
                have hfz29_3 := blk_frozen BK232.out 3
                have hfz29_4 := blk_frozen BK232.out 4
                have hfz29_5 := blk_frozen BK232.out 5
                have hfz29_6 := blk_frozen BK232.out 6
                have hfz29_7 := blk_frozen BK232.out 7
                have hfz29_8 := blk_frozen BK232.out 8
                have hfz29_9 := blk_frozen BK232.out 9
                have hfz29_10 := blk_frozen BK232.out 10
                have hfz29_11 := blk_frozen BK232.out 11
                go_wp2
                go_ret
                exact ⟨by first | rfl | (simp [errW_none, errW_some] <;> rfl) | (simp [*, errW_none, errW_some] <;> rfl), by repeat (first | (with_reducible first | exact HB.out | apply below_alloc | apply pw_below_drewN | apply below_drew1 | refine below_set ?_ GE232.out) | exact HB.out)⟩
            · rw [if_neg c22] at H
              have c22b0 : (a0_0 == 3) = false := beq_eq_false_iff_ne.mpr c22
              have c22b1 : (a0_0 != 3) = true := bne_iff_ne.mpr c22
              by_cases c30 : a0_0 = 4
              · rw [if_pos c30] at H
                have c30b0 : (a0_0 == 4) = true := beq_iff_eq.mpr c30
                have c30b1 : (a0_0 != 4) = false := bne_eq_false_iff_eq.mpr c30
                clear c30
                by_cases c31 : (a0_8 == 0 && (a0_9 == 0 && (a0_10 == 0))) = true
                · rw [if_pos c31] at H
                  have c31b0 : (a0_8 == 0 && (a0_9 == 0 && (a0_10 == 0))) = true := c31
                  (try (have c31b1 : decide (a0_8 = 0 && (a0_9 == 0 && (a0_10 == 0))) = true := by simpa using c31))
                  (try (have c31b2 : (a0_8 == 0 && (a0_9 == 0 && (a0_10 == 0))) = true := by simpa using c31))
                  clear c31
                  by_cases c32 : a0_11 ≥ 0
                  · rw [if_pos c32] at H
                    have c32b0 : decide (0 ≤ a0_11) = true := decide_eq_true c32
                    clear c32
                    by_cases c33 : a0_11 ≤ 65535
                    · rw [if_pos c33] at H
                      have c33b0 : decide (a0_11 ≤ 65535) = true := decide_eq_true c33
                      clear c33
                      replace H := Option.bind_eq_some_iff.mp H
                      obtain ⟨t235, A340, H⟩ := H
                      replace H : (some t235) = some r := H
                      have A34 := Aside0.mk A340
                      clear A340
                      obtain rfl := Option.some.inj H
                      have hcz35_0 : wc.cell? ⟨gb232, 0, none⟩ = some (.int .i64 a0_0) := (blk_cell BK232.out 0).trans rfl
                      have hcz35_1 : wc.cell? ⟨gb232, 1, none⟩ = some (.int .i64 a0_1) := (blk_cell BK232.out 1).trans rfl
                      have hcz35_2 : wc.cell? ⟨gb232, 2, none⟩ = some (.bool a0_2) := (blk_cell BK232.out 2).trans rfl
                      have hcz35_3 : wc.cell? ⟨gb232, 3, none⟩ = some (.int .i64 a0_3) := (blk_cell BK232.out 3).trans rfl
                      have hcz35_4 : wc.cell? ⟨gb232, 4, none⟩ = some (.int .i64 a0_4) := (blk_cell BK232.out 4).trans rfl
                      have hcz35_5 : wc.cell? ⟨gb232, 5, none⟩ = some (.int .i64 a0_5) := (blk_cell BK232.out 5).trans rfl
                      have hcz35_6 : wc.cell? ⟨gb232, 6, none⟩ = some (.int .i64 a0_6) := (blk_cell BK232.out 6).trans rfl
                      have hcz35_7 : wc.cell? ⟨gb232, 7, none⟩ = some (.int .i64 a0_7) := (blk_cell BK232.out 7).trans rfl
                      have hcz35_8 : wc.cell? ⟨gb232, 8, none⟩ = some (.int .i64 a0_8) := (blk_cell BK232.out 8).trans rfl
                      have hcz35_9 : wc.cell? ⟨gb232, 9, none⟩ = some (.int .i64 a0_9) := (blk_cell BK232.out 9).trans rfl
                      have hcz35_10 : wc.cell? ⟨gb232, 10, none⟩ = some (.int .i64 a0_10) := (blk_cell BK232.out 10).trans rfl
                      have hcz35_11 : wc.cell? ⟨gb232, 11, none⟩ = some (.int .i64 a0_11) := (blk_cell BK232.out 11).trans rfl
                      have hfz35_0 := blk_frozen BK232.out 0
                      have hfz35_1 := blk_frozen BK232.out 1
                      have hfz35_2 := blk_frozen BK232.out 2
                      have hfz35_3 := blk_frozen BK232.out 3
                      have hfz35_4 := blk_frozen BK232.out 4
                      have hfz35_5 := blk_frozen BK232.out 5
                      have hfz35_6 := blk_frozen BK232.out 6
                      have hfz35_7 := blk_frozen BK232.out 7
                      have hfz35_8 := blk_frozen BK232.out 8
                      have hfz35_9 := blk_frozen BK232.out 9
                      have hfz35_10 := blk_frozen BK232.out 10
                      have hfz35_11 := blk_frozen BK232.out 11
                      go_wp2_with (first | (go_at_call 22; (with_reducible refine (thalwegref02_Told.calls kj1 a0_2 a0_3 a0_4 a0_5 a0_6 a0_7 t235 _ A34.out).mono ?_); rintro e w36 ⟨rfl, hb⟩; have n0_ := Aside0.mk (blk_below (g := gb232) (o := .cells #[.int .i64 a0_0, .int .i64 a0_1, .bool a0_2, .int .i64 a0_3, .int .i64 a0_4, .int .i64 a0_5, .int .i64 a0_6, .int .i64 a0_7, .int .i64 a0_8, .int .i64 a0_9, .int .i64 a0_10, .int .i64 a0_11] 27 (0, 0)) (by (with_reducible repeat (first | refine blk_drewN ?_ _ | refine blk_drew ?_ | refine blk_alloc ?_ _)); exact BK232.out) hb); have n1_ := Aside0.mk (below_step (by repeat (first | (with_reducible first | exact HB.out | apply below_alloc | apply pw_below_drewN | apply below_drew1 | refine below_set ?_ GE232.out) | exact HB.out)) hb); clear BK232; clear HB; have BK232 := n0_; have HB := n1_; clear n0_ n1_; (try clear hb); (try clear hb2); (try clear hk); (try clear hi)))
                      go_ret
                      exact ⟨by first | rfl | (simp [errW_none, errW_some] <;> rfl) | (simp [*, errW_none, errW_some] <;> rfl), by repeat (first | (with_reducible first | exact HB.out | apply below_alloc | apply pw_below_drewN | apply below_drew1 | refine below_set ?_ GE232.out) | exact HB.out)⟩
                    · rw [if_neg c33] at H
                      have c33b0 : decide (a0_11 ≤ 65535) = false := decide_eq_false c33
                      clear c33
                      obtain rfl := Option.some.inj H
                      have hcz37_0 : wc.cell? ⟨gb232, 0, none⟩ = some (.int .i64 a0_0) := (blk_cell BK232.out 0).trans rfl
                      have hcz37_1 : wc.cell? ⟨gb232, 1, none⟩ = some (.int .i64 a0_1) := (blk_cell BK232.out 1).trans rfl
                      have hcz37_2 : wc.cell? ⟨gb232, 2, none⟩ = some (.bool a0_2) := (blk_cell BK232.out 2).trans rfl
                      have hcz37_3 : wc.cell? ⟨gb232, 3, none⟩ = some (.int .i64 a0_3) := (blk_cell BK232.out 3).trans rfl
                      have hcz37_4 : wc.cell? ⟨gb232, 4, none⟩ = some (.int .i64 a0_4) := (blk_cell BK232.out 4).trans rfl
                      have hcz37_5 : wc.cell? ⟨gb232, 5, none⟩ = some (.int .i64 a0_5) := (blk_cell BK232.out 5).trans rfl
                      have hcz37_6 : wc.cell? ⟨gb232, 6, none⟩ = some (.int .i64 a0_6) := (blk_cell BK232.out 6).trans rfl
                      have hcz37_7 : wc.cell? ⟨gb232, 7, none⟩ = some (.int .i64 a0_7) := (blk_cell BK232.out 7).trans rfl
                      have hcz37_8 : wc.cell? ⟨gb232, 8, none⟩ = some (.int .i64 a0_8) := (blk_cell BK232.out 8).trans rfl
                      have hcz37_9 : wc.cell? ⟨gb232, 9, none⟩ = some (.int .i64 a0_9) := (blk_cell BK232.out 9).trans rfl
                      have hcz37_10 : wc.cell? ⟨gb232, 10, none⟩ = some (.int .i64 a0_10) := (blk_cell BK232.out 10).trans rfl
                      have hcz37_11 : wc.cell? ⟨gb232, 11, none⟩ = some (.int .i64 a0_11) := (blk_cell BK232.out 11).trans rfl
                      have hfz37_0 := blk_frozen BK232.out 0
                      have hfz37_1 := blk_frozen BK232.out 1
                      have hfz37_2 := blk_frozen BK232.out 2
                      have hfz37_3 := blk_frozen BK232.out 3
                      have hfz37_4 := blk_frozen BK232.out 4
                      have hfz37_5 := blk_frozen BK232.out 5
                      have hfz37_6 := blk_frozen BK232.out 6
                      have hfz37_7 := blk_frozen BK232.out 7
                      have hfz37_8 := blk_frozen BK232.out 8
                      have hfz37_9 := blk_frozen BK232.out 9
                      have hfz37_10 := blk_frozen BK232.out 10
                      have hfz37_11 := blk_frozen BK232.out 11
                      go_wp2
                      go_ret
                      exact ⟨by first | rfl | (simp [errW_none, errW_some] <;> rfl) | (simp [*, errW_none, errW_some] <;> rfl), by repeat (first | (with_reducible first | exact HB.out | apply below_alloc | apply pw_below_drewN | apply below_drew1 | refine below_set ?_ GE232.out) | exact HB.out)⟩
                  · rw [if_neg c32] at H
                    have c32b0 : decide (0 ≤ a0_11) = false := decide_eq_false c32
                    clear c32
                    obtain rfl := Option.some.inj H
                    have hcz38_0 : wc.cell? ⟨gb232, 0, none⟩ = some (.int .i64 a0_0) := (blk_cell BK232.out 0).trans rfl
                    have hcz38_1 : wc.cell? ⟨gb232, 1, none⟩ = some (.int .i64 a0_1) := (blk_cell BK232.out 1).trans rfl
                    have hcz38_2 : wc.cell? ⟨gb232, 2, none⟩ = some (.bool a0_2) := (blk_cell BK232.out 2).trans rfl
                    have hcz38_3 : wc.cell? ⟨gb232, 3, none⟩ = some (.int .i64 a0_3) := (blk_cell BK232.out 3).trans rfl
                    have hcz38_4 : wc.cell? ⟨gb232, 4, none⟩ = some (.int .i64 a0_4) := (blk_cell BK232.out 4).trans rfl
                    have hcz38_5 : wc.cell? ⟨gb232, 5, none⟩ = some (.int .i64 a0_5) := (blk_cell BK232.out 5).trans rfl
                    have hcz38_6 : wc.cell? ⟨gb232, 6, none⟩ = some (.int .i64 a0_6) := (blk_cell BK232.out 6).trans rfl
                    have hcz38_7 : wc.cell? ⟨gb232, 7, none⟩ = some (.int .i64 a0_7) := (blk_cell BK232.out 7).trans rfl
                    have hcz38_8 : wc.cell? ⟨gb232, 8, none⟩ = some (.int .i64 a0_8) := (blk_cell BK232.out 8).trans rfl
                    have hcz38_9 : wc.cell? ⟨gb232, 9, none⟩ = some (.int .i64 a0_9) := (blk_cell BK232.out 9).trans rfl
                    have hcz38_10 : wc.cell? ⟨gb232, 10, none⟩ = some (.int .i64 a0_10) := (blk_cell BK232.out 10).trans rfl
                    have hcz38_11 : wc.cell? ⟨gb232, 11, none⟩ = some (.int .i64 a0_11) := (blk_cell BK232.out 11).trans rfl
                    have hfz38_0 := blk_frozen BK232.out 0
                    have hfz38_1 := blk_frozen BK232.out 1
                    have hfz38_2 := blk_frozen BK232.out 2
                    have hfz38_3 := blk_frozen BK232.out 3
                    have hfz38_4 := blk_frozen BK232.out 4
                    have hfz38_5 := blk_frozen BK232.out 5
                    have hfz38_6 := blk_frozen BK232.out 6
                    have hfz38_7 := blk_frozen BK232.out 7
                    have hfz38_8 := blk_frozen BK232.out 8
                    have hfz38_9 := blk_frozen BK232.out 9
                    have hfz38_10 := blk_frozen BK232.out 10
                    have hfz38_11 := blk_frozen BK232.out 11
                    go_wp2
                    go_ret
                    exact ⟨by first | rfl | (simp [errW_none, errW_some] <;> rfl) | (simp [*, errW_none, errW_some] <;> rfl), by repeat (first | (with_reducible first | exact HB.out | apply below_alloc | apply pw_below_drewN | apply below_drew1 | refine below_set ?_ GE232.out) | exact HB.out)⟩
                · rw [if_neg c31] at H
                  have c31b0 : (a0_8 == 0 && (a0_9 == 0 && (a0_10 == 0))) = false := by simpa using c31
                  (try (have c31b1 : decide (a0_8 = 0 && (a0_9 == 0 && (a0_10 == 0))) = false := by simpa using c31))
                  (try (have c31b2 : (a0_8 == 0 && (a0_9 == 0 && (a0_10 == 0))) = false := by simpa using c31))
                  (try (have c31b3 : ¬ (a0_8 = 0 && (a0_9 == 0 && (a0_10 == 0))) := by simpa using c31))
                  clear c31
                  obtain rfl := Option.some.inj H
                  have hcz39_0 : wc.cell? ⟨gb232, 0, none⟩ = some (.int .i64 a0_0) := (blk_cell BK232.out 0).trans rfl
                  have hcz39_1 : wc.cell? ⟨gb232, 1, none⟩ = some (.int .i64 a0_1) := (blk_cell BK232.out 1).trans rfl
                  have hcz39_2 : wc.cell? ⟨gb232, 2, none⟩ = some (.bool a0_2) := (blk_cell BK232.out 2).trans rfl
                  have hcz39_3 : wc.cell? ⟨gb232, 3, none⟩ = some (.int .i64 a0_3) := (blk_cell BK232.out 3).trans rfl
                  have hcz39_4 : wc.cell? ⟨gb232, 4, none⟩ = some (.int .i64 a0_4) := (blk_cell BK232.out 4).trans rfl
                  have hcz39_5 : wc.cell? ⟨gb232, 5, none⟩ = some (.int .i64 a0_5) := (blk_cell BK232.out 5).trans rfl
                  have hcz39_6 : wc.cell? ⟨gb232, 6, none⟩ = some (.int .i64 a0_6) := (blk_cell BK232.out 6).trans rfl
                  have hcz39_7 : wc.cell? ⟨gb232, 7, none⟩ = some (.int .i64 a0_7) := (blk_cell BK232.out 7).trans rfl
                  have hcz39_8 : wc.cell? ⟨gb232, 8, none⟩ = some (.int .i64 a0_8) := (blk_cell BK232.out 8).trans rfl
                  have hcz39_9 : wc.cell? ⟨gb232, 9, none⟩ = some (.int .i64 a0_9) := (blk_cell BK232.out 9).trans rfl
                  have hcz39_10 : wc.cell? ⟨gb232, 10, none⟩ = some (.int .i64 a0_10) := (blk_cell BK232.out 10).trans rfl
                  have hcz39_11 : wc.cell? ⟨gb232, 11, none⟩ = some (.int .i64 a0_11) := (blk_cell BK232.out 11).trans rfl
                  have hfz39_0 := blk_frozen BK232.out 0
                  have hfz39_1 := blk_frozen BK232.out 1
                  have hfz39_2 := blk_frozen BK232.out 2
                  have hfz39_3 := blk_frozen BK232.out 3
                  have hfz39_4 := blk_frozen BK232.out 4
                  have hfz39_5 := blk_frozen BK232.out 5
                  have hfz39_6 := blk_frozen BK232.out 6
                  have hfz39_7 := blk_frozen BK232.out 7
                  have hfz39_8 := blk_frozen BK232.out 8
                  have hfz39_9 := blk_frozen BK232.out 9
                  have hfz39_10 := blk_frozen BK232.out 10
                  have hfz39_11 := blk_frozen BK232.out 11
                  go_wp2
                  go_ret
                  exact ⟨by first | rfl | (simp [errW_none, errW_some] <;> rfl) | (simp [*, errW_none, errW_some] <;> rfl), by repeat (first | (with_reducible first | exact HB.out | apply below_alloc | apply pw_below_drewN | apply below_drew1 | refine below_set ?_ GE232.out) | exact HB.out)⟩
              · rw [if_neg c30] at H
                have c30b0 : (a0_0 == 4) = false := beq_eq_false_iff_ne.mpr c30
                have c30b1 : (a0_0 != 4) = true := bne_iff_ne.mpr c30
                obtain rfl := Option.some.inj H
                have hcz40_0 : wc.cell? ⟨gb232, 0, none⟩ = some (.int .i64 a0_0) := (blk_cell BK232.out 0).trans rfl
                have hcz40_1 : wc.cell? ⟨gb232, 1, none⟩ = some (.int .i64 a0_1) := (blk_cell BK232.out 1).trans rfl
                have hcz40_2 : wc.cell? ⟨gb232, 2, none⟩ = some (.bool a0_2) := (blk_cell BK232.out 2).trans rfl
                have hcz40_3 : wc.cell? ⟨gb232, 3, none⟩ = some (.int .i64 a0_3) := (blk_cell BK232.out 3).trans rfl
                have hcz40_4 : wc.cell? ⟨gb232, 4, none⟩ = some (.int .i64 a0_4) := (blk_cell BK232.out 4).trans rfl
                have hcz40_5 : wc.cell? ⟨gb232, 5, none⟩ = some (.int .i64 a0_5) := (blk_cell BK232.out 5).trans rfl
                have hcz40_6 : wc.cell? ⟨gb232, 6, none⟩ = some (.int .i64 a0_6) := (blk_cell BK232.out 6).trans rfl
                have hcz40_7 : wc.cell? ⟨gb232, 7, none⟩ = some (.int .i64 a0_7) := (blk_cell BK232.out 7).trans rfl
                have hcz40_8 : wc.cell? ⟨gb232, 8, none⟩ = some (.int .i64 a0_8) := (blk_cell BK232.out 8).trans rfl
                have hcz40_9 : wc.cell? ⟨gb232, 9, none⟩ = some (.int .i64 a0_9) := (blk_cell BK232.out 9).trans rfl
                have hcz40_10 : wc.cell? ⟨gb232, 10, none⟩ = some (.int .i64 a0_10) := (blk_cell BK232.out 10).trans rfl
                have hcz40_11 : wc.cell? ⟨gb232, 11, none⟩ = some (.int .i64 a0_11) := (blk_cell BK232.out 11).trans rfl
                have hfz40_0 := blk_frozen BK232.out 0
                have hfz40_1 := blk_frozen BK232.out 1
                have hfz40_2 := blk_frozen BK232.out 2
                have hfz40_3 := blk_frozen BK232.out 3
                have hfz40_4 := blk_frozen BK232.out 4
                have hfz40_5 := blk_frozen BK232.out 5
                have hfz40_6 := blk_frozen BK232.out 6
                have hfz40_7 := blk_frozen BK232.out 7
                have hfz40_8 := blk_frozen BK232.out 8
                have hfz40_9 := blk_frozen BK232.out 9
                have hfz40_10 := blk_frozen BK232.out 10
                have hfz40_11 := blk_frozen BK232.out 11
                go_wp2
                go_ret
                exact ⟨by first | rfl | (simp [errW_none, errW_some] <;> rfl) | (simp [*, errW_none, errW_some] <;> rfl), by repeat (first | (with_reducible first | exact HB.out | apply below_alloc | apply pw_below_drewN | apply below_drew1 | refine below_set ?_ GE232.out) | exact HB.out)⟩

end Go.Proofs.Ytmcmemknikineaa.P
