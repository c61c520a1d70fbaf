-- WRITTEN BY xprint.py, a program of this session that drives the kit's printer.
import Derived.Test.YtjeahmlahkngaaaP0
import Derived.Test.YtjeahmlahkngaaaP1
import Derived.Test.YtjeahmlahkngaaaP4
import Derived.Test.YtjeahmlahkngaaaP5
import Derived.Test.YtjeahmlahkngaaaP12
import Derived.Test.YtjeahmlahkngaaaP14
import Derived.Test.YtjeahmlahkngaaaP15
import Derived.Test.YtjeahmlahkngaaaP19
namespace Go.Proofs.Ytjeahmlahkngaaa.P
open Go.RowKit Go.Proofs.YtjeahmlahkngaaaW.PrintWords Go.Proofs.YtjeahmlahkngaaaW.PrintLast Go.Proofs.YtjeahmlahkngaaaW.PrintMore
attribute [local go_sem] max2_int min2_int max_two min_two max_three min_three max_four min_four   -- for this text's walks alone
set_option linter.unusedVariables false
set_option linter.unusedSimpArgs false

attribute [local go_sem high] eqA23
/-! ### thalweglaw02_HeightLevels: function 5 -/
def thalweglaw02_HeightLevels.j0 : Nat → Bool → Bool → Int → Int → Int → Int → Int → Bool → Int → Int → Int → Int → Int → Option (Bool)
  | 0, _, _, _, _, _, _, _, _, _, _, _, _, _ => none
  | k + 1, x23, x381000, x381001, x381002, x381003, x381004, x381005, x382000, x382001, x382002, x382003, x382004, x382005 => if x23 = true then ((thalweglaw02_awake.f k).bind fun t384 => (some t384)) else ((height_Level.f k x381000 x381001 x381002 x381003 x381004 x381005).bind fun bt385 => ((height_At.f k bt385.1 bt385.2.1 bt385.2.2 x381004 x381005).bind fun bt388 => ((height_Level.f k x381000 x381001 x381002 x381003 x381004 x381005).bind fun bt396 => ((height_Level.f k x382000 x382001 x382002 x382003 x382004 x382005).bind fun bt399 => ((height_Order.f k bt396.1 bt396.2.1 bt396.2.2 bt399.1 bt399.2.1 bt399.2.2).bind fun t402 => ((thalweglaw02_awake.f k).bind fun t403 => (if t403 = true then (if bt388.2.2.2.2.2.2 = 0 then (if (bt388.1 == x381000 && (bt388.2.1 == x381001 && (bt388.2.2.1 == x381002 && (bt388.2.2.2.1 == x381003 && (bt388.2.2.2.2.1 == x381004 && (bt388.2.2.2.2.2.1 == x381005)))))) = true then (if t402 = 0 then (some true) else ((height_Less.f k x381000 x381001 x381002 x381003 x381004 x381005 x382000 x382001 x382002 x382003 x382004 x382005).bind fun t404 => (some (t404 == (decide (t402 < 0)))))) else (none)) else (none)) else (none))))))))
def thalweglaw02_HeightLevels.f (k : Nat) (a0_0 : Bool) (a0_1 : Int) (a0_2 : Int) (a0_3 : Int) (a0_4 : Int) (a0_5 : Int) (a1_0 : Bool) (a1_1 : Int) (a1_2 : Int) (a1_3 : Int) (a1_4 : Int) (a1_5 : Int) : Option (Bool) := (height_Check.f k a0_0 a0_1 a0_2 a0_3 a0_4 a0_5).bind fun t382 => (if t382 = 0 then ((height_Check.f k a1_0 a1_1 a1_2 a1_3 a1_4 a1_5).bind fun t383 => (if t383 = 0 then (if a0_0 = true then (thalweglaw02_HeightLevels.j0 k true true a0_1 a0_2 a0_3 a0_4 a0_5 a1_0 a1_1 a1_2 a1_3 a1_4 a1_5) else (thalweglaw02_HeightLevels.j0 k a1_0 false a0_1 a0_2 a0_3 a0_4 a0_5 a1_0 a1_1 a1_2 a1_3 a1_4 a1_5)) else (thalweglaw02_HeightLevels.j0 k true a0_0 a0_1 a0_2 a0_3 a0_4 a0_5 a1_0 a1_1 a1_2 a1_3 a1_4 a1_5))) else (thalweglaw02_HeightLevels.j0 k true a0_0 a0_1 a0_2 a0_3 a0_4 a0_5 a1_0 a1_1 a1_2 a1_3 a1_4 a1_5))
theorem thalweglaw02_HeightLevels.mono_l : ∀ k, (∀ y0 y1 y2 y3 y4 y5 y6 y7 y8 y9 y10 y11 y12, LeO (thalweglaw02_HeightLevels.j0 k y0 y1 y2 y3 y4 y5 y6 y7 y8 y9 y10 y11 y12) (thalweglaw02_HeightLevels.j0 (k + 1) y0 y1 y2 y3 y4 y5 y6 y7 y8 y9 y10 y11 y12))
  | 0 => fun _ _ _ _ _ _ _ _ _ _ _ _ _ r h => by simp [thalweglaw02_HeightLevels.j0] at h
  | k + 1 => by
    have ih0 := thalweglaw02_HeightLevels.mono_l k
    · intro y0 y1 y2 y3 y4 y5 y6 y7 y8 y9 y10 y11 y12
      unfold thalweglaw02_HeightLevels.j0
      repeat' first
      | (with_reducible exact ih0 _ _ _ _ _ _ _ _ _ _ _ _ _)
      | (with_reducible exact height_At.mono _ _ _ _ _ _)
      | (with_reducible exact height_Check.mono _ _ _ _ _ _ _)
      | (with_reducible exact height_Less.mono _ _ _ _ _ _ _ _ _ _ _ _ _)
      | (with_reducible exact height_Level.mono _ _ _ _ _ _ _)
      | (with_reducible exact height_Order.mono _ _ _ _ _ _ _)
      | (with_reducible exact thalweglaw02_awake.mono _)
      | (with_reducible exact LeO.refl _)
      | (with_reducible exact LeO.none _)
      | (with_reducible refine LeO.ite ?_ ?_)
      | (with_reducible refine LeO.bind ?_ (fun _ => ?_))
      | exact ih0 _ _ _ _ _ _ _ _ _ _ _ _ _
      | exact height_At.mono _ _ _ _ _ _
      | exact height_Check.mono _ _ _ _ _ _ _
      | exact height_Less.mono _ _ _ _ _ _ _ _ _ _ _ _ _
      | exact height_Level.mono _ _ _ _ _ _ _
      | exact height_Order.mono _ _ _ _ _ _ _
      | exact thalweglaw02_awake.mono _
      | exact LeO.none _
      | refine LeO.ite ?_ ?_
      | refine LeO.bind ?_ (fun _ => ?_)
theorem thalweglaw02_HeightLevels.mono : ∀ a0 a1 a2 a3 a4 a5 a6 a7 a8 a9 a10 a11 k, LeO (thalweglaw02_HeightLevels.f k a0 a1 a2 a3 a4 a5 a6 a7 a8 a9 a10 a11) (thalweglaw02_HeightLevels.f (k + 1) a0 a1 a2 a3 a4 a5 a6 a7 a8 a9 a10 a11) := by
  intro a0 a1 a2 a3 a4 a5 a6 a7 a8 a9 a10 a11 k
  have ih0 := thalweglaw02_HeightLevels.mono_l k
  unfold thalweglaw02_HeightLevels.f
  repeat' first
      | (with_reducible exact ih0 _ _ _ _ _ _ _ _ _ _ _ _ _)
      | (with_reducible exact height_At.mono _ _ _ _ _ _)
      | (with_reducible exact height_Check.mono _ _ _ _ _ _ _)
      | (with_reducible exact height_Less.mono _ _ _ _ _ _ _ _ _ _ _ _ _)
      | (with_reducible exact height_Level.mono _ _ _ _ _ _ _)
      | (with_reducible exact height_Order.mono _ _ _ _ _ _ _)
      | (with_reducible exact thalweglaw02_awake.mono _)
      | (with_reducible exact LeO.refl _)
      | (with_reducible exact LeO.none _)
      | (with_reducible refine LeO.ite ?_ ?_)
      | (with_reducible refine LeO.bind ?_ (fun _ => ?_))
      | exact ih0 _ _ _ _ _ _ _ _ _ _ _ _ _
      | exact height_At.mono _ _ _ _ _ _
      | exact height_Check.mono _ _ _ _ _ _ _
      | exact height_Less.mono _ _ _ _ _ _ _ _ _ _ _ _ _
      | exact height_Level.mono _ _ _ _ _ _ _
      | exact height_Order.mono _ _ _ _ _ _ _
      | exact thalweglaw02_awake.mono _
      | exact LeO.none _
      | refine LeO.ite ?_ ?_
      | refine LeO.bind ?_ (fun _ => ?_)
def thalweglaw02_HeightLevels.T3 : Bool × List (List Nat × List Nat) := (true, [([], []), ([0], [0]), ([], []), ([2], [2]), ([], []), ([4], [4]), ([1, 3, 5, 1], [1, 3, 5]), ([6], [6]), ([7], [7]), ([7], [7]), ([], []), ([10, 8, 6, 0, 1, 2, 3, 4, 5, 6, 7, 8, 10], [8, 10]), ([9, 11, 0, 1, 2, 3, 4, 5, 6, 7, 8, 9, 10, 11], [9])])
def thalweglaw02_HeightLevels.B3 : List Nat := [0, 1, 0, 4, 0, 16, 63, 127, 255, 255, 0, 1535, 4095]
theorem thalweglaw02_HeightLevels.tab3 : rtab .any (opsOf Try.f5 3) = thalweglaw02_HeightLevels.T3 := by kernel_rfl
theorem thalweglaw02_HeightLevels.bits3 : waitsOk thalweglaw02_HeightLevels.T3.2 thalweglaw02_HeightLevels.B3 = true := by kernel_rfl
set_option maxHeartbeats 8000000 in
set_option maxRecDepth 100000 in
theorem thalweglaw02_HeightLevels.calls (k : Nat) (a0_0 : Bool) (a0_1 : Int) (a0_2 : Int) (a0_3 : Int) (a0_4 : Int) (a0_5 : Int) (a1_0 : Bool) (a1_1 : Int) (a1_2 : Int) (a1_3 : Int) (a1_4 : Int) (a1_5 : Int) (r : Bool) (w : World) (h : thalweglaw02_HeightLevels.f k a0_0 a0_1 a0_2 a0_3 a0_4 a0_5 a1_0 a1_1 a1_2 a1_3 a1_4 a1_5 = some r) :
    Calls Try.prog 5 #[.agg #[.bool a0_0, .int .i64 a0_1, .int .i64 a0_2, .int .i64 a0_3, .int .i64 a0_4, .int .i64 a0_5], .agg #[.bool a1_0, .int .i64 a1_1, .int .i64 a1_2, .int .i64 a1_3, .int .i64 a1_4, .int .i64 a1_5]] w fun e w' => e = .returned (.bool r) ∧ Below w.heap.size w w' := by
  have hu23 := Try.underlying23
  have HB := Aside0.mk (Below.refl w.heap.size w)
  have H : ((height_Check.f k a0_0 a0_1 a0_2 a0_3 a0_4 a0_5).bind fun t382 => (if t382 = 0 then ((height_Check.f k a1_0 a1_1 a1_2 a1_3 a1_4 a1_5).bind fun t383 => (if t383 = 0 then (if a0_0 = true then (thalweglaw02_HeightLevels.j0 k true true a0_1 a0_2 a0_3 a0_4 a0_5 a1_0 a1_1 a1_2 a1_3 a1_4 a1_5) else (thalweglaw02_HeightLevels.j0 k a1_0 false a0_1 a0_2 a0_3 a0_4 a0_5 a1_0 a1_1 a1_2 a1_3 a1_4 a1_5)) else (thalweglaw02_HeightLevels.j0 k true a0_0 a0_1 a0_2 a0_3 a0_4 a0_5 a1_0 a1_1 a1_2 a1_3 a1_4 a1_5))) else (thalweglaw02_HeightLevels.j0 k true a0_0 a0_1 a0_2 a0_3 a0_4 a0_5 a1_0 a1_1 a1_2 a1_3 a1_4 a1_5))) = some r := h
  clear h
  have HC3 := Aside0.mk H
  clear H
  go_enter Try.func5, Try.ntmps5
  go_upto_region 1 with (first | ((with_reducible refine gate_dst (N := 2) rfl ?_); refine box_event ?hg (N := 2) ?hd (cs := #[.bool a0_0, .int .i64 a0_1, .int .i64 a0_2, .int .i64 a0_3, .int .i64 a0_4, .int .i64 a0_5]) (t := 23) ?hr ?_; (case hd => rfl); (case hg => rfl); (case hr => first | (go_simp; done) | (go_simp; rfl)); intro gb380 hg w4 hbox hb; have n0_ := Aside0.mk (below_step (by repeat (first | (with_reducible first | exact HB.out | apply below_alloc | apply pw_below_drewN | apply below_drew1) | exact HB.out)) hb); have n1_ := Aside0.mk (hbox); have n2_ := Aside0.mk ((by rw [hg]; exact (below_size (by repeat (first | (with_reducible first | exact HB.out | apply below_alloc | apply pw_below_drewN | apply below_drew1) | exact HB.out))) : w.heap.size ≤ gb380)); have n3_ := Aside0.mk ((by rw [hg]; exact (below_size (by repeat (first | (with_reducible first | exact HB.out | apply below_alloc | apply pw_below_drewN | apply below_drew1) | exact HB.out))) : w.heap.size ≤ gb380)); clear HB; have HB := n0_; have BK380 := n1_; have GW380 := n2_; have GE380 := n3_; clear n0_ n1_ n2_ n3_; clear hb hbox hg) | ((with_reducible refine gate_dst (N := 3) rfl ?_); refine box_event ?hg (N := 3) ?hd (cs := #[.bool a1_0, .int .i64 a1_1, .int .i64 a1_2, .int .i64 a1_3, .int .i64 a1_4, .int .i64 a1_5]) (t := 23) ?hr ?_; (case hd => rfl); (case hg => rfl); (case hr => first | (go_simp; done) | (go_simp; rfl)); intro gb381 hg w5 hbox hb; have n0_ := Aside0.mk (blk_below (g := gb380) (o := .cells #[.bool a0_0, .int .i64 a0_1, .int .i64 a0_2, .int .i64 a0_3, .int .i64 a0_4, .int .i64 a0_5] 23 (0, 0)) (by (with_reducible repeat (first | refine blk_drewN ?_ _ | refine blk_drew ?_ | refine blk_alloc ?_ _)); exact BK380.out) hb); have n1_ := Aside0.mk (below_step (by repeat (first | (with_reducible first | exact HB.out | apply below_alloc | apply pw_below_drewN | apply below_drew1 | refine below_set ?_ GE380.out) | exact HB.out)) hb); have n2_ := Aside0.mk (hbox); have n3_ := Aside0.mk ((by rw [hg]; exact (below_size (by repeat (first | (with_reducible first | exact HB.out | apply below_alloc | apply pw_below_drewN | apply below_drew1 | refine below_set ?_ GE380.out) | exact HB.out))) : w.heap.size ≤ gb381)); have n4_ := Aside0.mk ((by rw [hg]; exact (below_size (by repeat (first | (with_reducible first | exact HB.out | apply below_alloc | apply pw_below_drewN | apply below_drew1 | refine below_set ?_ GE380.out) | exact HB.out))) : w.heap.size ≤ gb381)); have n5_ := Aside0.mk ((by rw [hg]; exact Nat.ne_of_lt (blk_lt (g := gb380) (o := .cells #[.bool a0_0, .int .i64 a0_1, .int .i64 a0_2, .int .i64 a0_3, .int .i64 a0_4, .int .i64 a0_5] 23 (0, 0)) (by (with_reducible repeat (first | refine blk_drewN ?_ _ | refine blk_drew ?_ | refine blk_alloc ?_ _)); exact BK380.out)) : gb380 ≠ gb381)); have n6_ := Aside0.mk ((by rw [hg]; exact Nat.ne_of_gt (blk_lt (g := gb380) (o := .cells #[.bool a0_0, .int .i64 a0_1, .int .i64 a0_2, .int .i64 a0_3, .int .i64 a0_4, .int .i64 a0_5] 23 (0, 0)) (by (with_reducible repeat (first | refine blk_drewN ?_ _ | refine blk_drew ?_ | refine blk_alloc ?_ _)); exact BK380.out)) : gb381 ≠ gb380)); clear BK380; clear HB; have BK380 := n0_; have HB := n1_; have BK381 := n2_; have GW381 := n3_; have GE381 := n4_; have NB380_381 := n5_; have NB381_380 := n6_; clear n0_ n1_ n2_ n3_ n4_ n5_ n6_; clear hb hbox hg))
  (try simp only [Act.put, List.setIfInBounds_toArray, List.set_cons_zero, List.set_cons_succ])
  go_cut [23] (fun v23 wc => ∃ (kq : Nat) (x23_2 : Bool), v23 = .bool x23_2 ∧ Aside0 (thalweglaw02_HeightLevels.j0 kq x23_2 a0_0 a0_1 a0_2 a0_3 a0_4 a0_5 a1_0 a1_1 a1_2 a1_3 a1_4 a1_5 = some r) ∧ Aside0 (kq ≤ k) ∧ Aside0 (wc.heap[gb380]? = some (.cells #[.bool a0_0, .int .i64 a0_1, .int .i64 a0_2, .int .i64 a0_3, .int .i64 a0_4, .int .i64 a0_5] 23 (0, 0))) ∧ Aside0 (wc.heap[gb381]? = some (.cells #[.bool a1_0, .int .i64 a1_1, .int .i64 a1_2, .int .i64 a1_3, .int .i64 a1_4, .int .i64 a1_5] 23 (0, 0))) ∧ Aside0 (Below w.heap.size w wc))
  case first =>
    have H := HC3.out
    clear HC3
    replace H := Option.bind_eq_some_iff.mp H
    obtain ⟨t382, A60, H⟩ := H
    replace H : (if t382 = 0 then ((height_Check.f k a1_0 a1_1 a1_2 a1_3 a1_4 a1_5).bind fun t383 => (if t383 = 0 then (if a0_0 = true then (thalweglaw02_HeightLevels.j0 k true true a0_1 a0_2 a0_3 a0_4 a0_5 a1_0 a1_1 a1_2 a1_3 a1_4 a1_5) else (thalweglaw02_HeightLevels.j0 k a1_0 false a0_1 a0_2 a0_3 a0_4 a0_5 a1_0 a1_1 a1_2 a1_3 a1_4 a1_5)) else (thalweglaw02_HeightLevels.j0 k true a0_0 a0_1 a0_2 a0_3 a0_4 a0_5 a1_0 a1_1 a1_2 a1_3 a1_4 a1_5))) else (thalweglaw02_HeightLevels.j0 k true a0_0 a0_1 a0_2 a0_3 a0_4 a0_5 a1_0 a1_1 a1_2 a1_3 a1_4 a1_5)) = some r := H
    have A6 := Aside0.mk A60
    clear A60
    by_cases c7 : t382 = 0
    · rw [if_pos c7] at H
      have c7b0 : (t382 == 0) = true := beq_iff_eq.mpr c7
      have c7b1 : (t382 != 0) = false := bne_eq_false_iff_eq.mpr c7
      clear c7
      (first | rw [c7b0] | (simp only [i64_w, i32_w]; rw [c7b0]) | skip)
      replace H := Option.bind_eq_some_iff.mp H
      obtain ⟨t383, A80, H⟩ := H
      replace H : (if t383 = 0 then (if a0_0 = true then (thalweglaw02_HeightLevels.j0 k true true a0_1 a0_2 a0_3 a0_4 a0_5 a1_0 a1_1 a1_2 a1_3 a1_4 a1_5) else (thalweglaw02_HeightLevels.j0 k a1_0 false a0_1 a0_2 a0_3 a0_4 a0_5 a1_0 a1_1 a1_2 a1_3 a1_4 a1_5)) else (thalweglaw02_HeightLevels.j0 k true a0_0 a0_1 a0_2 a0_3 a0_4 a0_5 a1_0 a1_1 a1_2 a1_3 a1_4 a1_5)) = some r := H
      have A8 := Aside0.mk A80
      clear A80
      by_cases c9 : t383 = 0
      · rw [if_pos c9] at H
        have c9b0 : (t383 == 0) = true := beq_iff_eq.mpr c9
        have c9b1 : (t383 != 0) = false := bne_eq_false_iff_eq.mpr c9
        clear c9
        by_cases c10 : a0_0 = true
        · subst c10
          have H1 : (thalweglaw02_HeightLevels.j0 k true true a0_1 a0_2 a0_3 a0_4 a0_5 a1_0 a1_1 a1_2 a1_3 a1_4 a1_5) = some r := by rw [if_pos rfl] at H; exact H
          clear H
          have H := H1
          clear H1
          have H' := Aside0.mk H
          clear H
          have hnb11 := NB380_381.out
          have hnc11 := NB381_380.out
          have hcz12_0 : w5.cell? ⟨gb380, 0, none⟩ = some (.bool true) := (blk_cell BK380.out 0).trans rfl
          have hcz12_1 : w5.cell? ⟨gb380, 1, none⟩ = some (.int .i64 a0_1) := (blk_cell BK380.out 1).trans rfl
          have hcz12_2 : w5.cell? ⟨gb380, 2, none⟩ = some (.int .i64 a0_2) := (blk_cell BK380.out 2).trans rfl
          have hcz12_3 : w5.cell? ⟨gb380, 3, none⟩ = some (.int .i64 a0_3) := (blk_cell BK380.out 3).trans rfl
          have hcz12_4 : w5.cell? ⟨gb380, 4, none⟩ = some (.int .i64 a0_4) := (blk_cell BK380.out 4).trans rfl
          have hcz12_5 : w5.cell? ⟨gb380, 5, none⟩ = some (.int .i64 a0_5) := (blk_cell BK380.out 5).trans rfl
          have hfz12_0 := blk_frozen BK380.out 0
          have hfz12_1 := blk_frozen BK380.out 1
          have hfz12_2 := blk_frozen BK380.out 2
          have hfz12_3 := blk_frozen BK380.out 3
          have hfz12_4 := blk_frozen BK380.out 4
          have hfz12_5 := blk_frozen BK380.out 5
          go_wp2_with (first | ((with_reducible refine gate_callee (f := 12) rfl ?_); refine goesL_ (some 9) rfl rfl Try.func12 (by kernel_rfl) rfl #[.agg #[.bool true, .int .i64 a0_1, .int .i64 a0_2, .int .i64 a0_3, .int .i64 a0_4, .int .i64 a0_5]] rfl (by (try simp only [List.map_toArray, List.map_cons, List.map_nil]); first | done | rfl | (simp only [List.length_drop, List.length_take]; rfl)) ?_; (with_reducible refine (height_Check.calls k true a0_1 a0_2 a0_3 a0_4 a0_5 t382 _ A6.out).mono ?_); rintro e w13 ⟨rfl, hb⟩; refine ⟨_, rfl, ?_⟩; have n0_ := Aside0.mk (blk_below (g := gb380) (o := .cells #[.bool true, .int .i64 a0_1, .int .i64 a0_2, .int .i64 a0_3, .int .i64 a0_4, .int .i64 a0_5] 23 (0, 0)) (by (with_reducible repeat (first | refine blk_drewN ?_ _ | refine blk_drew ?_ | refine blk_alloc ?_ _)); exact BK380.out) hb); have n1_ := Aside0.mk (blk_below (g := gb381) (o := .cells #[.bool a1_0, .int .i64 a1_1, .int .i64 a1_2, .int .i64 a1_3, .int .i64 a1_4, .int .i64 a1_5] 23 (0, 0)) (by (with_reducible repeat (first | refine blk_drewN ?_ _ | refine blk_drew ?_ | refine blk_alloc ?_ _)); exact BK381.out) hb); have n2_ := Aside0.mk (below_step (by repeat (first | (with_reducible first | exact HB.out | apply below_alloc | apply pw_below_drewN | apply below_drew1 | refine below_set ?_ GE380.out | refine below_set ?_ GE381.out) | exact HB.out)) hb); clear BK380; clear BK381; clear HB; have BK380 := n0_; have BK381 := n1_; have HB := n2_; clear n0_ n1_ n2_; (try clear hb); (try clear hb2); (try clear hk); (try clear hi); have hcz14_0 : w13.cell? ⟨gb381, 0, none⟩ = some (.bool a1_0) := (blk_cell BK381.out 0).trans rfl; have hcz14_1 : w13.cell? ⟨gb381, 1, none⟩ = some (.int .i64 a1_1) := (blk_cell BK381.out 1).trans rfl; have hcz14_2 : w13.cell? ⟨gb381, 2, none⟩ = some (.int .i64 a1_2) := (blk_cell BK381.out 2).trans rfl; have hcz14_3 : w13.cell? ⟨gb381, 3, none⟩ = some (.int .i64 a1_3) := (blk_cell BK381.out 3).trans rfl; have hcz14_4 : w13.cell? ⟨gb381, 4, none⟩ = some (.int .i64 a1_4) := (blk_cell BK381.out 4).trans rfl; have hcz14_5 : w13.cell? ⟨gb381, 5, none⟩ = some (.int .i64 a1_5) := (blk_cell BK381.out 5).trans rfl; have hfz14_0 := blk_frozen BK381.out 0; have hfz14_1 := blk_frozen BK381.out 1; have hfz14_2 := blk_frozen BK381.out 2; have hfz14_3 := blk_frozen BK381.out 3; have hfz14_4 := blk_frozen BK381.out 4; have hfz14_5 := blk_frozen BK381.out 5) | (go_at_call 12; (with_reducible refine (height_Check.calls k a1_0 a1_1 a1_2 a1_3 a1_4 a1_5 t383 _ A8.out).mono ?_); rintro e w15 ⟨rfl, hb⟩; have n0_ := Aside0.mk (blk_below (g := gb380) (o := .cells #[.bool true, .int .i64 a0_1, .int .i64 a0_2, .int .i64 a0_3, .int .i64 a0_4, .int .i64 a0_5] 23 (0, 0)) (by (with_reducible repeat (first | refine blk_drewN ?_ _ | refine blk_drew ?_ | refine blk_alloc ?_ _)); exact BK380.out) hb); have n1_ := Aside0.mk (blk_below (g := gb381) (o := .cells #[.bool a1_0, .int .i64 a1_1, .int .i64 a1_2, .int .i64 a1_3, .int .i64 a1_4, .int .i64 a1_5] 23 (0, 0)) (by (with_reducible repeat (first | refine blk_drewN ?_ _ | refine blk_drew ?_ | refine blk_alloc ?_ _)); exact BK381.out) hb); have n2_ := Aside0.mk (below_step (by repeat (first | (with_reducible first | exact HB.out | apply below_alloc | apply pw_below_drewN | apply below_drew1 | refine below_set ?_ GE380.out | refine below_set ?_ GE381.out) | exact HB.out)) hb); clear BK380; clear BK381; clear HB; have BK380 := n0_; have BK381 := n1_; have HB := n2_; clear n0_ n1_ n2_; (try clear hb); (try clear hb2); (try clear hk); (try clear hi); have hcz16_0 : w15.cell? ⟨gb380, 0, none⟩ = some (.bool true) := (blk_cell BK380.out 0).trans rfl; have hcz16_1 : w15.cell? ⟨gb380, 1, none⟩ = some (.int .i64 a0_1) := (blk_cell BK380.out 1).trans rfl; have hcz16_2 : w15.cell? ⟨gb380, 2, none⟩ = some (.int .i64 a0_2) := (blk_cell BK380.out 2).trans rfl; have hcz16_3 : w15.cell? ⟨gb380, 3, none⟩ = some (.int .i64 a0_3) := (blk_cell BK380.out 3).trans rfl; have hcz16_4 : w15.cell? ⟨gb380, 4, none⟩ = some (.int .i64 a0_4) := (blk_cell BK380.out 4).trans rfl; have hcz16_5 : w15.cell? ⟨gb380, 5, none⟩ = some (.int .i64 a0_5) := (blk_cell BK380.out 5).trans rfl; have hfz16_0 := blk_frozen BK380.out 0; have hfz16_1 := blk_frozen BK380.out 1; have hfz16_2 := blk_frozen BK380.out 2; have hfz16_3 := blk_frozen BK380.out 3; have hfz16_4 := blk_frozen BK380.out 4; have hfz16_5 := blk_frozen BK380.out 5))
          go_meet
          case rel => exact ⟨_, (true), (by first | rfl | (simp; done) | (simp [*]; done)), H', ⟨by first | omega | exact Nat.le_refl _⟩, ⟨by (with_reducible repeat (first | refine blk_drewN ?_ _ | refine blk_drew ?_ | refine blk_alloc ?_ _)); exact BK380.out⟩, ⟨by (with_reducible repeat (first | refine blk_drewN ?_ _ | refine blk_drew ?_ | refine blk_alloc ?_ _)); exact BK381.out⟩, ⟨by repeat (first | (with_reducible first | exact HB.out | apply below_alloc | apply pw_below_drewN | apply below_drew1 | refine below_set ?_ GE380.out | refine below_set ?_ GE381.out) | exact HB.out)⟩⟩
        · replace c10 := Bool.eq_false_iff.mpr c10
          subst c10
          have H1 : (thalweglaw02_HeightLevels.j0 k a1_0 false a0_1 a0_2 a0_3 a0_4 a0_5 a1_0 a1_1 a1_2 a1_3 a1_4 a1_5) = some r := by rw [if_neg (show ¬ (false = true) by decide)] at H; exact H
          clear H
          have H := H1
          clear H1
          have H' := Aside0.mk H
          clear H
          have hnb17 := NB380_381.out
          have hnc17 := NB381_380.out
          have hcz18_0 : w5.cell? ⟨gb380, 0, none⟩ = some (.bool false) := (blk_cell BK380.out 0).trans rfl
          have hcz18_1 : w5.cell? ⟨gb380, 1, none⟩ = some (.int .i64 a0_1) := (blk_cell BK380.out 1).trans rfl
          have hcz18_2 : w5.cell? ⟨gb380, 2, none⟩ = some (.int .i64 a0_2) := (blk_cell BK380.out 2).trans rfl
          have hcz18_3 : w5.cell? ⟨gb380, 3, none⟩ = some (.int .i64 a0_3) := (blk_cell BK380.out 3).trans rfl
          have hcz18_4 : w5.cell? ⟨gb380, 4, none⟩ = some (.int .i64 a0_4) := (blk_cell BK380.out 4).trans rfl
          have hcz18_5 : w5.cell? ⟨gb380, 5, none⟩ = some (.int .i64 a0_5) := (blk_cell BK380.out 5).trans rfl
          have hfz18_0 := blk_frozen BK380.out 0
          have hfz18_1 := blk_frozen BK380.out 1
          have hfz18_2 := blk_frozen BK380.out 2
          have hfz18_3 := blk_frozen BK380.out 3
          have hfz18_4 := blk_frozen BK380.out 4
          have hfz18_5 := blk_frozen BK380.out 5
          go_wp2_with (first | ((with_reducible refine gate_callee (f := 12) rfl ?_); refine goesL_ (some 9) rfl rfl Try.func12 (by kernel_rfl) rfl #[.agg #[.bool false, .int .i64 a0_1, .int .i64 a0_2, .int .i64 a0_3, .int .i64 a0_4, .int .i64 a0_5]] rfl (by (try simp only [List.map_toArray, List.map_cons, List.map_nil]); first | done | rfl | (simp only [List.length_drop, List.length_take]; rfl)) ?_; (with_reducible refine (height_Check.calls k false a0_1 a0_2 a0_3 a0_4 a0_5 t382 _ A6.out).mono ?_); rintro e w19 ⟨rfl, hb⟩; refine ⟨_, rfl, ?_⟩; have n0_ := Aside0.mk (blk_below (g := gb380) (o := .cells #[.bool false, .int .i64 a0_1, .int .i64 a0_2, .int .i64 a0_3, .int .i64 a0_4, .int .i64 a0_5] 23 (0, 0)) (by (with_reducible repeat (first | refine blk_drewN ?_ _ | refine blk_drew ?_ | refine blk_alloc ?_ _)); exact BK380.out) hb); have n1_ := Aside0.mk (blk_below (g := gb381) (o := .cells #[.bool a1_0, .int .i64 a1_1, .int .i64 a1_2, .int .i64 a1_3, .int .i64 a1_4, .int .i64 a1_5] 23 (0, 0)) (by (with_reducible repeat (first | refine blk_drewN ?_ _ | refine blk_drew ?_ | refine blk_alloc ?_ _)); exact BK381.out) hb); have n2_ := Aside0.mk (below_step (by repeat (first | (with_reducible first | exact HB.out | apply below_alloc | apply pw_below_drewN | apply below_drew1 | refine below_set ?_ GE380.out | refine below_set ?_ GE381.out) | exact HB.out)) hb); clear BK380; clear BK381; clear HB; have BK380 := n0_; have BK381 := n1_; have HB := n2_; clear n0_ n1_ n2_; (try clear hb); (try clear hb2); (try clear hk); (try clear hi); have hcz20_0 : w19.cell? ⟨gb381, 0, none⟩ = some (.bool a1_0) := (blk_cell BK381.out 0).trans rfl; have hcz20_1 : w19.cell? ⟨gb381, 1, none⟩ = some (.int .i64 a1_1) := (blk_cell BK381.out 1).trans rfl; have hcz20_2 : w19.cell? ⟨gb381, 2, none⟩ = some (.int .i64 a1_2) := (blk_cell BK381.out 2).trans rfl; have hcz20_3 : w19.cell? ⟨gb381, 3, none⟩ = some (.int .i64 a1_3) := (blk_cell BK381.out 3).trans rfl; have hcz20_4 : w19.cell? ⟨gb381, 4, none⟩ = some (.int .i64 a1_4) := (blk_cell BK381.out 4).trans rfl; have hcz20_5 : w19.cell? ⟨gb381, 5, none⟩ = some (.int .i64 a1_5) := (blk_cell BK381.out 5).trans rfl; have hfz20_0 := blk_frozen BK381.out 0; have hfz20_1 := blk_frozen BK381.out 1; have hfz20_2 := blk_frozen BK381.out 2; have hfz20_3 := blk_frozen BK381.out 3; have hfz20_4 := blk_frozen BK381.out 4; have hfz20_5 := blk_frozen BK381.out 5) | (go_at_call 12; (with_reducible refine (height_Check.calls k a1_0 a1_1 a1_2 a1_3 a1_4 a1_5 t383 _ A8.out).mono ?_); rintro e w21 ⟨rfl, hb⟩; have n0_ := Aside0.mk (blk_below (g := gb380) (o := .cells #[.bool false, .int .i64 a0_1, .int .i64 a0_2, .int .i64 a0_3, .int .i64 a0_4, .int .i64 a0_5] 23 (0, 0)) (by (with_reducible repeat (first | refine blk_drewN ?_ _ | refine blk_drew ?_ | refine blk_alloc ?_ _)); exact BK380.out) hb); have n1_ := Aside0.mk (blk_below (g := gb381) (o := .cells #[.bool a1_0, .int .i64 a1_1, .int .i64 a1_2, .int .i64 a1_3, .int .i64 a1_4, .int .i64 a1_5] 23 (0, 0)) (by (with_reducible repeat (first | refine blk_drewN ?_ _ | refine blk_drew ?_ | refine blk_alloc ?_ _)); exact BK381.out) hb); have n2_ := Aside0.mk (below_step (by repeat (first | (with_reducible first | exact HB.out | apply below_alloc | apply pw_below_drewN | apply below_drew1 | refine below_set ?_ GE380.out | refine below_set ?_ GE381.out) | exact HB.out)) hb); clear BK380; clear BK381; clear HB; have BK380 := n0_; have BK381 := n1_; have HB := n2_; clear n0_ n1_ n2_; (try clear hb); (try clear hb2); (try clear hk); (try clear hi); have hcz22_0 : w21.cell? ⟨gb380, 0, none⟩ = some (.bool false) := (blk_cell BK380.out 0).trans rfl; have hcz22_1 : w21.cell? ⟨gb380, 1, none⟩ = some (.int .i64 a0_1) := (blk_cell BK380.out 1).trans rfl; have hcz22_2 : w21.cell? ⟨gb380, 2, none⟩ = some (.int .i64 a0_2) := (blk_cell BK380.out 2).trans rfl; have hcz22_3 : w21.cell? ⟨gb380, 3, none⟩ = some (.int .i64 a0_3) := (blk_cell BK380.out 3).trans rfl; have hcz22_4 : w21.cell? ⟨gb380, 4, none⟩ = some (.int .i64 a0_4) := (blk_cell BK380.out 4).trans rfl; have hcz22_5 : w21.cell? ⟨gb380, 5, none⟩ = some (.int .i64 a0_5) := (blk_cell BK380.out 5).trans rfl; have hfz22_0 := blk_frozen BK380.out 0; have hfz22_1 := blk_frozen BK380.out 1; have hfz22_2 := blk_frozen BK380.out 2; have hfz22_3 := blk_frozen BK380.out 3; have hfz22_4 := blk_frozen BK380.out 4; have hfz22_5 := blk_frozen BK380.out 5; have hcz23_0 : w21.cell? ⟨gb381, 0, none⟩ = some (.bool a1_0) := (blk_cell BK381.out 0).trans rfl; have hcz23_1 : w21.cell? ⟨gb381, 1, none⟩ = some (.int .i64 a1_1) := (blk_cell BK381.out 1).trans rfl; have hcz23_2 : w21.cell? ⟨gb381, 2, none⟩ = some (.int .i64 a1_2) := (blk_cell BK381.out 2).trans rfl; have hcz23_3 : w21.cell? ⟨gb381, 3, none⟩ = some (.int .i64 a1_3) := (blk_cell BK381.out 3).trans rfl; have hcz23_4 : w21.cell? ⟨gb381, 4, none⟩ = some (.int .i64 a1_4) := (blk_cell BK381.out 4).trans rfl; have hcz23_5 : w21.cell? ⟨gb381, 5, none⟩ = some (.int .i64 a1_5) := (blk_cell BK381.out 5).trans rfl; have hfz23_0 := blk_frozen BK381.out 0; have hfz23_1 := blk_frozen BK381.out 1; have hfz23_2 := blk_frozen BK381.out 2; have hfz23_3 := blk_frozen BK381.out 3; have hfz23_4 := blk_frozen BK381.out 4; have hfz23_5 := blk_frozen BK381.out 5))
          go_meet
          case rel => exact ⟨_, (a1_0), (by first | rfl | (simp; done) | (simp [*]; done)), H', ⟨by first | omega | exact Nat.le_refl _⟩, ⟨by (with_reducible repeat (first | refine blk_drewN ?_ _ | refine blk_drew ?_ | refine blk_alloc ?_ _)); exact BK380.out⟩, ⟨by (with_reducible repeat (first | refine blk_drewN ?_ _ | refine blk_drew ?_ | refine blk_alloc ?_ _)); exact BK381.out⟩, ⟨by repeat (first | (with_reducible first | exact HB.out | apply below_alloc | apply pw_below_drewN | apply below_drew1 | refine below_set ?_ GE380.out | refine below_set ?_ GE381.out) | exact HB.out)⟩⟩
      · rw [if_neg c9] at H
        have c9b0 : (t383 == 0) = false := beq_eq_false_iff_ne.mpr c9
        have c9b1 : (t383 != 0) = true := bne_iff_ne.mpr c9
        have H' := Aside0.mk H
        clear H
        have hnb24 := NB380_381.out
        have hnc24 := NB381_380.out
        have hcz25_0 : w5.cell? ⟨gb380, 0, none⟩ = some (.bool a0_0) := (blk_cell BK380.out 0).trans rfl
        have hcz25_1 : w5.cell? ⟨gb380, 1, none⟩ = some (.int .i64 a0_1) := (blk_cell BK380.out 1).trans rfl
        have hcz25_2 : w5.cell? ⟨gb380, 2, none⟩ = some (.int .i64 a0_2) := (blk_cell BK380.out 2).trans rfl
        have hcz25_3 : w5.cell? ⟨gb380, 3, none⟩ = some (.int .i64 a0_3) := (blk_cell BK380.out 3).trans rfl
        have hcz25_4 : w5.cell? ⟨gb380, 4, none⟩ = some (.int .i64 a0_4) := (blk_cell BK380.out 4).trans rfl
        have hcz25_5 : w5.cell? ⟨gb380, 5, none⟩ = some (.int .i64 a0_5) := (blk_cell BK380.out 5).trans rfl
        have hfz25_0 := blk_frozen BK380.out 0
        have hfz25_1 := blk_frozen BK380.out 1
        have hfz25_2 := blk_frozen BK380.out 2
        have hfz25_3 := blk_frozen BK380.out 3
        have hfz25_4 := blk_frozen BK380.out 4
        have hfz25_5 := blk_frozen BK380.out 5
        go_wp2_with (first | ((with_reducible refine gate_callee (f := 12) rfl ?_); refine goesL_ (some 9) rfl rfl Try.func12 (by kernel_rfl) rfl #[.agg #[.bool a0_0, .int .i64 a0_1, .int .i64 a0_2, .int .i64 a0_3, .int .i64 a0_4, .int .i64 a0_5]] rfl (by (try simp only [List.map_toArray, List.map_cons, List.map_nil]); first | done | rfl | (simp only [List.length_drop, List.length_take]; rfl)) ?_; (with_reducible refine (height_Check.calls k a0_0 a0_1 a0_2 a0_3 a0_4 a0_5 t382 _ A6.out).mono ?_); rintro e w26 ⟨rfl, hb⟩; refine ⟨_, rfl, ?_⟩; have n0_ := Aside0.mk (blk_below (g := gb380) (o := .cells #[.bool a0_0, .int .i64 a0_1, .int .i64 a0_2, .int .i64 a0_3, .int .i64 a0_4, .int .i64 a0_5] 23 (0, 0)) (by (with_reducible repeat (first | refine blk_drewN ?_ _ | refine blk_drew ?_ | refine blk_alloc ?_ _)); exact BK380.out) hb); have n1_ := Aside0.mk (blk_below (g := gb381) (o := .cells #[.bool a1_0, .int .i64 a1_1, .int .i64 a1_2, .int .i64 a1_3, .int .i64 a1_4, .int .i64 a1_5] 23 (0, 0)) (by (with_reducible repeat (first | refine blk_drewN ?_ _ | refine blk_drew ?_ | refine blk_alloc ?_ _)); exact BK381.out) hb); have n2_ := Aside0.mk (below_step (by repeat (first | (with_reducible first | exact HB.out | apply below_alloc | apply pw_below_drewN | apply below_drew1 | refine below_set ?_ GE380.out | refine below_set ?_ GE381.out) | exact HB.out)) hb); clear BK380; clear BK381; clear HB; have BK380 := n0_; have BK381 := n1_; have HB := n2_; clear n0_ n1_ n2_; (try clear hb); (try clear hb2); (try clear hk); (try clear hi); have hcz27_0 : w26.cell? ⟨gb381, 0, none⟩ = some (.bool a1_0) := (blk_cell BK381.out 0).trans rfl; have hcz27_1 : w26.cell? ⟨gb381, 1, none⟩ = some (.int .i64 a1_1) := (blk_cell BK381.out 1).trans rfl; have hcz27_2 : w26.cell? ⟨gb381, 2, none⟩ = some (.int .i64 a1_2) := (blk_cell BK381.out 2).trans rfl; have hcz27_3 : w26.cell? ⟨gb381, 3, none⟩ = some (.int .i64 a1_3) := (blk_cell BK381.out 3).trans rfl; have hcz27_4 : w26.cell? ⟨gb381, 4, none⟩ = some (.int .i64 a1_4) := (blk_cell BK381.out 4).trans rfl; have hcz27_5 : w26.cell? ⟨gb381, 5, none⟩ = some (.int .i64 a1_5) := (blk_cell BK381.out 5).trans rfl; have hfz27_0 := blk_frozen BK381.out 0; have hfz27_1 := blk_frozen BK381.out 1; have hfz27_2 := blk_frozen BK381.out 2; have hfz27_3 := blk_frozen BK381.out 3; have hfz27_4 := blk_frozen BK381.out 4; have hfz27_5 := blk_frozen BK381.out 5) | (go_at_call 12; (with_reducible refine (height_Check.calls k a1_0 a1_1 a1_2 a1_3 a1_4 a1_5 t383 _ A8.out).mono ?_); rintro e w28 ⟨rfl, hb⟩; have n0_ := Aside0.mk (blk_below (g := gb380) (o := .cells #[.bool a0_0, .int .i64 a0_1, .int .i64 a0_2, .int .i64 a0_3, .int .i64 a0_4, .int .i64 a0_5] 23 (0, 0)) (by (with_reducible repeat (first | refine blk_drewN ?_ _ | refine blk_drew ?_ | refine blk_alloc ?_ _)); exact BK380.out) hb); have n1_ := Aside0.mk (blk_below (g := gb381) (o := .cells #[.bool a1_0, .int .i64 a1_1, .int .i64 a1_2, .int .i64 a1_3, .int .i64 a1_4, .int .i64 a1_5] 23 (0, 0)) (by (with_reducible repeat (first | refine blk_drewN ?_ _ | refine blk_drew ?_ | refine blk_alloc ?_ _)); exact BK381.out) hb); have n2_ := Aside0.mk (below_step (by repeat (first | (with_reducible first | exact HB.out | apply below_alloc | apply pw_below_drewN | apply below_drew1 | refine below_set ?_ GE380.out | refine below_set ?_ GE381.out) | exact HB.out)) hb); clear BK380; clear BK381; clear HB; have BK380 := n0_; have BK381 := n1_; have HB := n2_; clear n0_ n1_ n2_; (try clear hb); (try clear hb2); (try clear hk); (try clear hi)))
        go_meet
        case rel => exact ⟨_, (true), (by first | rfl | (simp; done) | (simp [*]; done)), H', ⟨by first | omega | exact Nat.le_refl _⟩, ⟨by (with_reducible repeat (first | refine blk_drewN ?_ _ | refine blk_drew ?_ | refine blk_alloc ?_ _)); exact BK380.out⟩, ⟨by (with_reducible repeat (first | refine blk_drewN ?_ _ | refine blk_drew ?_ | refine blk_alloc ?_ _)); exact BK381.out⟩, ⟨by repeat (first | (with_reducible first | exact HB.out | apply below_alloc | apply pw_below_drewN | apply below_drew1 | refine below_set ?_ GE380.out | refine below_set ?_ GE381.out) | exact HB.out)⟩⟩
    · rw [if_neg c7] at H
      have c7b0 : (t382 == 0) = false := beq_eq_false_iff_ne.mpr c7
      have c7b1 : (t382 != 0) = true := bne_iff_ne.mpr c7
      (first | rw [c7b0] | (simp only [i64_w, i32_w]; rw [c7b0]) | skip)
      have H' := Aside0.mk H
      clear H
      have hnb29 := NB380_381.out
      have hnc29 := NB381_380.out
      have hcz30_0 : w5.cell? ⟨gb380, 0, none⟩ = some (.bool a0_0) := (blk_cell BK380.out 0).trans rfl
      have hcz30_1 : w5.cell? ⟨gb380, 1, none⟩ = some (.int .i64 a0_1) := (blk_cell BK380.out 1).trans rfl
      have hcz30_2 : w5.cell? ⟨gb380, 2, none⟩ = some (.int .i64 a0_2) := (blk_cell BK380.out 2).trans rfl
      have hcz30_3 : w5.cell? ⟨gb380, 3, none⟩ = some (.int .i64 a0_3) := (blk_cell BK380.out 3).trans rfl
      have hcz30_4 : w5.cell? ⟨gb380, 4, none⟩ = some (.int .i64 a0_4) := (blk_cell BK380.out 4).trans rfl
      have hcz30_5 : w5.cell? ⟨gb380, 5, none⟩ = some (.int .i64 a0_5) := (blk_cell BK380.out 5).trans rfl
      have hfz30_0 := blk_frozen BK380.out 0
      have hfz30_1 := blk_frozen BK380.out 1
      have hfz30_2 := blk_frozen BK380.out 2
      have hfz30_3 := blk_frozen BK380.out 3
      have hfz30_4 := blk_frozen BK380.out 4
      have hfz30_5 := blk_frozen BK380.out 5
      go_wp2_with (first | ((with_reducible refine gate_callee (f := 12) rfl ?_); refine goesL_ (some 9) rfl rfl Try.func12 (by kernel_rfl) rfl #[.agg #[.bool a0_0, .int .i64 a0_1, .int .i64 a0_2, .int .i64 a0_3, .int .i64 a0_4, .int .i64 a0_5]] rfl (by (try simp only [List.map_toArray, List.map_cons, List.map_nil]); first | done | rfl | (simp only [List.length_drop, List.length_take]; rfl)) ?_; (with_reducible refine (height_Check.calls k a0_0 a0_1 a0_2 a0_3 a0_4 a0_5 t382 _ A6.out).mono ?_); rintro e w31 ⟨rfl, hb⟩; refine ⟨_, rfl, ?_⟩; have n0_ := Aside0.mk (blk_below (g := gb380) (o := .cells #[.bool a0_0, .int .i64 a0_1, .int .i64 a0_2, .int .i64 a0_3, .int .i64 a0_4, .int .i64 a0_5] 23 (0, 0)) (by (with_reducible repeat (first | refine blk_drewN ?_ _ | refine blk_drew ?_ | refine blk_alloc ?_ _)); exact BK380.out) hb); have n1_ := Aside0.mk (blk_below (g := gb381) (o := .cells #[.bool a1_0, .int .i64 a1_1, .int .i64 a1_2, .int .i64 a1_3, .int .i64 a1_4, .int .i64 a1_5] 23 (0, 0)) (by (with_reducible repeat (first | refine blk_drewN ?_ _ | refine blk_drew ?_ | refine blk_alloc ?_ _)); exact BK381.out) hb); have n2_ := Aside0.mk (below_step (by repeat (first | (with_reducible first | exact HB.out | apply below_alloc | apply pw_below_drewN | apply below_drew1 | refine below_set ?_ GE380.out | refine below_set ?_ GE381.out) | exact HB.out)) hb); clear BK380; clear BK381; clear HB; have BK380 := n0_; have BK381 := n1_; have HB := n2_; clear n0_ n1_ n2_; (try clear hb); (try clear hb2); (try clear hk); (try clear hi)))
      go_meet
      case rel => exact ⟨_, (true), (by first | rfl | (simp; done) | (simp [*]; done)), H', ⟨by first | omega | exact Nat.le_refl _⟩, ⟨by (with_reducible repeat (first | refine blk_drewN ?_ _ | refine blk_drew ?_ | refine blk_alloc ?_ _)); exact BK380.out⟩, ⟨by (with_reducible repeat (first | refine blk_drewN ?_ _ | refine blk_drew ?_ | refine blk_alloc ?_ _)); exact BK381.out⟩, ⟨by repeat (first | (with_reducible first | exact HB.out | apply below_alloc | apply pw_below_drewN | apply below_drew1 | refine below_set ?_ GE380.out | refine below_set ?_ GE381.out) | exact HB.out)⟩⟩
  case rest =>
    clear HC3
    try clear c1
    try clear c2
    try clear p2
    try clear c5
    try clear c7
    try clear c7b0
    try clear c7b1
    try clear c9
    try clear c9b0
    try clear c9b1
    try clear c10
    try clear c11
    try clear c12
    try clear c17
    try clear c24
    try clear c29
    try clear hcz12_0
    try clear hcz12_1
    try clear hcz12_2
    try clear hcz12_3
    try clear hcz12_4
    try clear hcz12_5
    try clear hcz14_0
    try clear hcz14_1
    try clear hcz14_2
    try clear hcz14_3
    try clear hcz14_4
    try clear hcz14_5
    try clear hcz16_0
    try clear hcz16_1
    try clear hcz16_2
    try clear hcz16_3
    try clear hcz16_4
    try clear hcz16_5
    try clear hcz18_0
    try clear hcz18_1
    try clear hcz18_2
    try clear hcz18_3
    try clear hcz18_4
    try clear hcz18_5
    try clear hcz20_0
    try clear hcz20_1
    try clear hcz20_2
    try clear hcz20_3
    try clear hcz20_4
    try clear hcz20_5
    try clear hcz22_0
    try clear hcz22_1
    try clear hcz22_2
    try clear hcz22_3
    try clear hcz22_4
    try clear hcz22_5
    try clear hcz23_0
    try clear hcz23_1
    try clear hcz23_2
    try clear hcz23_3
    try clear hcz23_4
    try clear hcz23_5
    try clear hcz25_0
    try clear hcz25_1
    try clear hcz25_2
    try clear hcz25_3
    try clear hcz25_4
    try clear hcz25_5
    try clear hcz27_0
    try clear hcz27_1
    try clear hcz27_2
    try clear hcz27_3
    try clear hcz27_4
    try clear hcz27_5
    try clear hcz30_0
    try clear hcz30_1
    try clear hcz30_2
    try clear hcz30_3
    try clear hcz30_4
    try clear hcz30_5
    try clear hfz12_0
    try clear hfz12_1
    try clear hfz12_2
    try clear hfz12_3
    try clear hfz12_4
    try clear hfz12_5
    try clear hfz14_0
    try clear hfz14_1
    try clear hfz14_2
    try clear hfz14_3
    try clear hfz14_4
    try clear hfz14_5
    try clear hfz16_0
    try clear hfz16_1
    try clear hfz16_2
    try clear hfz16_3
    try clear hfz16_4
    try clear hfz16_5
    try clear hfz18_0
    try clear hfz18_1
    try clear hfz18_2
    try clear hfz18_3
    try clear hfz18_4
    try clear hfz18_5
    try clear hfz20_0
    try clear hfz20_1
    try clear hfz20_2
    try clear hfz20_3
    try clear hfz20_4
    try clear hfz20_5
    try clear hfz22_0
    try clear hfz22_1
    try clear hfz22_2
    try clear hfz22_3
    try clear hfz22_4
    try clear hfz22_5
    try clear hfz23_0
    try clear hfz23_1
    try clear hfz23_2
    try clear hfz23_3
    try clear hfz23_4
    try clear hfz23_5
    try clear hfz25_0
    try clear hfz25_1
    try clear hfz25_2
    try clear hfz25_3
    try clear hfz25_4
    try clear hfz25_5
    try clear hfz27_0
    try clear hfz27_1
    try clear hfz27_2
    try clear hfz27_3
    try clear hfz27_4
    try clear hfz27_5
    try clear hfz30_0
    try clear hfz30_1
    try clear hfz30_2
    try clear hfz30_3
    try clear hfz30_4
    try clear hfz30_5
    obtain ⟨kq, x23_2, rfl, HA, HJ2, BK380, BK381, HB⟩ := hcut
    cases kq with
    | zero => exact absurd HA.out (by simp [thalweglaw02_HeightLevels.j0])
    | succ kj2 =>
      have H := HA.out
      clear HA
      simp only [thalweglaw02_HeightLevels.j0] at H
      by_cases c32 : x23_2 = true
      · subst c32
        have H1 : ((thalweglaw02_awake.f kj2).bind fun t384 => (some t384)) = some r := by rw [if_pos rfl] at H; exact H
        clear H
        have H := H1
        clear H1
        replace H := Option.bind_eq_some_iff.mp H
        obtain ⟨t384, A330, H⟩ := H
        replace H : (some t384) = some r := H
        have A33 := Aside0.mk A330
        clear A330
        obtain rfl := Option.some.inj H
        go_wp2_with (first | ((with_reducible refine gate_callee (f := 20) rfl ?_); refine goesL_ (some 24) rfl rfl Try.func20 (by kernel_rfl) rfl #[] rfl (by (try simp only [List.map_toArray, List.map_cons, List.map_nil]); first | done | rfl | (simp only [List.length_drop, List.length_take]; rfl)) ?_; (with_reducible refine (thalweglaw02_awake.calls kj2  t384 _ A33.out).mono ?_); rintro e w34 ⟨rfl, hb⟩; refine ⟨_, rfl, ?_⟩; have n0_ := Aside0.mk (blk_below (g := gb380) (o := .cells #[.bool a0_0, .int .i64 a0_1, .int .i64 a0_2, .int .i64 a0_3, .int .i64 a0_4, .int .i64 a0_5] 23 (0, 0)) (by (with_reducible repeat (first | refine blk_drewN ?_ _ | refine blk_drew ?_ | refine blk_alloc ?_ _)); exact BK380.out) hb); have n1_ := Aside0.mk (blk_below (g := gb381) (o := .cells #[.bool a1_0, .int .i64 a1_1, .int .i64 a1_2, .int .i64 a1_3, .int .i64 a1_4, .int .i64 a1_5] 23 (0, 0)) (by (with_reducible repeat (first | refine blk_drewN ?_ _ | refine blk_drew ?_ | refine blk_alloc ?_ _)); exact BK381.out) hb); have n2_ := Aside0.mk (below_step (by repeat (first | (with_reducible first | exact HB.out | apply below_alloc | apply pw_below_drewN | apply below_drew1 | refine below_set ?_ GE380.out | refine below_set ?_ GE381.out) | exact HB.out)) hb); clear BK380; clear BK381; clear HB; have BK380 := n0_; have BK381 := n1_; have HB := n2_; clear n0_ n1_ n2_; (try clear hb); (try clear hb2); (try clear hk); (try clear hi)))
        go_ret
        exact ⟨by first | rfl | (simp [errW_none, errW_some] <;> rfl) | (simp [*, errW_none, errW_some] <;> rfl), by repeat (first | (with_reducible first | exact HB.out | apply below_alloc | apply pw_below_drewN | apply below_drew1 | refine below_set ?_ GE380.out | refine below_set ?_ GE381.out) | exact HB.out)⟩
      · replace c32 := Bool.eq_false_iff.mpr c32
        subst c32
        have H1 : ((height_Level.f kj2 a0_0 a0_1 a0_2 a0_3 a0_4 a0_5).bind fun bt385 => ((height_At.f kj2 bt385.1 bt385.2.1 bt385.2.2 a0_4 a0_5).bind fun bt388 => ((height_Level.f kj2 a0_0 a0_1 a0_2 a0_3 a0_4 a0_5).bind fun bt396 => ((height_Level.f kj2 a1_0 a1_1 a1_2 a1_3 a1_4 a1_5).bind fun bt399 => ((height_Order.f kj2 bt396.1 bt396.2.1 bt396.2.2 bt399.1 bt399.2.1 bt399.2.2).bind fun t402 => ((thalweglaw02_awake.f kj2).bind fun t403 => (if t403 = true then (if bt388.2.2.2.2.2.2 = 0 then (if (bt388.1 == a0_0 && (bt388.2.1 == a0_1 && (bt388.2.2.1 == a0_2 && (bt388.2.2.2.1 == a0_3 && (bt388.2.2.2.2.1 == a0_4 && (bt388.2.2.2.2.2.1 == a0_5)))))) = true then (if t402 = 0 then (some true) else ((height_Less.f kj2 a0_0 a0_1 a0_2 a0_3 a0_4 a0_5 a1_0 a1_1 a1_2 a1_3 a1_4 a1_5).bind fun t404 => (some (t404 == (decide (t402 < 0)))))) else (none)) else (none)) else (none)))))))) = some r := by rw [if_neg (show ¬ (false = true) by decide)] at H; exact H
        clear H
        have H := H1
        clear H1
        replace H := Option.bind_eq_some_iff.mp H
        obtain ⟨⟨t385, t386, t387⟩, A350, H⟩ := H
        replace H : ((height_At.f kj2 t385 t386 t387 a0_4 a0_5).bind fun bt388 => ((height_Level.f kj2 a0_0 a0_1 a0_2 a0_3 a0_4 a0_5).bind fun bt396 => ((height_Level.f kj2 a1_0 a1_1 a1_2 a1_3 a1_4 a1_5).bind fun bt399 => ((height_Order.f kj2 bt396.1 bt396.2.1 bt396.2.2 bt399.1 bt399.2.1 bt399.2.2).bind fun t402 => ((thalweglaw02_awake.f kj2).bind fun t403 => (if t403 = true then (if bt388.2.2.2.2.2.2 = 0 then (if (bt388.1 == a0_0 && (bt388.2.1 == a0_1 && (bt388.2.2.1 == a0_2 && (bt388.2.2.2.1 == a0_3 && (bt388.2.2.2.2.1 == a0_4 && (bt388.2.2.2.2.2.1 == a0_5)))))) = true then (if t402 = 0 then (some true) else ((height_Less.f kj2 a0_0 a0_1 a0_2 a0_3 a0_4 a0_5 a1_0 a1_1 a1_2 a1_3 a1_4 a1_5).bind fun t404 => (some (t404 == (decide (t402 < 0)))))) else (none)) else (none)) else (none))))))) = some r := H
        have A35 := Aside0.mk A350
        clear A350
        replace H := Option.bind_eq_some_iff.mp H
        obtain ⟨⟨t388, t389, t390, t391, t392, t393, t394⟩, A360, H⟩ := H
        replace H : ((height_Level.f kj2 a0_0 a0_1 a0_2 a0_3 a0_4 a0_5).bind fun bt396 => ((height_Level.f kj2 a1_0 a1_1 a1_2 a1_3 a1_4 a1_5).bind fun bt399 => ((height_Order.f kj2 bt396.1 bt396.2.1 bt396.2.2 bt399.1 bt399.2.1 bt399.2.2).bind fun t402 => ((thalweglaw02_awake.f kj2).bind fun t403 => (if t403 = true then (if t394 = 0 then (if (t388 == a0_0 && (t389 == a0_1 && (t390 == a0_2 && (t391 == a0_3 && (t392 == a0_4 && (t393 == a0_5)))))) = true then (if t402 = 0 then (some true) else ((height_Less.f kj2 a0_0 a0_1 a0_2 a0_3 a0_4 a0_5 a1_0 a1_1 a1_2 a1_3 a1_4 a1_5).bind fun t404 => (some (t404 == (decide (t402 < 0)))))) else (none)) else (none)) else (none)))))) = some r := H
        have A36 := Aside0.mk A360
        clear A360
        replace H := Option.bind_eq_some_iff.mp H
        obtain ⟨⟨t396, t397, t398⟩, A370, H⟩ := H
        replace H : ((height_Level.f kj2 a1_0 a1_1 a1_2 a1_3 a1_4 a1_5).bind fun bt399 => ((height_Order.f kj2 t396 t397 t398 bt399.1 bt399.2.1 bt399.2.2).bind fun t402 => ((thalweglaw02_awake.f kj2).bind fun t403 => (if t403 = true then (if t394 = 0 then (if (t388 == a0_0 && (t389 == a0_1 && (t390 == a0_2 && (t391 == a0_3 && (t392 == a0_4 && (t393 == a0_5)))))) = true then (if t402 = 0 then (some true) else ((height_Less.f kj2 a0_0 a0_1 a0_2 a0_3 a0_4 a0_5 a1_0 a1_1 a1_2 a1_3 a1_4 a1_5).bind fun t404 => (some (t404 == (decide (t402 < 0)))))) else (none)) else (none)) else (none))))) = some r := H
        have A37 := Aside0.mk A370
        clear A370
        replace H := Option.bind_eq_some_iff.mp H
        obtain ⟨⟨t399, t400, t401⟩, A380, H⟩ := H
        replace H : ((height_Order.f kj2 t396 t397 t398 t399 t400 t401).bind fun t402 => ((thalweglaw02_awake.f kj2).bind fun t403 => (if t403 = true then (if t394 = 0 then (if (t388 == a0_0 && (t389 == a0_1 && (t390 == a0_2 && (t391 == a0_3 && (t392 == a0_4 && (t393 == a0_5)))))) = true then (if t402 = 0 then (some true) else ((height_Less.f kj2 a0_0 a0_1 a0_2 a0_3 a0_4 a0_5 a1_0 a1_1 a1_2 a1_3 a1_4 a1_5).bind fun t404 => (some (t404 == (decide (t402 < 0)))))) else (none)) else (none)) else (none)))) = some r := H
        have A38 := Aside0.mk A380
        clear A380
        replace H := Option.bind_eq_some_iff.mp H
        obtain ⟨t402, A390, H⟩ := H
        replace H : ((thalweglaw02_awake.f kj2).bind fun t403 => (if t403 = true then (if t394 = 0 then (if (t388 == a0_0 && (t389 == a0_1 && (t390 == a0_2 && (t391 == a0_3 && (t392 == a0_4 && (t393 == a0_5)))))) = true then (if t402 = 0 then (some true) else ((height_Less.f kj2 a0_0 a0_1 a0_2 a0_3 a0_4 a0_5 a1_0 a1_1 a1_2 a1_3 a1_4 a1_5).bind fun t404 => (some (t404 == (decide (t402 < 0)))))) else (none)) else (none)) else (none))) = some r := H
        have A39 := Aside0.mk A390
        clear A390
        replace H := Option.bind_eq_some_iff.mp H
        obtain ⟨t403, A400, H⟩ := H
        replace H : (if t403 = true then (if t394 = 0 then (if (t388 == a0_0 && (t389 == a0_1 && (t390 == a0_2 && (t391 == a0_3 && (t392 == a0_4 && (t393 == a0_5)))))) = true then (if t402 = 0 then (some true) else ((height_Less.f kj2 a0_0 a0_1 a0_2 a0_3 a0_4 a0_5 a1_0 a1_1 a1_2 a1_3 a1_4 a1_5).bind fun t404 => (some (t404 == (decide (t402 < 0)))))) else (none)) else (none)) else (none)) = some r := H
        have A40 := Aside0.mk A400
        clear A400
        by_cases c41 : t403 = true
        · subst c41
          have H1 : (if t394 = 0 then (if (t388 == a0_0 && (t389 == a0_1 && (t390 == a0_2 && (t391 == a0_3 && (t392 == a0_4 && (t393 == a0_5)))))) = true then (if t402 = 0 then (some true) else ((height_Less.f kj2 a0_0 a0_1 a0_2 a0_3 a0_4 a0_5 a1_0 a1_1 a1_2 a1_3 a1_4 a1_5).bind fun t404 => (some (t404 == (decide (t402 < 0)))))) else (none)) else (none)) = some r := by rw [if_pos rfl] at H; exact H
          clear H
          have H := H1
          clear H1
          by_cases c42 : t394 = 0
          rotate_left
          · rw [if_neg c42] at H
            exact absurd H (by simp)
          rw [if_pos c42] at H
          have c42b0 : (t394 == 0) = true := beq_iff_eq.mpr c42
          have c42b1 : (t394 != 0) = false := bne_eq_false_iff_eq.mpr c42
          clear c42
          by_cases c43 : (t388 == a0_0 && (t389 == a0_1 && (t390 == a0_2 && (t391 == a0_3 && (t392 == a0_4 && (t393 == a0_5)))))) = true
          rotate_left
          · rw [if_neg c43] at H
            exact absurd H (by simp)
          rw [if_pos c43] at H
          have c43b0 : (t388 == a0_0 && (t389 == a0_1 && (t390 == a0_2 && (t391 == a0_3 && (t392 == a0_4 && (t393 == a0_5)))))) = true := c43
          (try (have c43b1 : decide (t388 = a0_0 && (t389 == a0_1 && (t390 == a0_2 && (t391 == a0_3 && (t392 == a0_4 && (t393 == a0_5)))))) = true := by simpa using c43))
          (try (have c43b2 : (t388 == a0_0 && (t389 == a0_1 && (t390 == a0_2 && (t391 == a0_3 && (t392 == a0_4 && (t393 == a0_5)))))) = true := by simpa using c43))
          clear c43
          by_cases c44 : t402 = 0
          · rw [if_pos c44] at H
            have c44b0 : (t402 == 0) = true := beq_iff_eq.mpr c44
            have c44b1 : (t402 != 0) = false := bne_eq_false_iff_eq.mpr c44
            clear c44
            obtain rfl := Option.some.inj H
            try go_wp2
            have n0_ := Aside0.mk (blk_drew BK380.out)
            have n1_ := Aside0.mk (blk_drew BK381.out)
            have n2_ := Aside0.mk (below_drew1 HB.out)
            clear BK380
            clear BK381
            clear HB
            have BK380 := n0_
            have BK381 := n1_
            have HB := n2_
            clear n0_ n1_ n2_
            refine start_ (n := 13) (S := fun w' => w'.cell? ⟨gb380, 0, none⟩ = some (.bool a0_0) ∧ w'.cell? ⟨gb380, 1, none⟩ = some (.int .i64 a0_1) ∧ w'.cell? ⟨gb380, 2, none⟩ = some (.int .i64 a0_2) ∧ w'.cell? ⟨gb380, 3, none⟩ = some (.int .i64 a0_3) ∧ w'.cell? ⟨gb380, 4, none⟩ = some (.int .i64 a0_4) ∧ w'.cell? ⟨gb380, 5, none⟩ = some (.int .i64 a0_5)) (ds := []) #[false, false, false, false, false, false, false, false, false, false, false, false, false] (by kernel_rfl) rfl rfl ⟨(blk_cell BK380.out 0).trans rfl, (blk_cell BK380.out 1).trans rfl, (blk_cell BK380.out 2).trans rfl, (blk_cell BK380.out 3).trans rfl, (blk_cell BK380.out 4).trans rfl, (blk_cell BK380.out 5).trans rfl⟩ (fun hHeld => ?_); refine with_tabW thalweglaw02_HeightLevels.tab3 thalweglaw02_HeightLevels.bits3 (fun HT_ HW_ => ?_)
            generalize wc.drew = w45 at BK380 BK381 HB hHeld ⊢
            refine pure_ (i := 2) (N := some 28) (v := ?_) (a' := ?_) #[false, false, true, false, false, false, false, false, false, false, false, false, false] rfl rfl (any_of HT_.out (by kernel_rfl)) (fun _ _ _ h => h) (Or.inl ⟨by rfl, ?_⟩) ?_ ?_
            rotate_left
            · intro w'
              go_simp
              with_reducible rfl
            rotate_left
            · simp only [Act.put, List.setIfInBounds_toArray, List.set_cons_zero, List.set_cons_succ, i64_w, i32_w]
              rfl
            refine pure_ (i := 4) (N := some 30) (v := ?_) (a' := ?_) #[false, false, true, false, true, false, false, false, false, false, false, false, false] rfl rfl (any_of HT_.out (by kernel_rfl)) (fun _ _ _ h => h) (Or.inl ⟨by rfl, ?_⟩) ?_ ?_
            rotate_left
            · intro w'
              go_simp
              with_reducible rfl
            rotate_left
            · simp only [Act.put, List.setIfInBounds_toArray, List.set_cons_zero, List.set_cons_succ, i64_w, i32_w]
              rfl
            refine take_ (i := 0) (N := some 26) (v := ?_) (a' := ?_) #[true, false, true, false, true, false, false, false, false, false, false, false, false] rfl rfl (take_ofW HT_.out HW_.out (by kernel_rfl)) (fun _ _ _ h => h) (Or.inl ⟨by rfl, ?_⟩) hHeld ?_ ?_
            rotate_left
            · rintro w' ⟨s0, s1, s2, s3, s4, s5⟩
              go_simp
              with_reducible rfl
            rotate_left
            · simp only [Act.put, List.setIfInBounds_toArray, List.set_cons_zero, List.set_cons_succ, i64_w, i32_w]
              rfl
            refine take_ (i := 3) (N := some 29) (v := ?_) (a' := ?_) #[true, false, true, true, true, false, false, false, false, false, false, false, false] rfl rfl (take_ofW HT_.out HW_.out (by kernel_rfl)) (fun _ _ _ h => h) (Or.inl ⟨by rfl, ?_⟩) hHeld ?_ ?_
            rotate_left
            · rintro w' ⟨s0, s1, s2, s3, s4, s5⟩
              go_simp
              with_reducible rfl
            rotate_left
            · simp only [Act.put, List.setIfInBounds_toArray, List.set_cons_zero, List.set_cons_succ, i64_w, i32_w]
              rfl
            refine take_ (i := 5) (N := some 31) (v := ?_) (a' := ?_) #[true, false, true, true, true, true, false, false, false, false, false, false, false] rfl rfl (take_ofW HT_.out HW_.out (by kernel_rfl)) (fun _ _ _ h => h) (Or.inl ⟨by rfl, ?_⟩) hHeld ?_ ?_
            rotate_left
            · rintro w' ⟨s0, s1, s2, s3, s4, s5⟩
              go_simp
              with_reducible rfl
            rotate_left
            · simp only [Act.put, List.setIfInBounds_toArray, List.set_cons_zero, List.set_cons_succ, i64_w, i32_w]
              rfl
            refine join_ (σ := Nat) 2 #[true, true, true, true, true, true, true, true, true, true, true, false, false] (fun s_ => [(27, .agg #[.int .i64 t385, .int .i64 t386, .int .i64 t387]), (32, .tuple #[.agg #[.bool t388, .int .i64 t389, .int .i64 t390, .int .i64 t391, .int .i64 t392, .int .i64 t393], .int .i64 t394]), (5, .pointer (some ⟨s_, 0, none⟩)), (25, .tuple #[.agg #[.bool t388, .int .i64 t389, .int .i64 t390, .int .i64 t391, .int .i64 t392, .int .i64 t393], .int .i64 t394]), (33, .agg #[.bool t388, .int .i64 t389, .int .i64 t390, .int .i64 t391, .int .i64 t392, .int .i64 t393]), (34, .int .i64 t394)]) (fun s_ w' => (w'.cell? ⟨gb380, 0, none⟩ = some (.bool a0_0) ∧ w'.cell? ⟨gb380, 1, none⟩ = some (.int .i64 a0_1) ∧ w'.cell? ⟨gb380, 2, none⟩ = some (.int .i64 a0_2) ∧ w'.cell? ⟨gb380, 3, none⟩ = some (.int .i64 a0_3) ∧ w'.cell? ⟨gb380, 4, none⟩ = some (.int .i64 a0_4) ∧ w'.cell? ⟨gb380, 5, none⟩ = some (.int .i64 a0_5)) ∧ (w'.heap[gb380]? = some (.cells #[.bool a0_0, .int .i64 a0_1, .int .i64 a0_2, .int .i64 a0_3, .int .i64 a0_4, .int .i64 a0_5] 23 (0, 0))) ∧ (w'.heap[gb381]? = some (.cells #[.bool a1_0, .int .i64 a1_1, .int .i64 a1_2, .int .i64 a1_3, .int .i64 a1_4, .int .i64 a1_5] 23 (0, 0))) ∧ (w'.heap[s_]? = some (.cells #[.bool false, .int .i64 0, .int .i64 0, .int .i64 0, .int .i64 0, .int .i64 0] 23 (0, 0))) ∧ (w.heap.size ≤ s_) ∧ (w.heap.size ≤ s_) ∧ (gb380 ≠ s_) ∧ (s_ ≠ gb380) ∧ (gb381 ≠ s_) ∧ (s_ ≠ gb381) ∧ (Below w.heap.size w w')) ?_ ?_
            rotate_left
            · intro hCont
              refine two_ (i := 1) (j := 10) (Ni := some 27) (Nj := some 5) #[true, true, true, true, true, true, false, false, false, false, false, false, false] #[true, false, true, true, true, true, false, false, false, false, true, false, false] rfl rfl rfl rfl (two_of HT_.out (by kernel_rfl)) (by decide) (by decide) (fun K hK => ?_) (fun K hK => ?_)
              · skip
                refine goes_ Try.func16 (by kernel_rfl) rfl #[.agg #[.bool a0_0, .int .i64 a0_1, .int .i64 a0_2, .int .i64 a0_3, .int .i64 a0_4, .int .i64 a0_5]] (by rfl) rfl rfl (by (try simp only [List.map_toArray, List.map_cons, List.map_nil]); first | done | rfl | (simp only [List.length_drop, List.length_take]; rfl)) ?_
                with_reducible refine (height_Level.calls kj2 a0_0 a0_1 a0_2 a0_3 a0_4 a0_5 t385 t386 t387 _ A35.out).mono ?_
                rintro e w46 ⟨rfl, hb⟩
                refine ⟨_, rfl, ?_⟩
                have n0_ := Aside0.mk (blk_below (g := gb380) (o := .cells #[.bool a0_0, .int .i64 a0_1, .int .i64 a0_2, .int .i64 a0_3, .int .i64 a0_4, .int .i64 a0_5] 23 (0, 0)) (by (with_reducible repeat (first | refine blk_drewN ?_ _ | refine blk_drew ?_ | refine blk_alloc ?_ _)); exact BK380.out) hb)
                have n1_ := Aside0.mk (blk_below (g := gb381) (o := .cells #[.bool a1_0, .int .i64 a1_1, .int .i64 a1_2, .int .i64 a1_3, .int .i64 a1_4, .int .i64 a1_5] 23 (0, 0)) (by (with_reducible repeat (first | refine blk_drewN ?_ _ | refine blk_drew ?_ | refine blk_alloc ?_ _)); exact BK381.out) hb)
                have n2_ := Aside0.mk (below_step (by repeat (first | (with_reducible first | exact HB.out | apply below_alloc | apply pw_below_drewN | apply below_drew1 | refine below_set ?_ GE380.out | refine below_set ?_ GE381.out) | exact HB.out)) hb)
                clear BK380
                clear BK381
                clear HB
                have BK380 := n0_
                have BK381 := n1_
                have HB := n2_
                clear n0_ n1_ n2_
                (try clear hb)
                (try clear hb2)
                (try clear hk)
                (try clear hi)
                refine hK.out _ _ ⟨(blk_cell BK380.out 0).trans rfl, (blk_cell BK380.out 1).trans rfl, (blk_cell BK380.out 2).trans rfl, (blk_cell BK380.out 3).trans rfl, (blk_cell BK380.out 4).trans rfl, (blk_cell BK380.out 5).trans rfl⟩ (fun hHeld => ?_)
                clear hK K
                refine norm_ (a' := ?_) ?_ ?_
                rotate_left
                · show Act.put _ (some 27) _ = _
                  simp only [Act.put, List.setIfInBounds_toArray, List.set_cons_zero, List.set_cons_succ, i64_w, i32_w]
                  rfl
                refine two_ (i := 6) (j := 10) (Ni := some 32) (Nj := some 5) #[true, true, true, true, true, true, true, false, false, false, false, false, false] #[true, true, true, true, true, true, false, false, false, false, true, false, false] rfl rfl rfl rfl (two_of HT_.out (by kernel_rfl)) (by decide) (by decide) (fun K hK => ?_) (fun K hK => ?_)
                · skip
                  refine goes_ Try.func8 (by kernel_rfl) rfl #[.agg #[.int .i64 t385, .int .i64 t386, .int .i64 t387], .int .i64 a0_4, .int .i64 a0_5] (by rfl) rfl rfl (by (try simp only [List.map_toArray, List.map_cons, List.map_nil]); first | done | rfl | (simp only [List.length_drop, List.length_take]; rfl)) ?_
                  with_reducible refine (height_At.calls kj2 t385 t386 t387 a0_4 a0_5 t388 t389 t390 t391 t392 t393 t394 _ A36.out).mono ?_
                  rintro e w47 ⟨rfl, hb⟩
                  refine ⟨_, rfl, ?_⟩
                  have n0_ := Aside0.mk (blk_below (g := gb380) (o := .cells #[.bool a0_0, .int .i64 a0_1, .int .i64 a0_2, .int .i64 a0_3, .int .i64 a0_4, .int .i64 a0_5] 23 (0, 0)) (by (with_reducible repeat (first | refine blk_drewN ?_ _ | refine blk_drew ?_ | refine blk_alloc ?_ _)); exact BK380.out) hb)
                  have n1_ := Aside0.mk (blk_below (g := gb381) (o := .cells #[.bool a1_0, .int .i64 a1_1, .int .i64 a1_2, .int .i64 a1_3, .int .i64 a1_4, .int .i64 a1_5] 23 (0, 0)) (by (with_reducible repeat (first | refine blk_drewN ?_ _ | refine blk_drew ?_ | refine blk_alloc ?_ _)); exact BK381.out) hb)
                  have n2_ := Aside0.mk (below_step (by repeat (first | (with_reducible first | exact HB.out | apply below_alloc | apply pw_below_drewN | apply below_drew1 | refine below_set ?_ GE380.out | refine below_set ?_ GE381.out) | exact HB.out)) hb)
                  clear BK380
                  clear BK381
                  clear HB
                  have BK380 := n0_
                  have BK381 := n1_
                  have HB := n2_
                  clear n0_ n1_ n2_
                  (try clear hb)
                  (try clear hb2)
                  (try clear hk)
                  (try clear hi)
                  refine hK.out _ _ ⟨(blk_cell BK380.out 0).trans rfl, (blk_cell BK380.out 1).trans rfl, (blk_cell BK380.out 2).trans rfl, (blk_cell BK380.out 3).trans rfl, (blk_cell BK380.out 4).trans rfl, (blk_cell BK380.out 5).trans rfl⟩ (fun hHeld => ?_)
                  clear hK K
                  refine norm_ (a' := ?_) ?_ ?_
                  rotate_left
                  · show Act.put _ (some 32) _ = _
                    simp only [Act.put, List.setIfInBounds_toArray, List.set_cons_zero, List.set_cons_succ, i64_w, i32_w]
                    rfl
                  refine pure_ (i := 7) (N := some 25) (v := ?_) (a' := ?_) #[true, true, true, true, true, true, true, true, false, false, false, false, false] rfl rfl (any_of HT_.out (by kernel_rfl)) (fun _ _ _ h => h) (Or.inl ⟨by rfl, ?_⟩) ?_ ?_
                  rotate_left
                  · intro w'
                    go_simp
                    with_reducible rfl
                  rotate_left
                  · simp only [Act.put, List.setIfInBounds_toArray, List.set_cons_zero, List.set_cons_succ, i64_w, i32_w]
                    rfl
                  refine pure_ (i := 8) (N := some 33) (v := ?_) (a' := ?_) #[true, true, true, true, true, true, true, true, true, false, false, false, false] rfl rfl (any_of HT_.out (by kernel_rfl)) (fun _ _ _ h => h) (Or.inl ⟨by rfl, ?_⟩) ?_ ?_
                  rotate_left
                  · intro w'
                    go_simp
                    with_reducible rfl
                  rotate_left
                  · simp only [Act.put, List.setIfInBounds_toArray, List.set_cons_zero, List.set_cons_succ, i64_w, i32_w]
                    rfl
                  refine pure_ (i := 9) (N := some 34) (v := ?_) (a' := ?_) #[true, true, true, true, true, true, true, true, true, true, false, false, false] rfl rfl (any_of HT_.out (by kernel_rfl)) (fun _ _ _ h => h) (Or.inl ⟨by rfl, ?_⟩) ?_ ?_
                  rotate_left
                  · intro w'
                    go_simp
                    with_reducible rfl
                  rotate_left
                  · simp only [Act.put, List.setIfInBounds_toArray, List.set_cons_zero, List.set_cons_succ, i64_w, i32_w]
                    rfl
                  refine one_ (i := 10) (N := some 5) #[true, true, true, true, true, true, true, true, true, true, true, false, false] rfl rfl (one_of HT_.out (by kernel_rfl)) (by decide) (fun K hK => ?_)
                  refine box_step ?hg (N := 5) ?hd (cs := #[.bool false, .int .i64 0, .int .i64 0, .int .i64 0, .int .i64 0, .int .i64 0]) (t := 23) ?hr ?_; (case hd => rfl); (case hg => rfl); (case hr => first | (go_simp; done) | (go_simp; rfl))
                  intro gb395 hg w48 hbox hb
                  have n0_ := Aside0.mk (blk_below (g := gb380) (o := .cells #[.bool a0_0, .int .i64 a0_1, .int .i64 a0_2, .int .i64 a0_3, .int .i64 a0_4, .int .i64 a0_5] 23 (0, 0)) (by (with_reducible repeat (first | refine blk_drewN ?_ _ | refine blk_drew ?_ | refine blk_alloc ?_ _)); exact BK380.out) hb)
                  have n1_ := Aside0.mk (blk_below (g := gb381) (o := .cells #[.bool a1_0, .int .i64 a1_1, .int .i64 a1_2, .int .i64 a1_3, .int .i64 a1_4, .int .i64 a1_5] 23 (0, 0)) (by (with_reducible repeat (first | refine blk_drewN ?_ _ | refine blk_drew ?_ | refine blk_alloc ?_ _)); exact BK381.out) hb)
                  have n2_ := Aside0.mk (below_step (by repeat (first | (with_reducible first | exact HB.out | apply below_alloc | apply pw_below_drewN | apply below_drew1 | refine below_set ?_ GE380.out | refine below_set ?_ GE381.out) | exact HB.out)) hb)
                  have n3_ := Aside0.mk (hbox)
                  have n4_ := Aside0.mk ((by rw [hg]; exact (below_size (by repeat (first | (with_reducible first | exact HB.out | apply below_alloc | apply pw_below_drewN | apply below_drew1 | refine below_set ?_ GE380.out | refine below_set ?_ GE381.out) | exact HB.out))) : w.heap.size ≤ gb395))
                  have n5_ := Aside0.mk ((by rw [hg]; exact (below_size (by repeat (first | (with_reducible first | exact HB.out | apply below_alloc | apply pw_below_drewN | apply below_drew1 | refine below_set ?_ GE380.out | refine below_set ?_ GE381.out) | exact HB.out))) : w.heap.size ≤ gb395))
                  have n6_ := Aside0.mk ((by rw [hg]; exact Nat.ne_of_lt (blk_lt (g := gb380) (o := .cells #[.bool a0_0, .int .i64 a0_1, .int .i64 a0_2, .int .i64 a0_3, .int .i64 a0_4, .int .i64 a0_5] 23 (0, 0)) (by (with_reducible repeat (first | refine blk_drewN ?_ _ | refine blk_drew ?_ | refine blk_alloc ?_ _)); exact BK380.out)) : gb380 ≠ gb395))
                  have n7_ := Aside0.mk ((by rw [hg]; exact Nat.ne_of_gt (blk_lt (g := gb380) (o := .cells #[.bool a0_0, .int .i64 a0_1, .int .i64 a0_2, .int .i64 a0_3, .int .i64 a0_4, .int .i64 a0_5] 23 (0, 0)) (by (with_reducible repeat (first | refine blk_drewN ?_ _ | refine blk_drew ?_ | refine blk_alloc ?_ _)); exact BK380.out)) : gb395 ≠ gb380))
                  have n8_ := Aside0.mk ((by rw [hg]; exact Nat.ne_of_lt (blk_lt (g := gb381) (o := .cells #[.bool a1_0, .int .i64 a1_1, .int .i64 a1_2, .int .i64 a1_3, .int .i64 a1_4, .int .i64 a1_5] 23 (0, 0)) (by (with_reducible repeat (first | refine blk_drewN ?_ _ | refine blk_drew ?_ | refine blk_alloc ?_ _)); exact BK381.out)) : gb381 ≠ gb395))
                  have n9_ := Aside0.mk ((by rw [hg]; exact Nat.ne_of_gt (blk_lt (g := gb381) (o := .cells #[.bool a1_0, .int .i64 a1_1, .int .i64 a1_2, .int .i64 a1_3, .int .i64 a1_4, .int .i64 a1_5] 23 (0, 0)) (by (with_reducible repeat (first | refine blk_drewN ?_ _ | refine blk_drew ?_ | refine blk_alloc ?_ _)); exact BK381.out)) : gb395 ≠ gb381))
                  clear BK380
                  clear BK381
                  clear HB
                  have BK380 := n0_
                  have BK381 := n1_
                  have HB := n2_
                  have BK395 := n3_
                  have GW395 := n4_
                  have GE395 := n5_
                  have NB380_395 := n6_
                  have NB395_380 := n7_
                  have NB381_395 := n8_
                  have NB395_381 := n9_
                  clear n0_ n1_ n2_ n3_ n4_ n5_ n6_ n7_ n8_ n9_
                  clear hb hbox hg
                  refine hK.out _ _ ⟨(blk_cell BK380.out 0).trans rfl, (blk_cell BK380.out 1).trans rfl, (blk_cell BK380.out 2).trans rfl, (blk_cell BK380.out 3).trans rfl, (blk_cell BK380.out 4).trans rfl, (blk_cell BK380.out 5).trans rfl⟩ (fun hHeld => ?_)
                  clear hK K
                  refine norm_ (a' := ?_) ?_ ?_
                  rotate_left
                  · show Act.put _ (some 5) _ = _
                    simp only [Act.put, List.setIfInBounds_toArray, List.set_cons_zero, List.set_cons_succ, i64_w, i32_w]
                    rfl
                  exact norm_ (by simp only [putAll, Act.put, List.setIfInBounds_toArray, List.set_cons_zero, List.set_cons_succ]) (hCont (gb395) _ ⟨hHeld, (by (with_reducible repeat (first | refine blk_drewN ?_ _ | refine blk_drew ?_ | refine blk_alloc ?_ _)); exact BK380.out), (by (with_reducible repeat (first | refine blk_drewN ?_ _ | refine blk_drew ?_ | refine blk_alloc ?_ _)); exact BK381.out), (by (with_reducible repeat (first | refine blk_drewN ?_ _ | refine blk_drew ?_ | refine blk_alloc ?_ _)); exact BK395.out), GW395.out, GE395.out, NB380_395.out, NB395_380.out, NB381_395.out, NB395_381.out, (by repeat (first | (with_reducible first | exact HB.out | apply below_alloc | apply pw_below_drewN | apply below_drew1 | refine below_set ?_ GE380.out | refine below_set ?_ GE381.out | refine below_set ?_ GE395.out) | exact HB.out))⟩)
                · skip
                  refine box_step ?hg (N := 5) ?hd (cs := #[.bool false, .int .i64 0, .int .i64 0, .int .i64 0, .int .i64 0, .int .i64 0]) (t := 23) ?hr ?_; (case hd => rfl); (case hg => rfl); (case hr => first | (go_simp; done) | (go_simp; rfl))
                  intro gb395 hg w47 hbox hb
                  have n0_ := Aside0.mk (blk_below (g := gb380) (o := .cells #[.bool a0_0, .int .i64 a0_1, .int .i64 a0_2, .int .i64 a0_3, .int .i64 a0_4, .int .i64 a0_5] 23 (0, 0)) (by (with_reducible repeat (first | refine blk_drewN ?_ _ | refine blk_drew ?_ | refine blk_alloc ?_ _)); exact BK380.out) hb)
                  have n1_ := Aside0.mk (blk_below (g := gb381) (o := .cells #[.bool a1_0, .int .i64 a1_1, .int .i64 a1_2, .int .i64 a1_3, .int .i64 a1_4, .int .i64 a1_5] 23 (0, 0)) (by (with_reducible repeat (first | refine blk_drewN ?_ _ | refine blk_drew ?_ | refine blk_alloc ?_ _)); exact BK381.out) hb)
                  have n2_ := Aside0.mk (below_step (by repeat (first | (with_reducible first | exact HB.out | apply below_alloc | apply pw_below_drewN | apply below_drew1 | refine below_set ?_ GE380.out | refine below_set ?_ GE381.out) | exact HB.out)) hb)
                  have n3_ := Aside0.mk (hbox)
                  have n4_ := Aside0.mk ((by rw [hg]; exact (below_size (by repeat (first | (with_reducible first | exact HB.out | apply below_alloc | apply pw_below_drewN | apply below_drew1 | refine below_set ?_ GE380.out | refine below_set ?_ GE381.out) | exact HB.out))) : w.heap.size ≤ gb395))
                  have n5_ := Aside0.mk ((by rw [hg]; exact (below_size (by repeat (first | (with_reducible first | exact HB.out | apply below_alloc | apply pw_below_drewN | apply below_drew1 | refine below_set ?_ GE380.out | refine below_set ?_ GE381.out) | exact HB.out))) : w.heap.size ≤ gb395))
                  have n6_ := Aside0.mk ((by rw [hg]; exact Nat.ne_of_lt (blk_lt (g := gb380) (o := .cells #[.bool a0_0, .int .i64 a0_1, .int .i64 a0_2, .int .i64 a0_3, .int .i64 a0_4, .int .i64 a0_5] 23 (0, 0)) (by (with_reducible repeat (first | refine blk_drewN ?_ _ | refine blk_drew ?_ | refine blk_alloc ?_ _)); exact BK380.out)) : gb380 ≠ gb395))
                  have n7_ := Aside0.mk ((by rw [hg]; exact Nat.ne_of_gt (blk_lt (g := gb380) (o := .cells #[.bool a0_0, .int .i64 a0_1, .int .i64 a0_2, .int .i64 a0_3, .int .i64 a0_4, .int .i64 a0_5] 23 (0, 0)) (by (with_reducible repeat (first | refine blk_drewN ?_ _ | refine blk_drew ?_ | refine blk_alloc ?_ _)); exact BK380.out)) : gb395 ≠ gb380))
                  have n8_ := Aside0.mk ((by rw [hg]; exact Nat.ne_of_lt (blk_lt (g := gb381) (o := .cells #[.bool a1_0, .int .i64 a1_1, .int .i64 a1_2, .int .i64 a1_3, .int .i64 a1_4, .int .i64 a1_5] 23 (0, 0)) (by (with_reducible repeat (first | refine blk_drewN ?_ _ | refine blk_drew ?_ | refine blk_alloc ?_ _)); exact BK381.out)) : gb381 ≠ gb395))
                  have n9_ := Aside0.mk ((by rw [hg]; exact Nat.ne_of_gt (blk_lt (g := gb381) (o := .cells #[.bool a1_0, .int .i64 a1_1, .int .i64 a1_2, .int .i64 a1_3, .int .i64 a1_4, .int .i64 a1_5] 23 (0, 0)) (by (with_reducible repeat (first | refine blk_drewN ?_ _ | refine blk_drew ?_ | refine blk_alloc ?_ _)); exact BK381.out)) : gb395 ≠ gb381))
                  clear BK380
                  clear BK381
                  clear HB
                  have BK380 := n0_
                  have BK381 := n1_
                  have HB := n2_
                  have BK395 := n3_
                  have GW395 := n4_
                  have GE395 := n5_
                  have NB380_395 := n6_
                  have NB395_380 := n7_
                  have NB381_395 := n8_
                  have NB395_381 := n9_
                  clear n0_ n1_ n2_ n3_ n4_ n5_ n6_ n7_ n8_ n9_
                  clear hb hbox hg
                  refine hK.out _ _ ⟨(blk_cell BK380.out 0).trans rfl, (blk_cell BK380.out 1).trans rfl, (blk_cell BK380.out 2).trans rfl, (blk_cell BK380.out 3).trans rfl, (blk_cell BK380.out 4).trans rfl, (blk_cell BK380.out 5).trans rfl⟩ (fun hHeld => ?_)
                  clear hK K
                  refine norm_ (a' := ?_) ?_ ?_
                  rotate_left
                  · show Act.put _ (some 5) _ = _
                    simp only [Act.put, List.setIfInBounds_toArray, List.set_cons_zero, List.set_cons_succ, i64_w, i32_w]
                    rfl
                  refine one_ (i := 6) (N := some 32) #[true, true, true, true, true, true, true, false, false, false, true, false, false] rfl rfl (one_of HT_.out (by kernel_rfl)) (by decide) (fun K hK => ?_)
                  refine goes_ Try.func8 (by kernel_rfl) rfl #[.agg #[.int .i64 t385, .int .i64 t386, .int .i64 t387], .int .i64 a0_4, .int .i64 a0_5] (by rfl) rfl rfl (by (try simp only [List.map_toArray, List.map_cons, List.map_nil]); first | done | rfl | (simp only [List.length_drop, List.length_take]; rfl)) ?_
                  with_reducible refine (height_At.calls kj2 t385 t386 t387 a0_4 a0_5 t388 t389 t390 t391 t392 t393 t394 _ A36.out).mono ?_
                  rintro e w48 ⟨rfl, hb⟩
                  refine ⟨_, rfl, ?_⟩
                  have n0_ := Aside0.mk (blk_below (g := gb380) (o := .cells #[.bool a0_0, .int .i64 a0_1, .int .i64 a0_2, .int .i64 a0_3, .int .i64 a0_4, .int .i64 a0_5] 23 (0, 0)) (by (with_reducible repeat (first | refine blk_drewN ?_ _ | refine blk_drew ?_ | refine blk_alloc ?_ _)); exact BK380.out) hb)
                  have n1_ := Aside0.mk (blk_below (g := gb381) (o := .cells #[.bool a1_0, .int .i64 a1_1, .int .i64 a1_2, .int .i64 a1_3, .int .i64 a1_4, .int .i64 a1_5] 23 (0, 0)) (by (with_reducible repeat (first | refine blk_drewN ?_ _ | refine blk_drew ?_ | refine blk_alloc ?_ _)); exact BK381.out) hb)
                  have n2_ := Aside0.mk (blk_below (g := gb395) (o := .cells #[.bool false, .int .i64 0, .int .i64 0, .int .i64 0, .int .i64 0, .int .i64 0] 23 (0, 0)) (by (with_reducible repeat (first | refine blk_drewN ?_ _ | refine blk_drew ?_ | refine blk_alloc ?_ _)); exact BK395.out) hb)
                  have n3_ := Aside0.mk (below_step (by repeat (first | (with_reducible first | exact HB.out | apply below_alloc | apply pw_below_drewN | apply below_drew1 | refine below_set ?_ GE380.out | refine below_set ?_ GE381.out | refine below_set ?_ GE395.out) | exact HB.out)) hb)
                  clear BK380
                  clear BK381
                  clear BK395
                  clear HB
                  have BK380 := n0_
                  have BK381 := n1_
                  have BK395 := n2_
                  have HB := n3_
                  clear n0_ n1_ n2_ n3_
                  (try clear hb)
                  (try clear hb2)
                  (try clear hk)
                  (try clear hi)
                  refine hK.out _ _ ⟨(blk_cell BK380.out 0).trans rfl, (blk_cell BK380.out 1).trans rfl, (blk_cell BK380.out 2).trans rfl, (blk_cell BK380.out 3).trans rfl, (blk_cell BK380.out 4).trans rfl, (blk_cell BK380.out 5).trans rfl⟩ (fun hHeld => ?_)
                  clear hK K
                  refine norm_ (a' := ?_) ?_ ?_
                  rotate_left
                  · show Act.put _ (some 32) _ = _
                    simp only [Act.put, List.setIfInBounds_toArray, List.set_cons_zero, List.set_cons_succ, i64_w, i32_w]
                    rfl
                  refine pure_ (i := 7) (N := some 25) (v := ?_) (a' := ?_) #[true, true, true, true, true, true, true, true, false, false, true, false, false] rfl rfl (any_of HT_.out (by kernel_rfl)) (fun _ _ _ h => h) (Or.inl ⟨by rfl, ?_⟩) ?_ ?_
                  rotate_left
                  · intro w'
                    go_simp
                    with_reducible rfl
                  rotate_left
                  · simp only [Act.put, List.setIfInBounds_toArray, List.set_cons_zero, List.set_cons_succ, i64_w, i32_w]
                    rfl
                  refine pure_ (i := 8) (N := some 33) (v := ?_) (a' := ?_) #[true, true, true, true, true, true, true, true, true, false, true, false, false] rfl rfl (any_of HT_.out (by kernel_rfl)) (fun _ _ _ h => h) (Or.inl ⟨by rfl, ?_⟩) ?_ ?_
                  rotate_left
                  · intro w'
                    go_simp
                    with_reducible rfl
                  rotate_left
                  · simp only [Act.put, List.setIfInBounds_toArray, List.set_cons_zero, List.set_cons_succ, i64_w, i32_w]
                    rfl
                  refine pure_ (i := 9) (N := some 34) (v := ?_) (a' := ?_) #[true, true, true, true, true, true, true, true, true, true, true, false, false] rfl rfl (any_of HT_.out (by kernel_rfl)) (fun _ _ _ h => h) (Or.inl ⟨by rfl, ?_⟩) ?_ ?_
                  rotate_left
                  · intro w'
                    go_simp
                    with_reducible rfl
                  rotate_left
                  · simp only [Act.put, List.setIfInBounds_toArray, List.set_cons_zero, List.set_cons_succ, i64_w, i32_w]
                    rfl
                  exact norm_ (by simp only [putAll, Act.put, List.setIfInBounds_toArray, List.set_cons_zero, List.set_cons_succ]) (hCont (gb395) _ ⟨hHeld, (by (with_reducible repeat (first | refine blk_drewN ?_ _ | refine blk_drew ?_ | refine blk_alloc ?_ _)); exact BK380.out), (by (with_reducible repeat (first | refine blk_drewN ?_ _ | refine blk_drew ?_ | refine blk_alloc ?_ _)); exact BK381.out), (by (with_reducible repeat (first | refine blk_drewN ?_ _ | refine blk_drew ?_ | refine blk_alloc ?_ _)); exact BK395.out), GW395.out, GE395.out, NB380_395.out, NB395_380.out, NB381_395.out, NB395_381.out, (by repeat (first | (with_reducible first | exact HB.out | apply below_alloc | apply pw_below_drewN | apply below_drew1 | refine below_set ?_ GE380.out | refine below_set ?_ GE381.out | refine below_set ?_ GE395.out) | exact HB.out))⟩)
              · skip
                refine box_step ?hg (N := 5) ?hd (cs := #[.bool false, .int .i64 0, .int .i64 0, .int .i64 0, .int .i64 0, .int .i64 0]) (t := 23) ?hr ?_; (case hd => rfl); (case hg => rfl); (case hr => first | (go_simp; done) | (go_simp; rfl))
                intro gb395 hg w46 hbox hb
                have n0_ := Aside0.mk (blk_below (g := gb380) (o := .cells #[.bool a0_0, .int .i64 a0_1, .int .i64 a0_2, .int .i64 a0_3, .int .i64 a0_4, .int .i64 a0_5] 23 (0, 0)) (by (with_reducible repeat (first | refine blk_drewN ?_ _ | refine blk_drew ?_ | refine blk_alloc ?_ _)); exact BK380.out) hb)
                have n1_ := Aside0.mk (blk_below (g := gb381) (o := .cells #[.bool a1_0, .int .i64 a1_1, .int .i64 a1_2, .int .i64 a1_3, .int .i64 a1_4, .int .i64 a1_5] 23 (0, 0)) (by (with_reducible repeat (first | refine blk_drewN ?_ _ | refine blk_drew ?_ | refine blk_alloc ?_ _)); exact BK381.out) hb)
                have n2_ := Aside0.mk (below_step (by repeat (first | (with_reducible first | exact HB.out | apply below_alloc | apply pw_below_drewN | apply below_drew1 | refine below_set ?_ GE380.out | refine below_set ?_ GE381.out) | exact HB.out)) hb)
                have n3_ := Aside0.mk (hbox)
                have n4_ := Aside0.mk ((by rw [hg]; exact (below_size (by repeat (first | (with_reducible first | exact HB.out | apply below_alloc | apply pw_below_drewN | apply below_drew1 | refine below_set ?_ GE380.out | refine below_set ?_ GE381.out) | exact HB.out))) : w.heap.size ≤ gb395))
                have n5_ := Aside0.mk ((by rw [hg]; exact (below_size (by repeat (first | (with_reducible first | exact HB.out | apply below_alloc | apply pw_below_drewN | apply below_drew1 | refine below_set ?_ GE380.out | refine below_set ?_ GE381.out) | exact HB.out))) : w.heap.size ≤ gb395))
                have n6_ := Aside0.mk ((by rw [hg]; exact Nat.ne_of_lt (blk_lt (g := gb380) (o := .cells #[.bool a0_0, .int .i64 a0_1, .int .i64 a0_2, .int .i64 a0_3, .int .i64 a0_4, .int .i64 a0_5] 23 (0, 0)) (by (with_reducible repeat (first | refine blk_drewN ?_ _ | refine blk_drew ?_ | refine blk_alloc ?_ _)); exact BK380.out)) : gb380 ≠ gb395))
                have n7_ := Aside0.mk ((by rw [hg]; exact Nat.ne_of_gt (blk_lt (g := gb380) (o := .cells #[.bool a0_0, .int .i64 a0_1, .int .i64 a0_2, .int .i64 a0_3, .int .i64 a0_4, .int .i64 a0_5] 23 (0, 0)) (by (with_reducible repeat (first | refine blk_drewN ?_ _ | refine blk_drew ?_ | refine blk_alloc ?_ _)); exact BK380.out)) : gb395 ≠ gb380))
                have n8_ := Aside0.mk ((by rw [hg]; exact Nat.ne_of_lt (blk_lt (g := gb381) (o := .cells #[.bool a1_0, .int .i64 a1_1, .int .i64 a1_2, .int .i64 a1_3, .int .i64 a1_4, .int .i64 a1_5] 23 (0, 0)) (by (with_reducible repeat (first | refine blk_drewN ?_ _ | refine blk_drew ?_ | refine blk_alloc ?_ _)); exact BK381.out)) : gb381 ≠ gb395))
                have n9_ := Aside0.mk ((by rw [hg]; exact Nat.ne_of_gt (blk_lt (g := gb381) (o := .cells #[.bool a1_0, .int .i64 a1_1, .int .i64 a1_2, .int .i64 a1_3, .int .i64 a1_4, .int .i64 a1_5] 23 (0, 0)) (by (with_reducible repeat (first | refine blk_drewN ?_ _ | refine blk_drew ?_ | refine blk_alloc ?_ _)); exact BK381.out)) : gb395 ≠ gb381))
                clear BK380
                clear BK381
                clear HB
                have BK380 := n0_
                have BK381 := n1_
                have HB := n2_
                have BK395 := n3_
                have GW395 := n4_
                have GE395 := n5_
                have NB380_395 := n6_
                have NB395_380 := n7_
                have NB381_395 := n8_
                have NB395_381 := n9_
                clear n0_ n1_ n2_ n3_ n4_ n5_ n6_ n7_ n8_ n9_
                clear hb hbox hg
                refine hK.out _ _ ⟨(blk_cell BK380.out 0).trans rfl, (blk_cell BK380.out 1).trans rfl, (blk_cell BK380.out 2).trans rfl, (blk_cell BK380.out 3).trans rfl, (blk_cell BK380.out 4).trans rfl, (blk_cell BK380.out 5).trans rfl⟩ (fun hHeld => ?_)
                clear hK K
                refine norm_ (a' := ?_) ?_ ?_
                rotate_left
                · show Act.put _ (some 5) _ = _
                  simp only [Act.put, List.setIfInBounds_toArray, List.set_cons_zero, List.set_cons_succ, i64_w, i32_w]
                  rfl
                refine one_ (i := 1) (N := some 27) #[true, true, true, true, true, true, false, false, false, false, true, false, false] rfl rfl (one_of HT_.out (by kernel_rfl)) (by decide) (fun K hK => ?_)
                refine goes_ Try.func16 (by kernel_rfl) rfl #[.agg #[.bool a0_0, .int .i64 a0_1, .int .i64 a0_2, .int .i64 a0_3, .int .i64 a0_4, .int .i64 a0_5]] (by rfl) rfl rfl (by (try simp only [List.map_toArray, List.map_cons, List.map_nil]); first | done | rfl | (simp only [List.length_drop, List.length_take]; rfl)) ?_
                with_reducible refine (height_Level.calls kj2 a0_0 a0_1 a0_2 a0_3 a0_4 a0_5 t385 t386 t387 _ A35.out).mono ?_
                rintro e w47 ⟨rfl, hb⟩
                refine ⟨_, rfl, ?_⟩
                have n0_ := Aside0.mk (blk_below (g := gb380) (o := .cells #[.bool a0_0, .int .i64 a0_1, .int .i64 a0_2, .int .i64 a0_3, .int .i64 a0_4, .int .i64 a0_5] 23 (0, 0)) (by (with_reducible repeat (first | refine blk_drewN ?_ _ | refine blk_drew ?_ | refine blk_alloc ?_ _)); exact BK380.out) hb)
                have n1_ := Aside0.mk (blk_below (g := gb381) (o := .cells #[.bool a1_0, .int .i64 a1_1, .int .i64 a1_2, .int .i64 a1_3, .int .i64 a1_4, .int .i64 a1_5] 23 (0, 0)) (by (with_reducible repeat (first | refine blk_drewN ?_ _ | refine blk_drew ?_ | refine blk_alloc ?_ _)); exact BK381.out) hb)
                have n2_ := Aside0.mk (blk_below (g := gb395) (o := .cells #[.bool false, .int .i64 0, .int .i64 0, .int .i64 0, .int .i64 0, .int .i64 0] 23 (0, 0)) (by (with_reducible repeat (first | refine blk_drewN ?_ _ | refine blk_drew ?_ | refine blk_alloc ?_ _)); exact BK395.out) hb)
                have n3_ := Aside0.mk (below_step (by repeat (first | (with_reducible first | exact HB.out | apply below_alloc | apply pw_below_drewN | apply below_drew1 | refine below_set ?_ GE380.out | refine below_set ?_ GE381.out | refine below_set ?_ GE395.out) | exact HB.out)) hb)
                clear BK380
                clear BK381
                clear BK395
                clear HB
                have BK380 := n0_
                have BK381 := n1_
                have BK395 := n2_
                have HB := n3_
                clear n0_ n1_ n2_ n3_
                (try clear hb)
                (try clear hb2)
                (try clear hk)
                (try clear hi)
                refine hK.out _ _ ⟨(blk_cell BK380.out 0).trans rfl, (blk_cell BK380.out 1).trans rfl, (blk_cell BK380.out 2).trans rfl, (blk_cell BK380.out 3).trans rfl, (blk_cell BK380.out 4).trans rfl, (blk_cell BK380.out 5).trans rfl⟩ (fun hHeld => ?_)
                clear hK K
                refine norm_ (a' := ?_) ?_ ?_
                rotate_left
                · show Act.put _ (some 27) _ = _
                  simp only [Act.put, List.setIfInBounds_toArray, List.set_cons_zero, List.set_cons_succ, i64_w, i32_w]
                  rfl
                refine one_ (i := 6) (N := some 32) #[true, true, true, true, true, true, true, false, false, false, true, false, false] rfl rfl (one_of HT_.out (by kernel_rfl)) (by decide) (fun K hK => ?_)
                refine goes_ Try.func8 (by kernel_rfl) rfl #[.agg #[.int .i64 t385, .int .i64 t386, .int .i64 t387], .int .i64 a0_4, .int .i64 a0_5] (by rfl) rfl rfl (by (try simp only [List.map_toArray, List.map_cons, List.map_nil]); first | done | rfl | (simp only [List.length_drop, List.length_take]; rfl)) ?_
                with_reducible refine (height_At.calls kj2 t385 t386 t387 a0_4 a0_5 t388 t389 t390 t391 t392 t393 t394 _ A36.out).mono ?_
                rintro e w48 ⟨rfl, hb⟩
                refine ⟨_, rfl, ?_⟩
                have n0_ := Aside0.mk (blk_below (g := gb380) (o := .cells #[.bool a0_0, .int .i64 a0_1, .int .i64 a0_2, .int .i64 a0_3, .int .i64 a0_4, .int .i64 a0_5] 23 (0, 0)) (by (with_reducible repeat (first | refine blk_drewN ?_ _ | refine blk_drew ?_ | refine blk_alloc ?_ _)); exact BK380.out) hb)
                have n1_ := Aside0.mk (blk_below (g := gb381) (o := .cells #[.bool a1_0, .int .i64 a1_1, .int .i64 a1_2, .int .i64 a1_3, .int .i64 a1_4, .int .i64 a1_5] 23 (0, 0)) (by (with_reducible repeat (first | refine blk_drewN ?_ _ | refine blk_drew ?_ | refine blk_alloc ?_ _)); exact BK381.out) hb)
                have n2_ := Aside0.mk (blk_below (g := gb395) (o := .cells #[.bool false, .int .i64 0, .int .i64 0, .int .i64 0, .int .i64 0, .int .i64 0] 23 (0, 0)) (by (with_reducible repeat (first | refine blk_drewN ?_ _ | refine blk_drew ?_ | refine blk_alloc ?_ _)); exact BK395.out) hb)
                have n3_ := Aside0.mk (below_step (by repeat (first | (with_reducible first | exact HB.out | apply below_alloc | apply pw_below_drewN | apply below_drew1 | refine below_set ?_ GE380.out | refine below_set ?_ GE381.out | refine below_set ?_ GE395.out) | exact HB.out)) hb)
                clear BK380
                clear BK381
                clear BK395
                clear HB
                have BK380 := n0_
                have BK381 := n1_
                have BK395 := n2_
                have HB := n3_
                clear n0_ n1_ n2_ n3_
                (try clear hb)
                (try clear hb2)
                (try clear hk)
                (try clear hi)
                refine hK.out _ _ ⟨(blk_cell BK380.out 0).trans rfl, (blk_cell BK380.out 1).trans rfl, (blk_cell BK380.out 2).trans rfl, (blk_cell BK380.out 3).trans rfl, (blk_cell BK380.out 4).trans rfl, (blk_cell BK380.out 5).trans rfl⟩ (fun hHeld => ?_)
                clear hK K
                refine norm_ (a' := ?_) ?_ ?_
                rotate_left
                · show Act.put _ (some 32) _ = _
                  simp only [Act.put, List.setIfInBounds_toArray, List.set_cons_zero, List.set_cons_succ, i64_w, i32_w]
                  rfl
                refine pure_ (i := 7) (N := some 25) (v := ?_) (a' := ?_) #[true, true, true, true, true, true, true, true, false, false, true, false, false] rfl rfl (any_of HT_.out (by kernel_rfl)) (fun _ _ _ h => h) (Or.inl ⟨by rfl, ?_⟩) ?_ ?_
                rotate_left
                · intro w'
                  go_simp
                  with_reducible rfl
                rotate_left
                · simp only [Act.put, List.setIfInBounds_toArray, List.set_cons_zero, List.set_cons_succ, i64_w, i32_w]
                  rfl
                refine pure_ (i := 8) (N := some 33) (v := ?_) (a' := ?_) #[true, true, true, true, true, true, true, true, true, false, true, false, false] rfl rfl (any_of HT_.out (by kernel_rfl)) (fun _ _ _ h => h) (Or.inl ⟨by rfl, ?_⟩) ?_ ?_
                rotate_left
                · intro w'
                  go_simp
                  with_reducible rfl
                rotate_left
                · simp only [Act.put, List.setIfInBounds_toArray, List.set_cons_zero, List.set_cons_succ, i64_w, i32_w]
                  rfl
                refine pure_ (i := 9) (N := some 34) (v := ?_) (a' := ?_) #[true, true, true, true, true, true, true, true, true, true, true, false, false] rfl rfl (any_of HT_.out (by kernel_rfl)) (fun _ _ _ h => h) (Or.inl ⟨by rfl, ?_⟩) ?_ ?_
                rotate_left
                · intro w'
                  go_simp
                  with_reducible rfl
                rotate_left
                · simp only [Act.put, List.setIfInBounds_toArray, List.set_cons_zero, List.set_cons_succ, i64_w, i32_w]
                  rfl
                exact norm_ (by simp only [putAll, Act.put, List.setIfInBounds_toArray, List.set_cons_zero, List.set_cons_succ]) (hCont (gb395) _ ⟨hHeld, (by (with_reducible repeat (first | refine blk_drewN ?_ _ | refine blk_drew ?_ | refine blk_alloc ?_ _)); exact BK380.out), (by (with_reducible repeat (first | refine blk_drewN ?_ _ | refine blk_drew ?_ | refine blk_alloc ?_ _)); exact BK381.out), (by (with_reducible repeat (first | refine blk_drewN ?_ _ | refine blk_drew ?_ | refine blk_alloc ?_ _)); exact BK395.out), GW395.out, GE395.out, NB380_395.out, NB395_380.out, NB381_395.out, NB395_381.out, (by repeat (first | (with_reducible first | exact HB.out | apply below_alloc | apply pw_below_drewN | apply below_drew1 | refine below_set ?_ GE380.out | refine below_set ?_ GE381.out | refine below_set ?_ GE395.out) | exact HB.out))⟩)
            rintro gb395 w49 ⟨hS_, h0_, h1_, h2_, h3_, h4_, h5_, h6_, h7_, h8_, h9_⟩
            have n0_ : Aside0 (w49.heap[gb380]? = some (.cells #[.bool a0_0, .int .i64 a0_1, .int .i64 a0_2, .int .i64 a0_3, .int .i64 a0_4, .int .i64 a0_5] 23 (0, 0))) := ⟨h0_⟩
            have n1_ : Aside0 (w49.heap[gb381]? = some (.cells #[.bool a1_0, .int .i64 a1_1, .int .i64 a1_2, .int .i64 a1_3, .int .i64 a1_4, .int .i64 a1_5] 23 (0, 0))) := ⟨h1_⟩
            have n2_ : Aside0 (w49.heap[gb395]? = some (.cells #[.bool false, .int .i64 0, .int .i64 0, .int .i64 0, .int .i64 0, .int .i64 0] 23 (0, 0))) := ⟨h2_⟩
            have n3_ : Aside0 (w.heap.size ≤ gb395) := ⟨h3_⟩
            have n4_ : Aside0 (w.heap.size ≤ gb395) := ⟨h4_⟩
            have n5_ : Aside0 (gb380 ≠ gb395) := ⟨h5_⟩
            have n6_ : Aside0 (gb395 ≠ gb380) := ⟨h6_⟩
            have n7_ : Aside0 (gb381 ≠ gb395) := ⟨h7_⟩
            have n8_ : Aside0 (gb395 ≠ gb381) := ⟨h8_⟩
            have n9_ : Aside0 (Below w.heap.size w w49) := ⟨h9_⟩
            clear BK380
            clear BK381
            clear HB
            clear h0_ h1_ h2_ h3_ h4_ h5_ h6_ h7_ h8_ h9_
            have BK380 := n0_
            have BK381 := n1_
            have BK395 := n2_
            have GW395 := n3_
            have GE395 := n4_
            have NB380_395 := n5_
            have NB395_380 := n6_
            have NB381_395 := n7_
            have NB395_381 := n8_
            have HB := n9_
            clear n0_ n1_ n2_ n3_ n4_ n5_ n6_ n7_ n8_ n9_
            have hHeld : w49.cell? ⟨gb380, 0, none⟩ = some (.bool a0_0) ∧ w49.cell? ⟨gb380, 1, none⟩ = some (.int .i64 a0_1) ∧ w49.cell? ⟨gb380, 2, none⟩ = some (.int .i64 a0_2) ∧ w49.cell? ⟨gb380, 3, none⟩ = some (.int .i64 a0_3) ∧ w49.cell? ⟨gb380, 4, none⟩ = some (.int .i64 a0_4) ∧ w49.cell? ⟨gb380, 5, none⟩ = some (.int .i64 a0_5) := hS_
            refine norm_ (a' := ?_) ?_ ?_
            rotate_left
            · simp only [putAll, Act.put, List.setIfInBounds_toArray, List.set_cons_zero, List.set_cons_succ]
              rfl
            refine one_ (i := 11) (N := none) #[true, true, true, true, true, true, true, true, true, true, true, true, false] rfl rfl (one_of HT_.out (by kernel_rfl)) (by decide) (fun K hK => ?_)
            have hs50 : w49.cell? ⟨gb395, 0, none⟩ = some (.bool false) := (blk_cell BK395.out 0).trans rfl
            have hfs50 := blk_frozen BK395.out 0
            have hns50_0 := NB380_395.out
            have hns50_1 := NB381_395.out
            have hms50_0 := NB395_380.out
            have hms50_1 := NB395_381.out
            have hs51 : w49.cell? ⟨gb395, 1, none⟩ = some (.int .i64 0) := (blk_cell BK395.out 1).trans rfl
            have hfs51 := blk_frozen BK395.out 1
            have hns51_0 := NB380_395.out
            have hns51_1 := NB381_395.out
            have hms51_0 := NB395_380.out
            have hms51_1 := NB395_381.out
            have hs52 : w49.cell? ⟨gb395, 2, none⟩ = some (.int .i64 0) := (blk_cell BK395.out 2).trans rfl
            have hfs52 := blk_frozen BK395.out 2
            have hns52_0 := NB380_395.out
            have hns52_1 := NB381_395.out
            have hms52_0 := NB395_380.out
            have hms52_1 := NB395_381.out
            have hs53 : w49.cell? ⟨gb395, 3, none⟩ = some (.int .i64 0) := (blk_cell BK395.out 3).trans rfl
            have hfs53 := blk_frozen BK395.out 3
            have hns53_0 := NB380_395.out
            have hns53_1 := NB381_395.out
            have hms53_0 := NB395_380.out
            have hms53_1 := NB395_381.out
            have hs54 : w49.cell? ⟨gb395, 4, none⟩ = some (.int .i64 0) := (blk_cell BK395.out 4).trans rfl
            have hfs54 := blk_frozen BK395.out 4
            have hns54_0 := NB380_395.out
            have hns54_1 := NB381_395.out
            have hms54_0 := NB395_380.out
            have hms54_1 := NB395_381.out
            have hs55 : w49.cell? ⟨gb395, 5, none⟩ = some (.int .i64 0) := (blk_cell BK395.out 5).trans rfl
            have hfs55 := blk_frozen BK395.out 5
            have hns55_0 := NB380_395.out
            have hns55_1 := NB381_395.out
            have hms55_0 := NB395_380.out
            have hms55_1 := NB395_381.out
            refine skip_ (w1 := ?_) (by rfl) rfl ?_ ?_
            rotate_left
            · go_simp
              rfl
            refine hK.out _ _ ⟨((cell_far (p := ⟨gb395, _, none⟩) NB380_395.out _).trans (((cell_far (p := ⟨gb395, _, none⟩) NB380_395.out _).trans (((cell_far (p := ⟨gb395, _, none⟩) NB380_395.out _).trans (((cell_far (p := ⟨gb395, _, none⟩) NB380_395.out _).trans (((cell_far (p := ⟨gb395, _, none⟩) NB380_395.out _).trans (((cell_far (p := ⟨gb395, _, none⟩) NB380_395.out _).trans (hHeld.1)))))))))))), ((cell_far (p := ⟨gb395, _, none⟩) NB380_395.out _).trans (((cell_far (p := ⟨gb395, _, none⟩) NB380_395.out _).trans (((cell_far (p := ⟨gb395, _, none⟩) NB380_395.out _).trans (((cell_far (p := ⟨gb395, _, none⟩) NB380_395.out _).trans (((cell_far (p := ⟨gb395, _, none⟩) NB380_395.out _).trans (((cell_far (p := ⟨gb395, _, none⟩) NB380_395.out _).trans (hHeld.2.1)))))))))))), ((cell_far (p := ⟨gb395, _, none⟩) NB380_395.out _).trans (((cell_far (p := ⟨gb395, _, none⟩) NB380_395.out _).trans (((cell_far (p := ⟨gb395, _, none⟩) NB380_395.out _).trans (((cell_far (p := ⟨gb395, _, none⟩) NB380_395.out _).trans (((cell_far (p := ⟨gb395, _, none⟩) NB380_395.out _).trans (((cell_far (p := ⟨gb395, _, none⟩) NB380_395.out _).trans (hHeld.2.2.1)))))))))))), ((cell_far (p := ⟨gb395, _, none⟩) NB380_395.out _).trans (((cell_far (p := ⟨gb395, _, none⟩) NB380_395.out _).trans (((cell_far (p := ⟨gb395, _, none⟩) NB380_395.out _).trans (((cell_far (p := ⟨gb395, _, none⟩) NB380_395.out _).trans (((cell_far (p := ⟨gb395, _, none⟩) NB380_395.out _).trans (((cell_far (p := ⟨gb395, _, none⟩) NB380_395.out _).trans (hHeld.2.2.2.1)))))))))))), ((cell_far (p := ⟨gb395, _, none⟩) NB380_395.out _).trans (((cell_far (p := ⟨gb395, _, none⟩) NB380_395.out _).trans (((cell_far (p := ⟨gb395, _, none⟩) NB380_395.out _).trans (((cell_far (p := ⟨gb395, _, none⟩) NB380_395.out _).trans (((cell_far (p := ⟨gb395, _, none⟩) NB380_395.out _).trans (((cell_far (p := ⟨gb395, _, none⟩) NB380_395.out _).trans (hHeld.2.2.2.2.1)))))))))))), ((cell_far (p := ⟨gb395, _, none⟩) NB380_395.out _).trans (((cell_far (p := ⟨gb395, _, none⟩) NB380_395.out _).trans (((cell_far (p := ⟨gb395, _, none⟩) NB380_395.out _).trans (((cell_far (p := ⟨gb395, _, none⟩) NB380_395.out _).trans (((cell_far (p := ⟨gb395, _, none⟩) NB380_395.out _).trans (((cell_far (p := ⟨gb395, _, none⟩) NB380_395.out _).trans (hHeld.2.2.2.2.2))))))))))))⟩ (fun hHeld => ?_)
            clear hK K
            refine pure_ (i := 12) (N := some 6) (v := ?_) (a' := ?_) #[true, true, true, true, true, true, true, true, true, true, true, true, true] rfl rfl (any_of HT_.out (by kernel_rfl)) (fun _ _ _ h => h) (Or.inl ⟨by rfl, ?_⟩) ?_ ?_
            rotate_left
            · intro w'
              go_simp
              with_reducible rfl
            rotate_left
            · simp only [Act.put, List.setIfInBounds_toArray, List.set_cons_zero, List.set_cons_succ, i64_w, i32_w]
              rfl
            refine done_ (done_of HT_.out (by kernel_rfl)) ?_
            try go_wp2
            have n0_ : Aside0 (((((((w49.setCell ⟨gb395, 0, none⟩ (.bool t388)).setCell ⟨gb395, 1, none⟩ (.int .i64 t389)).setCell ⟨gb395, 2, none⟩ (.int .i64 t390)).setCell ⟨gb395, 3, none⟩ (.int .i64 t391)).setCell ⟨gb395, 4, none⟩ (.int .i64 t392)).setCell ⟨gb395, 5, none⟩ (.int .i64 t393)).heap[gb380]? = some (.cells #[.bool a0_0, .int .i64 a0_1, .int .i64 a0_2, .int .i64 a0_3, .int .i64 a0_4, .int .i64 a0_5] 23 (0, 0))) := ⟨by (with_reducible repeat (first | refine blk_drewN ?_ _ | refine blk_drew ?_ | refine blk_alloc ?_ _)); refine blk_far ?_ NB380_395.out _; (with_reducible repeat (first | refine blk_drewN ?_ _ | refine blk_drew ?_ | refine blk_alloc ?_ _)); refine blk_far ?_ NB380_395.out _; (with_reducible repeat (first | refine blk_drewN ?_ _ | refine blk_drew ?_ | refine blk_alloc ?_ _)); refine blk_far ?_ NB380_395.out _; (with_reducible repeat (first | refine blk_drewN ?_ _ | refine blk_drew ?_ | refine blk_alloc ?_ _)); refine blk_far ?_ NB380_395.out _; (with_reducible repeat (first | refine blk_drewN ?_ _ | refine blk_drew ?_ | refine blk_alloc ?_ _)); refine blk_far ?_ NB380_395.out _; (with_reducible repeat (first | refine blk_drewN ?_ _ | refine blk_drew ?_ | refine blk_alloc ?_ _)); refine blk_far ?_ NB380_395.out _; (with_reducible repeat (first | refine blk_drewN ?_ _ | refine blk_drew ?_ | refine blk_alloc ?_ _)); exact BK380.out⟩
            have n1_ : Aside0 (((((((w49.setCell ⟨gb395, 0, none⟩ (.bool t388)).setCell ⟨gb395, 1, none⟩ (.int .i64 t389)).setCell ⟨gb395, 2, none⟩ (.int .i64 t390)).setCell ⟨gb395, 3, none⟩ (.int .i64 t391)).setCell ⟨gb395, 4, none⟩ (.int .i64 t392)).setCell ⟨gb395, 5, none⟩ (.int .i64 t393)).heap[gb381]? = some (.cells #[.bool a1_0, .int .i64 a1_1, .int .i64 a1_2, .int .i64 a1_3, .int .i64 a1_4, .int .i64 a1_5] 23 (0, 0))) := ⟨by (with_reducible repeat (first | refine blk_drewN ?_ _ | refine blk_drew ?_ | refine blk_alloc ?_ _)); refine blk_far ?_ NB381_395.out _; (with_reducible repeat (first | refine blk_drewN ?_ _ | refine blk_drew ?_ | refine blk_alloc ?_ _)); refine blk_far ?_ NB381_395.out _; (with_reducible repeat (first | refine blk_drewN ?_ _ | refine blk_drew ?_ | refine blk_alloc ?_ _)); refine blk_far ?_ NB381_395.out _; (with_reducible repeat (first | refine blk_drewN ?_ _ | refine blk_drew ?_ | refine blk_alloc ?_ _)); refine blk_far ?_ NB381_395.out _; (with_reducible repeat (first | refine blk_drewN ?_ _ | refine blk_drew ?_ | refine blk_alloc ?_ _)); refine blk_far ?_ NB381_395.out _; (with_reducible repeat (first | refine blk_drewN ?_ _ | refine blk_drew ?_ | refine blk_alloc ?_ _)); refine blk_far ?_ NB381_395.out _; (with_reducible repeat (first | refine blk_drewN ?_ _ | refine blk_drew ?_ | refine blk_alloc ?_ _)); exact BK381.out⟩
            have n2_ : Aside0 (((((((w49.setCell ⟨gb395, 0, none⟩ (.bool t388)).setCell ⟨gb395, 1, none⟩ (.int .i64 t389)).setCell ⟨gb395, 2, none⟩ (.int .i64 t390)).setCell ⟨gb395, 3, none⟩ (.int .i64 t391)).setCell ⟨gb395, 4, none⟩ (.int .i64 t392)).setCell ⟨gb395, 5, none⟩ (.int .i64 t393)).heap[gb395]? = some (.cells #[.bool t388, .int .i64 t389, .int .i64 t390, .int .i64 t391, .int .i64 t392, .int .i64 t393] 23 (0, 0))) := ⟨by (with_reducible repeat (first | refine blk_drewN ?_ _ | refine blk_drew ?_ | refine blk_alloc ?_ _)); refine blk_put (cs := #[.bool t388, .int .i64 t389, .int .i64 t390, .int .i64 t391, .int .i64 t392, .int .i64 0]) ?_ 5 _ rfl; (with_reducible repeat (first | refine blk_drewN ?_ _ | refine blk_drew ?_ | refine blk_alloc ?_ _)); refine blk_put (cs := #[.bool t388, .int .i64 t389, .int .i64 t390, .int .i64 t391, .int .i64 0, .int .i64 0]) ?_ 4 _ rfl; (with_reducible repeat (first | refine blk_drewN ?_ _ | refine blk_drew ?_ | refine blk_alloc ?_ _)); refine blk_put (cs := #[.bool t388, .int .i64 t389, .int .i64 t390, .int .i64 0, .int .i64 0, .int .i64 0]) ?_ 3 _ rfl; (with_reducible repeat (first | refine blk_drewN ?_ _ | refine blk_drew ?_ | refine blk_alloc ?_ _)); refine blk_put (cs := #[.bool t388, .int .i64 t389, .int .i64 0, .int .i64 0, .int .i64 0, .int .i64 0]) ?_ 2 _ rfl; (with_reducible repeat (first | refine blk_drewN ?_ _ | refine blk_drew ?_ | refine blk_alloc ?_ _)); refine blk_put (cs := #[.bool t388, .int .i64 0, .int .i64 0, .int .i64 0, .int .i64 0, .int .i64 0]) ?_ 1 _ rfl; (with_reducible repeat (first | refine blk_drewN ?_ _ | refine blk_drew ?_ | refine blk_alloc ?_ _)); refine blk_put (cs := #[.bool false, .int .i64 0, .int .i64 0, .int .i64 0, .int .i64 0, .int .i64 0]) ?_ 0 _ rfl; (with_reducible repeat (first | refine blk_drewN ?_ _ | refine blk_drew ?_ | refine blk_alloc ?_ _)); exact BK395.out⟩
            have n3_ : Aside0 (Below w.heap.size w ((((((w49.setCell ⟨gb395, 0, none⟩ (.bool t388)).setCell ⟨gb395, 1, none⟩ (.int .i64 t389)).setCell ⟨gb395, 2, none⟩ (.int .i64 t390)).setCell ⟨gb395, 3, none⟩ (.int .i64 t391)).setCell ⟨gb395, 4, none⟩ (.int .i64 t392)).setCell ⟨gb395, 5, none⟩ (.int .i64 t393))) := ⟨by repeat (first | (with_reducible first | exact HB.out | apply below_alloc | apply pw_below_drewN | apply below_drew1 | refine below_set ?_ GE380.out | refine below_set ?_ GE381.out | refine below_set ?_ GE395.out) | exact HB.out)⟩
            (try clear BK380)
            (try clear BK381)
            (try clear BK395)
            (try clear HB)
            generalize ((((((w49.setCell ⟨gb395, 0, none⟩ (.bool t388)).setCell ⟨gb395, 1, none⟩ (.int .i64 t389)).setCell ⟨gb395, 2, none⟩ (.int .i64 t390)).setCell ⟨gb395, 3, none⟩ (.int .i64 t391)).setCell ⟨gb395, 4, none⟩ (.int .i64 t392)).setCell ⟨gb395, 5, none⟩ (.int .i64 t393)) = w56 at n0_ n1_ n2_ n3_ ⊢
            have BK380 := n0_
            have BK381 := n1_
            have BK395 := n2_
            have HB := n3_
            clear n0_ n1_ n2_ n3_
            have n0_ := Aside0.mk (blk_drew BK380.out)
            have n1_ := Aside0.mk (blk_drew BK381.out)
            have n2_ := Aside0.mk (blk_drew BK395.out)
            have n3_ := Aside0.mk (below_drew1 HB.out)
            clear BK380
            clear BK381
            clear BK395
            clear HB
            have BK380 := n0_
            have BK381 := n1_
            have BK395 := n2_
            have HB := n3_
            clear n0_ n1_ n2_ n3_
            refine start_ (n := 6) (S := fun w' => w'.cell? ⟨gb380, 0, none⟩ = some (.bool a0_0) ∧ w'.cell? ⟨gb380, 1, none⟩ = some (.int .i64 a0_1) ∧ w'.cell? ⟨gb380, 2, none⟩ = some (.int .i64 a0_2) ∧ w'.cell? ⟨gb380, 3, none⟩ = some (.int .i64 a0_3) ∧ w'.cell? ⟨gb380, 4, none⟩ = some (.int .i64 a0_4) ∧ w'.cell? ⟨gb380, 5, none⟩ = some (.int .i64 a0_5) ∧ w'.cell? ⟨gb381, 0, none⟩ = some (.bool a1_0) ∧ w'.cell? ⟨gb381, 1, none⟩ = some (.int .i64 a1_1) ∧ w'.cell? ⟨gb381, 2, none⟩ = some (.int .i64 a1_2) ∧ w'.cell? ⟨gb381, 3, none⟩ = some (.int .i64 a1_3) ∧ w'.cell? ⟨gb381, 4, none⟩ = some (.int .i64 a1_4) ∧ w'.cell? ⟨gb381, 5, none⟩ = some (.int .i64 a1_5)) (ds := []) #[false, false, false, false, false, false] (by kernel_rfl) rfl rfl ⟨(blk_cell BK380.out 0).trans rfl, (blk_cell BK380.out 1).trans rfl, (blk_cell BK380.out 2).trans rfl, (blk_cell BK380.out 3).trans rfl, (blk_cell BK380.out 4).trans rfl, (blk_cell BK380.out 5).trans rfl, (blk_cell BK381.out 0).trans rfl, (blk_cell BK381.out 1).trans rfl, (blk_cell BK381.out 2).trans rfl, (blk_cell BK381.out 3).trans rfl, (blk_cell BK381.out 4).trans rfl, (blk_cell BK381.out 5).trans rfl⟩ (fun hHeld => ?_)
            generalize w56.drew = w57 at BK380 BK381 BK395 HB hHeld ⊢
            refine take_ (i := 0) (N := some 35) (v := ?_) (a' := ?_) #[true, false, false, false, false, false] rfl rfl (by kernel_rfl) (fun _ _ _ h => h) (Or.inl ⟨by rfl, ?_⟩) hHeld ?_ ?_
            rotate_left
            · rintro w' ⟨s0, s1, s2, s3, s4, s5, s6, s7, s8, s9, s10, s11⟩
              go_simp
              with_reducible rfl
            rotate_left
            · simp only [Act.put, List.setIfInBounds_toArray, List.set_cons_zero, List.set_cons_succ, i64_w, i32_w]
              rfl
            refine take_ (i := 2) (N := some 37) (v := ?_) (a' := ?_) #[true, false, true, false, false, false] rfl rfl (by kernel_rfl) (fun _ _ _ h => h) (Or.inl ⟨by rfl, ?_⟩) hHeld ?_ ?_
            rotate_left
            · rintro w' ⟨s0, s1, s2, s3, s4, s5, s6, s7, s8, s9, s10, s11⟩
              go_simp
              with_reducible rfl
            rotate_left
            · simp only [Act.put, List.setIfInBounds_toArray, List.set_cons_zero, List.set_cons_succ, i64_w, i32_w]
              rfl
            refine one_ (i := 1) (N := some 36) #[true, true, true, false, false, false] rfl rfl (by kernel_rfl) (by decide) (fun K hK => ?_)
            refine goes_ Try.func16 (by kernel_rfl) rfl #[.agg #[.bool a0_0, .int .i64 a0_1, .int .i64 a0_2, .int .i64 a0_3, .int .i64 a0_4, .int .i64 a0_5]] (by rfl) rfl rfl (by (try simp only [List.map_toArray, List.map_cons, List.map_nil]); first | done | rfl | (simp only [List.length_drop, List.length_take]; rfl)) ?_
            with_reducible refine (height_Level.calls kj2 a0_0 a0_1 a0_2 a0_3 a0_4 a0_5 t396 t397 t398 _ A37.out).mono ?_
            rintro e w58 ⟨rfl, hb⟩
            refine ⟨_, rfl, ?_⟩
            have n0_ := Aside0.mk (blk_below (g := gb380) (o := .cells #[.bool a0_0, .int .i64 a0_1, .int .i64 a0_2, .int .i64 a0_3, .int .i64 a0_4, .int .i64 a0_5] 23 (0, 0)) (by (with_reducible repeat (first | refine blk_drewN ?_ _ | refine blk_drew ?_ | refine blk_alloc ?_ _)); exact BK380.out) hb)
            have n1_ := Aside0.mk (blk_below (g := gb381) (o := .cells #[.bool a1_0, .int .i64 a1_1, .int .i64 a1_2, .int .i64 a1_3, .int .i64 a1_4, .int .i64 a1_5] 23 (0, 0)) (by (with_reducible repeat (first | refine blk_drewN ?_ _ | refine blk_drew ?_ | refine blk_alloc ?_ _)); exact BK381.out) hb)
            have n2_ := Aside0.mk (blk_below (g := gb395) (o := .cells #[.bool t388, .int .i64 t389, .int .i64 t390, .int .i64 t391, .int .i64 t392, .int .i64 t393] 23 (0, 0)) (by (with_reducible repeat (first | refine blk_drewN ?_ _ | refine blk_drew ?_ | refine blk_alloc ?_ _)); exact BK395.out) hb)
            have n3_ := Aside0.mk (below_step (by repeat (first | (with_reducible first | exact HB.out | apply below_alloc | apply pw_below_drewN | apply below_drew1 | refine below_set ?_ GE380.out | refine below_set ?_ GE381.out | refine below_set ?_ GE395.out) | exact HB.out)) hb)
            clear BK380
            clear BK381
            clear BK395
            clear HB
            have BK380 := n0_
            have BK381 := n1_
            have BK395 := n2_
            have HB := n3_
            clear n0_ n1_ n2_ n3_
            (try clear hb)
            (try clear hb2)
            (try clear hk)
            (try clear hi)
            refine hK.out _ _ ⟨(blk_cell BK380.out 0).trans rfl, (blk_cell BK380.out 1).trans rfl, (blk_cell BK380.out 2).trans rfl, (blk_cell BK380.out 3).trans rfl, (blk_cell BK380.out 4).trans rfl, (blk_cell BK380.out 5).trans rfl, (blk_cell BK381.out 0).trans rfl, (blk_cell BK381.out 1).trans rfl, (blk_cell BK381.out 2).trans rfl, (blk_cell BK381.out 3).trans rfl, (blk_cell BK381.out 4).trans rfl, (blk_cell BK381.out 5).trans rfl⟩ (fun hHeld => ?_)
            clear hK K
            refine norm_ (a' := ?_) ?_ ?_
            rotate_left
            · show Act.put _ (some 36) _ = _
              simp only [Act.put, List.setIfInBounds_toArray, List.set_cons_zero, List.set_cons_succ, i64_w, i32_w]
              rfl
            refine one_ (i := 3) (N := some 38) #[true, true, true, true, false, false] rfl rfl (by kernel_rfl) (by decide) (fun K hK => ?_)
            refine goes_ Try.func16 (by kernel_rfl) rfl #[.agg #[.bool a1_0, .int .i64 a1_1, .int .i64 a1_2, .int .i64 a1_3, .int .i64 a1_4, .int .i64 a1_5]] (by rfl) rfl rfl (by (try simp only [List.map_toArray, List.map_cons, List.map_nil]); first | done | rfl | (simp only [List.length_drop, List.length_take]; rfl)) ?_
            with_reducible refine (height_Level.calls kj2 a1_0 a1_1 a1_2 a1_3 a1_4 a1_5 t399 t400 t401 _ A38.out).mono ?_
            rintro e w59 ⟨rfl, hb⟩
            refine ⟨_, rfl, ?_⟩
            have n0_ := Aside0.mk (blk_below (g := gb380) (o := .cells #[.bool a0_0, .int .i64 a0_1, .int .i64 a0_2, .int .i64 a0_3, .int .i64 a0_4, .int .i64 a0_5] 23 (0, 0)) (by (with_reducible repeat (first | refine blk_drewN ?_ _ | refine blk_drew ?_ | refine blk_alloc ?_ _)); exact BK380.out) hb)
            have n1_ := Aside0.mk (blk_below (g := gb381) (o := .cells #[.bool a1_0, .int .i64 a1_1, .int .i64 a1_2, .int .i64 a1_3, .int .i64 a1_4, .int .i64 a1_5] 23 (0, 0)) (by (with_reducible repeat (first | refine blk_drewN ?_ _ | refine blk_drew ?_ | refine blk_alloc ?_ _)); exact BK381.out) hb)
            have n2_ := Aside0.mk (blk_below (g := gb395) (o := .cells #[.bool t388, .int .i64 t389, .int .i64 t390, .int .i64 t391, .int .i64 t392, .int .i64 t393] 23 (0, 0)) (by (with_reducible repeat (first | refine blk_drewN ?_ _ | refine blk_drew ?_ | refine blk_alloc ?_ _)); exact BK395.out) hb)
            have n3_ := Aside0.mk (below_step (by repeat (first | (with_reducible first | exact HB.out | apply below_alloc | apply pw_below_drewN | apply below_drew1 | refine below_set ?_ GE380.out | refine below_set ?_ GE381.out | refine below_set ?_ GE395.out) | exact HB.out)) hb)
            clear BK380
            clear BK381
            clear BK395
            clear HB
            have BK380 := n0_
            have BK381 := n1_
            have BK395 := n2_
            have HB := n3_
            clear n0_ n1_ n2_ n3_
            (try clear hb)
            (try clear hb2)
            (try clear hk)
            (try clear hi)
            refine hK.out _ _ ⟨(blk_cell BK380.out 0).trans rfl, (blk_cell BK380.out 1).trans rfl, (blk_cell BK380.out 2).trans rfl, (blk_cell BK380.out 3).trans rfl, (blk_cell BK380.out 4).trans rfl, (blk_cell BK380.out 5).trans rfl, (blk_cell BK381.out 0).trans rfl, (blk_cell BK381.out 1).trans rfl, (blk_cell BK381.out 2).trans rfl, (blk_cell BK381.out 3).trans rfl, (blk_cell BK381.out 4).trans rfl, (blk_cell BK381.out 5).trans rfl⟩ (fun hHeld => ?_)
            clear hK K
            refine norm_ (a' := ?_) ?_ ?_
            rotate_left
            · show Act.put _ (some 38) _ = _
              simp only [Act.put, List.setIfInBounds_toArray, List.set_cons_zero, List.set_cons_succ, i64_w, i32_w]
              rfl
            refine one_ (i := 4) (N := some 39) #[true, true, true, true, true, false] rfl rfl (by kernel_rfl) (by decide) (fun K hK => ?_)
            refine goes_ Try.func18 (by kernel_rfl) rfl #[.agg #[.int .i64 t396, .int .i64 t397, .int .i64 t398], .agg #[.int .i64 t399, .int .i64 t400, .int .i64 t401]] (by rfl) rfl rfl (by (try simp only [List.map_toArray, List.map_cons, List.map_nil]); first | done | rfl | (simp only [List.length_drop, List.length_take]; rfl)) ?_
            with_reducible refine (height_Order.calls kj2 t396 t397 t398 t399 t400 t401 t402 _ A39.out).mono ?_
            rintro e w60 ⟨rfl, hb⟩
            refine ⟨_, rfl, ?_⟩
            have n0_ := Aside0.mk (blk_below (g := gb380) (o := .cells #[.bool a0_0, .int .i64 a0_1, .int .i64 a0_2, .int .i64 a0_3, .int .i64 a0_4, .int .i64 a0_5] 23 (0, 0)) (by (with_reducible repeat (first | refine blk_drewN ?_ _ | refine blk_drew ?_ | refine blk_alloc ?_ _)); exact BK380.out) hb)
            have n1_ := Aside0.mk (blk_below (g := gb381) (o := .cells #[.bool a1_0, .int .i64 a1_1, .int .i64 a1_2, .int .i64 a1_3, .int .i64 a1_4, .int .i64 a1_5] 23 (0, 0)) (by (with_reducible repeat (first | refine blk_drewN ?_ _ | refine blk_drew ?_ | refine blk_alloc ?_ _)); exact BK381.out) hb)
            have n2_ := Aside0.mk (blk_below (g := gb395) (o := .cells #[.bool t388, .int .i64 t389, .int .i64 t390, .int .i64 t391, .int .i64 t392, .int .i64 t393] 23 (0, 0)) (by (with_reducible repeat (first | refine blk_drewN ?_ _ | refine blk_drew ?_ | refine blk_alloc ?_ _)); exact BK395.out) hb)
            have n3_ := Aside0.mk (below_step (by repeat (first | (with_reducible first | exact HB.out | apply below_alloc | apply pw_below_drewN | apply below_drew1 | refine below_set ?_ GE380.out | refine below_set ?_ GE381.out | refine below_set ?_ GE395.out) | exact HB.out)) hb)
            clear BK380
            clear BK381
            clear BK395
            clear HB
            have BK380 := n0_
            have BK381 := n1_
            have BK395 := n2_
            have HB := n3_
            clear n0_ n1_ n2_ n3_
            (try clear hb)
            (try clear hb2)
            (try clear hk)
            (try clear hi)
            refine hK.out _ _ ⟨(blk_cell BK380.out 0).trans rfl, (blk_cell BK380.out 1).trans rfl, (blk_cell BK380.out 2).trans rfl, (blk_cell BK380.out 3).trans rfl, (blk_cell BK380.out 4).trans rfl, (blk_cell BK380.out 5).trans rfl, (blk_cell BK381.out 0).trans rfl, (blk_cell BK381.out 1).trans rfl, (blk_cell BK381.out 2).trans rfl, (blk_cell BK381.out 3).trans rfl, (blk_cell BK381.out 4).trans rfl, (blk_cell BK381.out 5).trans rfl⟩ (fun hHeld => ?_)
            clear hK K
            refine norm_ (a' := ?_) ?_ ?_
            rotate_left
            · show Act.put _ (some 39) _ = _
              simp only [Act.put, List.setIfInBounds_toArray, List.set_cons_zero, List.set_cons_succ, i64_w, i32_w]
              rfl
            refine pure_ (i := 5) (N := some 7) (v := ?_) (a' := ?_) #[true, true, true, true, true, true] rfl rfl (by kernel_rfl) (fun _ _ _ h => h) (Or.inl ⟨by rfl, ?_⟩) ?_ ?_
            rotate_left
            · intro w'
              go_simp
              with_reducible rfl
            rotate_left
            · simp only [Act.put, List.setIfInBounds_toArray, List.set_cons_zero, List.set_cons_succ, i64_w, i32_w]
              rfl
            refine done_ (by kernel_rfl) ?_
            try go_wp2_with (first | ((with_reducible refine gate_callee (f := 20) rfl ?_); refine goesL_ (some 40) rfl rfl Try.func20 (by kernel_rfl) rfl #[] rfl (by (try simp only [List.map_toArray, List.map_cons, List.map_nil]); first | done | rfl | (simp only [List.length_drop, List.length_take]; rfl)) ?_; (with_reducible refine (thalweglaw02_awake.calls kj2  true _ A40.out).mono ?_); rintro e w61 ⟨rfl, hb⟩; refine ⟨_, rfl, ?_⟩; have n0_ := Aside0.mk (blk_below (g := gb380) (o := .cells #[.bool a0_0, .int .i64 a0_1, .int .i64 a0_2, .int .i64 a0_3, .int .i64 a0_4, .int .i64 a0_5] 23 (0, 0)) (by (with_reducible repeat (first | refine blk_drewN ?_ _ | refine blk_drew ?_ | refine blk_alloc ?_ _)); exact BK380.out) hb); have n1_ := Aside0.mk (blk_below (g := gb381) (o := .cells #[.bool a1_0, .int .i64 a1_1, .int .i64 a1_2, .int .i64 a1_3, .int .i64 a1_4, .int .i64 a1_5] 23 (0, 0)) (by (with_reducible repeat (first | refine blk_drewN ?_ _ | refine blk_drew ?_ | refine blk_alloc ?_ _)); exact BK381.out) hb); have n2_ := Aside0.mk (blk_below (g := gb395) (o := .cells #[.bool t388, .int .i64 t389, .int .i64 t390, .int .i64 t391, .int .i64 t392, .int .i64 t393] 23 (0, 0)) (by (with_reducible repeat (first | refine blk_drewN ?_ _ | refine blk_drew ?_ | refine blk_alloc ?_ _)); exact BK395.out) hb); have n3_ := Aside0.mk (below_step (by repeat (first | (with_reducible first | exact HB.out | apply below_alloc | apply pw_below_drewN | apply below_drew1 | refine below_set ?_ GE380.out | refine below_set ?_ GE381.out | refine below_set ?_ GE395.out) | exact HB.out)) hb); clear BK380; clear BK381; clear BK395; clear HB; have BK380 := n0_; have BK381 := n1_; have BK395 := n2_; have HB := n3_; clear n0_ n1_ n2_ n3_; (try clear hb); (try clear hb2); (try clear hk); (try clear hi); have hnb62 := NB395_380.out; have hnc62 := NB380_395.out; have hnb63 := NB395_381.out; have hnc63 := NB381_395.out; have hcz64_0 : w61.cell? ⟨gb395, 0, none⟩ = some (.bool t388) := (blk_cell BK395.out 0).trans rfl; have hcz64_1 : w61.cell? ⟨gb395, 1, none⟩ = some (.int .i64 t389) := (blk_cell BK395.out 1).trans rfl; have hcz64_2 : w61.cell? ⟨gb395, 2, none⟩ = some (.int .i64 t390) := (blk_cell BK395.out 2).trans rfl; have hcz64_3 : w61.cell? ⟨gb395, 3, none⟩ = some (.int .i64 t391) := (blk_cell BK395.out 3).trans rfl; have hcz64_4 : w61.cell? ⟨gb395, 4, none⟩ = some (.int .i64 t392) := (blk_cell BK395.out 4).trans rfl; have hcz64_5 : w61.cell? ⟨gb395, 5, none⟩ = some (.int .i64 t393) := (blk_cell BK395.out 5).trans rfl; have hfz64_0 := blk_frozen BK395.out 0; have hfz64_1 := blk_frozen BK395.out 1; have hfz64_2 := blk_frozen BK395.out 2; have hfz64_3 := blk_frozen BK395.out 3; have hfz64_4 := blk_frozen BK395.out 4; have hfz64_5 := blk_frozen BK395.out 5; have hnb65 := NB380_381.out; have hnc65 := NB381_380.out; have hcz66_0 : w61.cell? ⟨gb380, 0, none⟩ = some (.bool a0_0) := (blk_cell BK380.out 0).trans rfl; have hcz66_1 : w61.cell? ⟨gb380, 1, none⟩ = some (.int .i64 a0_1) := (blk_cell BK380.out 1).trans rfl; have hcz66_2 : w61.cell? ⟨gb380, 2, none⟩ = some (.int .i64 a0_2) := (blk_cell BK380.out 2).trans rfl; have hcz66_3 : w61.cell? ⟨gb380, 3, none⟩ = some (.int .i64 a0_3) := (blk_cell BK380.out 3).trans rfl; have hcz66_4 : w61.cell? ⟨gb380, 4, none⟩ = some (.int .i64 a0_4) := (blk_cell BK380.out 4).trans rfl; have hcz66_5 : w61.cell? ⟨gb380, 5, none⟩ = some (.int .i64 a0_5) := (blk_cell BK380.out 5).trans rfl; have hfz66_0 := blk_frozen BK380.out 0; have hfz66_1 := blk_frozen BK380.out 1; have hfz66_2 := blk_frozen BK380.out 2; have hfz66_3 := blk_frozen BK380.out 3; have hfz66_4 := blk_frozen BK380.out 4; have hfz66_5 := blk_frozen BK380.out 5))
            go_ret
            exact ⟨by first | rfl | (simp [errW_none, errW_some] <;> rfl) | (simp [*, errW_none, errW_some] <;> rfl), by repeat (first | (with_reducible first | exact HB.out | apply below_alloc | apply pw_below_drewN | apply below_drew1 | refine below_set ?_ GE380.out | refine below_set ?_ GE381.out | refine below_set ?_ GE395.out) | exact HB.out)⟩
          · rw [if_neg c44] at H
            have c44b0 : (t402 == 0) = false := beq_eq_false_iff_ne.mpr c44
            have c44b1 : (t402 != 0) = true := bne_iff_ne.mpr c44
            replace H := Option.bind_eq_some_iff.mp H
            obtain ⟨t404, A670, H⟩ := H
            replace H : (some (t404 == (decide (t402 < 0)))) = some r := H
            have A67 := Aside0.mk A670
            clear A670
            obtain rfl := Option.some.inj H
            try go_wp2
            have n0_ := Aside0.mk (blk_drew BK380.out)
            have n1_ := Aside0.mk (blk_drew BK381.out)
            have n2_ := Aside0.mk (below_drew1 HB.out)
            clear BK380
            clear BK381
            clear HB
            have BK380 := n0_
            have BK381 := n1_
            have HB := n2_
            clear n0_ n1_ n2_
            refine start_ (n := 13) (S := fun w' => w'.cell? ⟨gb380, 0, none⟩ = some (.bool a0_0) ∧ w'.cell? ⟨gb380, 1, none⟩ = some (.int .i64 a0_1) ∧ w'.cell? ⟨gb380, 2, none⟩ = some (.int .i64 a0_2) ∧ w'.cell? ⟨gb380, 3, none⟩ = some (.int .i64 a0_3) ∧ w'.cell? ⟨gb380, 4, none⟩ = some (.int .i64 a0_4) ∧ w'.cell? ⟨gb380, 5, none⟩ = some (.int .i64 a0_5)) (ds := []) #[false, false, false, false, false, false, false, false, false, false, false, false, false] (by kernel_rfl) rfl rfl ⟨(blk_cell BK380.out 0).trans rfl, (blk_cell BK380.out 1).trans rfl, (blk_cell BK380.out 2).trans rfl, (blk_cell BK380.out 3).trans rfl, (blk_cell BK380.out 4).trans rfl, (blk_cell BK380.out 5).trans rfl⟩ (fun hHeld => ?_); refine with_tabW thalweglaw02_HeightLevels.tab3 thalweglaw02_HeightLevels.bits3 (fun HT_ HW_ => ?_)
            generalize wc.drew = w68 at BK380 BK381 HB hHeld ⊢
            refine pure_ (i := 2) (N := some 28) (v := ?_) (a' := ?_) #[false, false, true, false, false, false, false, false, false, false, false, false, false] rfl rfl (any_of HT_.out (by kernel_rfl)) (fun _ _ _ h => h) (Or.inl ⟨by rfl, ?_⟩) ?_ ?_
            rotate_left
            · intro w'
              go_simp
              with_reducible rfl
            rotate_left
            · simp only [Act.put, List.setIfInBounds_toArray, List.set_cons_zero, List.set_cons_succ, i64_w, i32_w]
              rfl
            refine pure_ (i := 4) (N := some 30) (v := ?_) (a' := ?_) #[false, false, true, false, true, false, false, false, false, false, false, false, false] rfl rfl (any_of HT_.out (by kernel_rfl)) (fun _ _ _ h => h) (Or.inl ⟨by rfl, ?_⟩) ?_ ?_
            rotate_left
            · intro w'
              go_simp
              with_reducible rfl
            rotate_left
            · simp only [Act.put, List.setIfInBounds_toArray, List.set_cons_zero, List.set_cons_succ, i64_w, i32_w]
              rfl
            refine take_ (i := 0) (N := some 26) (v := ?_) (a' := ?_) #[true, false, true, false, true, false, false, false, false, false, false, false, false] rfl rfl (take_ofW HT_.out HW_.out (by kernel_rfl)) (fun _ _ _ h => h) (Or.inl ⟨by rfl, ?_⟩) hHeld ?_ ?_
            rotate_left
            · rintro w' ⟨s0, s1, s2, s3, s4, s5⟩
              go_simp
              with_reducible rfl
            rotate_left
            · simp only [Act.put, List.setIfInBounds_toArray, List.set_cons_zero, List.set_cons_succ, i64_w, i32_w]
              rfl
            refine take_ (i := 3) (N := some 29) (v := ?_) (a' := ?_) #[true, false, true, true, true, false, false, false, false, false, false, false, false] rfl rfl (take_ofW HT_.out HW_.out (by kernel_rfl)) (fun _ _ _ h => h) (Or.inl ⟨by rfl, ?_⟩) hHeld ?_ ?_
            rotate_left
            · rintro w' ⟨s0, s1, s2, s3, s4, s5⟩
              go_simp
              with_reducible rfl
            rotate_left
            · simp only [Act.put, List.setIfInBounds_toArray, List.set_cons_zero, List.set_cons_succ, i64_w, i32_w]
              rfl
            refine take_ (i := 5) (N := some 31) (v := ?_) (a' := ?_) #[true, false, true, true, true, true, false, false, false, false, false, false, false] rfl rfl (take_ofW HT_.out HW_.out (by kernel_rfl)) (fun _ _ _ h => h) (Or.inl ⟨by rfl, ?_⟩) hHeld ?_ ?_
            rotate_left
            · rintro w' ⟨s0, s1, s2, s3, s4, s5⟩
              go_simp
              with_reducible rfl
            rotate_left
            · simp only [Act.put, List.setIfInBounds_toArray, List.set_cons_zero, List.set_cons_succ, i64_w, i32_w]
              rfl
            refine join_ (σ := Nat) 2 #[true, true, true, true, true, true, true, true, true, true, true, false, false] (fun s_ => [(27, .agg #[.int .i64 t385, .int .i64 t386, .int .i64 t387]), (32, .tuple #[.agg #[.bool t388, .int .i64 t389, .int .i64 t390, .int .i64 t391, .int .i64 t392, .int .i64 t393], .int .i64 t394]), (5, .pointer (some ⟨s_, 0, none⟩)), (25, .tuple #[.agg #[.bool t388, .int .i64 t389, .int .i64 t390, .int .i64 t391, .int .i64 t392, .int .i64 t393], .int .i64 t394]), (33, .agg #[.bool t388, .int .i64 t389, .int .i64 t390, .int .i64 t391, .int .i64 t392, .int .i64 t393]), (34, .int .i64 t394)]) (fun s_ w' => (w'.cell? ⟨gb380, 0, none⟩ = some (.bool a0_0) ∧ w'.cell? ⟨gb380, 1, none⟩ = some (.int .i64 a0_1) ∧ w'.cell? ⟨gb380, 2, none⟩ = some (.int .i64 a0_2) ∧ w'.cell? ⟨gb380, 3, none⟩ = some (.int .i64 a0_3) ∧ w'.cell? ⟨gb380, 4, none⟩ = some (.int .i64 a0_4) ∧ w'.cell? ⟨gb380, 5, none⟩ = some (.int .i64 a0_5)) ∧ (w'.heap[gb380]? = some (.cells #[.bool a0_0, .int .i64 a0_1, .int .i64 a0_2, .int .i64 a0_3, .int .i64 a0_4, .int .i64 a0_5] 23 (0, 0))) ∧ (w'.heap[gb381]? = some (.cells #[.bool a1_0, .int .i64 a1_1, .int .i64 a1_2, .int .i64 a1_3, .int .i64 a1_4, .int .i64 a1_5] 23 (0, 0))) ∧ (w'.heap[s_]? = some (.cells #[.bool false, .int .i64 0, .int .i64 0, .int .i64 0, .int .i64 0, .int .i64 0] 23 (0, 0))) ∧ (w.heap.size ≤ s_) ∧ (w.heap.size ≤ s_) ∧ (gb380 ≠ s_) ∧ (s_ ≠ gb380) ∧ (gb381 ≠ s_) ∧ (s_ ≠ gb381) ∧ (Below w.heap.size w w')) ?_ ?_
            rotate_left
            · intro hCont
              refine two_ (i := 1) (j := 10) (Ni := some 27) (Nj := some 5) #[true, true, true, true, true, true, false, false, false, false, false, false, false] #[true, false, true, true, true, true, false, false, false, false, true, false, false] rfl rfl rfl rfl (two_of HT_.out (by kernel_rfl)) (by decide) (by decide) (fun K hK => ?_) (fun K hK => ?_)
              · skip
                refine goes_ Try.func16 (by kernel_rfl) rfl #[.agg #[.bool a0_0, .int .i64 a0_1, .int .i64 a0_2, .int .i64 a0_3, .int .i64 a0_4, .int .i64 a0_5]] (by rfl) rfl rfl (by (try simp only [List.map_toArray, List.map_cons, List.map_nil]); first | done | rfl | (simp only [List.length_drop, List.length_take]; rfl)) ?_
                with_reducible refine (height_Level.calls kj2 a0_0 a0_1 a0_2 a0_3 a0_4 a0_5 t385 t386 t387 _ A35.out).mono ?_
                rintro e w69 ⟨rfl, hb⟩
                refine ⟨_, rfl, ?_⟩
                have n0_ := Aside0.mk (blk_below (g := gb380) (o := .cells #[.bool a0_0, .int .i64 a0_1, .int .i64 a0_2, .int .i64 a0_3, .int .i64 a0_4, .int .i64 a0_5] 23 (0, 0)) (by (with_reducible repeat (first | refine blk_drewN ?_ _ | refine blk_drew ?_ | refine blk_alloc ?_ _)); exact BK380.out) hb)
                have n1_ := Aside0.mk (blk_below (g := gb381) (o := .cells #[.bool a1_0, .int .i64 a1_1, .int .i64 a1_2, .int .i64 a1_3, .int .i64 a1_4, .int .i64 a1_5] 23 (0, 0)) (by (with_reducible repeat (first | refine blk_drewN ?_ _ | refine blk_drew ?_ | refine blk_alloc ?_ _)); exact BK381.out) hb)
                have n2_ := Aside0.mk (below_step (by repeat (first | (with_reducible first | exact HB.out | apply below_alloc | apply pw_below_drewN | apply below_drew1 | refine below_set ?_ GE380.out | refine below_set ?_ GE381.out) | exact HB.out)) hb)
                clear BK380
                clear BK381
                clear HB
                have BK380 := n0_
                have BK381 := n1_
                have HB := n2_
                clear n0_ n1_ n2_
                (try clear hb)
                (try clear hb2)
                (try clear hk)
                (try clear hi)
                refine hK.out _ _ ⟨(blk_cell BK380.out 0).trans rfl, (blk_cell BK380.out 1).trans rfl, (blk_cell BK380.out 2).trans rfl, (blk_cell BK380.out 3).trans rfl, (blk_cell BK380.out 4).trans rfl, (blk_cell BK380.out 5).trans rfl⟩ (fun hHeld => ?_)
                clear hK K
                refine norm_ (a' := ?_) ?_ ?_
                rotate_left
                · show Act.put _ (some 27) _ = _
                  simp only [Act.put, List.setIfInBounds_toArray, List.set_cons_zero, List.set_cons_succ, i64_w, i32_w]
                  rfl
                refine two_ (i := 6) (j := 10) (Ni := some 32) (Nj := some 5) #[true, true, true, true, true, true, true, false, false, false, false, false, false] #[true, true, true, true, true, true, false, false, false, false, true, false, false] rfl rfl rfl rfl (two_of HT_.out (by kernel_rfl)) (by decide) (by decide) (fun K hK => ?_) (fun K hK => ?_)
                · skip
                  refine goes_ Try.func8 (by kernel_rfl) rfl #[.agg #[.int .i64 t385, .int .i64 t386, .int .i64 t387], .int .i64 a0_4, .int .i64 a0_5] (by rfl) rfl rfl (by (try simp only [List.map_toArray, List.map_cons, List.map_nil]); first | done | rfl | (simp only [List.length_drop, List.length_take]; rfl)) ?_
                  with_reducible refine (height_At.calls kj2 t385 t386 t387 a0_4 a0_5 t388 t389 t390 t391 t392 t393 t394 _ A36.out).mono ?_
                  rintro e w70 ⟨rfl, hb⟩
                  refine ⟨_, rfl, ?_⟩
                  have n0_ := Aside0.mk (blk_below (g := gb380) (o := .cells #[.bool a0_0, .int .i64 a0_1, .int .i64 a0_2, .int .i64 a0_3, .int .i64 a0_4, .int .i64 a0_5] 23 (0, 0)) (by (with_reducible repeat (first | refine blk_drewN ?_ _ | refine blk_drew ?_ | refine blk_alloc ?_ _)); exact BK380.out) hb)
                  have n1_ := Aside0.mk (blk_below (g := gb381) (o := .cells #[.bool a1_0, .int .i64 a1_1, .int .i64 a1_2, .int .i64 a1_3, .int .i64 a1_4, .int .i64 a1_5] 23 (0, 0)) (by (with_reducible repeat (first | refine blk_drewN ?_ _ | refine blk_drew ?_ | refine blk_alloc ?_ _)); exact BK381.out) hb)
                  have n2_ := Aside0.mk (below_step (by repeat (first | (with_reducible first | exact HB.out | apply below_alloc | apply pw_below_drewN | apply below_drew1 | refine below_set ?_ GE380.out | refine below_set ?_ GE381.out) | exact HB.out)) hb)
                  clear BK380
                  clear BK381
                  clear HB
                  have BK380 := n0_
                  have BK381 := n1_
                  have HB := n2_
                  clear n0_ n1_ n2_
                  (try clear hb)
                  (try clear hb2)
                  (try clear hk)
                  (try clear hi)
                  refine hK.out _ _ ⟨(blk_cell BK380.out 0).trans rfl, (blk_cell BK380.out 1).trans rfl, (blk_cell BK380.out 2).trans rfl, (blk_cell BK380.out 3).trans rfl, (blk_cell BK380.out 4).trans rfl, (blk_cell BK380.out 5).trans rfl⟩ (fun hHeld => ?_)
                  clear hK K
                  refine norm_ (a' := ?_) ?_ ?_
                  rotate_left
                  · show Act.put _ (some 32) _ = _
                    simp only [Act.put, List.setIfInBounds_toArray, List.set_cons_zero, List.set_cons_succ, i64_w, i32_w]
                    rfl
                  refine pure_ (i := 7) (N := some 25) (v := ?_) (a' := ?_) #[true, true, true, true, true, true, true, true, false, false, false, false, false] rfl rfl (any_of HT_.out (by kernel_rfl)) (fun _ _ _ h => h) (Or.inl ⟨by rfl, ?_⟩) ?_ ?_
                  rotate_left
                  · intro w'
                    go_simp
                    with_reducible rfl
                  rotate_left
                  · simp only [Act.put, List.setIfInBounds_toArray, List.set_cons_zero, List.set_cons_succ, i64_w, i32_w]
                    rfl
                  refine pure_ (i := 8) (N := some 33) (v := ?_) (a' := ?_) #[true, true, true, true, true, true, true, true, true, false, false, false, false] rfl rfl (any_of HT_.out (by kernel_rfl)) (fun _ _ _ h => h) (Or.inl ⟨by rfl, ?_⟩) ?_ ?_
                  rotate_left
                  · intro w'
                    go_simp
                    with_reducible rfl
                  rotate_left
                  · simp only [Act.put, List.setIfInBounds_toArray, List.set_cons_zero, List.set_cons_succ, i64_w, i32_w]
                    rfl
                  refine pure_ (i := 9) (N := some 34) (v := ?_) (a' := ?_) #[true, true, true, true, true, true, true, true, true, true, false, false, false] rfl rfl (any_of HT_.out (by kernel_rfl)) (fun _ _ _ h => h) (Or.inl ⟨by rfl, ?_⟩) ?_ ?_
                  rotate_left
                  · intro w'
                    go_simp
                    with_reducible rfl
                  rotate_left
                  · simp only [Act.put, List.setIfInBounds_toArray, List.set_cons_zero, List.set_cons_succ, i64_w, i32_w]
                    rfl
                  refine one_ (i := 10) (N := some 5) #[true, true, true, true, true, true, true, true, true, true, true, false, false] rfl rfl (one_of HT_.out (by kernel_rfl)) (by decide) (fun K hK => ?_)
                  refine box_step ?hg (N := 5) ?hd (cs := #[.bool false, .int .i64 0, .int .i64 0, .int .i64 0, .int .i64 0, .int .i64 0]) (t := 23) ?hr ?_; (case hd => rfl); (case hg => rfl); (case hr => first | (go_simp; done) | (go_simp; rfl))
                  intro gb395 hg w71 hbox hb
                  have n0_ := Aside0.mk (blk_below (g := gb380) (o := .cells #[.bool a0_0, .int .i64 a0_1, .int .i64 a0_2, .int .i64 a0_3, .int .i64 a0_4, .int .i64 a0_5] 23 (0, 0)) (by (with_reducible repeat (first | refine blk_drewN ?_ _ | refine blk_drew ?_ | refine blk_alloc ?_ _)); exact BK380.out) hb)
                  have n1_ := Aside0.mk (blk_below (g := gb381) (o := .cells #[.bool a1_0, .int .i64 a1_1, .int .i64 a1_2, .int .i64 a1_3, .int .i64 a1_4, .int .i64 a1_5] 23 (0, 0)) (by (with_reducible repeat (first | refine blk_drewN ?_ _ | refine blk_drew ?_ | refine blk_alloc ?_ _)); exact BK381.out) hb)
                  have n2_ := Aside0.mk (below_step (by repeat (first | (with_reducible first | exact HB.out | apply below_alloc | apply pw_below_drewN | apply below_drew1 | refine below_set ?_ GE380.out | refine below_set ?_ GE381.out) | exact HB.out)) hb)
                  have n3_ := Aside0.mk (hbox)
                  have n4_ := Aside0.mk ((by rw [hg]; exact (below_size (by repeat (first | (with_reducible first | exact HB.out | apply below_alloc | apply pw_below_drewN | apply below_drew1 | refine below_set ?_ GE380.out | refine below_set ?_ GE381.out) | exact HB.out))) : w.heap.size ≤ gb395))
                  have n5_ := Aside0.mk ((by rw [hg]; exact (below_size (by repeat (first | (with_reducible first | exact HB.out | apply below_alloc | apply pw_below_drewN | apply below_drew1 | refine below_set ?_ GE380.out | refine below_set ?_ GE381.out) | exact HB.out))) : w.heap.size ≤ gb395))
                  have n6_ := Aside0.mk ((by rw [hg]; exact Nat.ne_of_lt (blk_lt (g := gb380) (o := .cells #[.bool a0_0, .int .i64 a0_1, .int .i64 a0_2, .int .i64 a0_3, .int .i64 a0_4, .int .i64 a0_5] 23 (0, 0)) (by (with_reducible repeat (first | refine blk_drewN ?_ _ | refine blk_drew ?_ | refine blk_alloc ?_ _)); exact BK380.out)) : gb380 ≠ gb395))
                  have n7_ := Aside0.mk ((by rw [hg]; exact Nat.ne_of_gt (blk_lt (g := gb380) (o := .cells #[.bool a0_0, .int .i64 a0_1, .int .i64 a0_2, .int .i64 a0_3, .int .i64 a0_4, .int .i64 a0_5] 23 (0, 0)) (by (with_reducible repeat (first | refine blk_drewN ?_ _ | refine blk_drew ?_ | refine blk_alloc ?_ _)); exact BK380.out)) : gb395 ≠ gb380))
                  have n8_ := Aside0.mk ((by rw [hg]; exact Nat.ne_of_lt (blk_lt (g := gb381) (o := .cells #[.bool a1_0, .int .i64 a1_1, .int .i64 a1_2, .int .i64 a1_3, .int .i64 a1_4, .int .i64 a1_5] 23 (0, 0)) (by (with_reducible repeat (first | refine blk_drewN ?_ _ | refine blk_drew ?_ | refine blk_alloc ?_ _)); exact BK381.out)) : gb381 ≠ gb395))
                  have n9_ := Aside0.mk ((by rw [hg]; exact Nat.ne_of_gt (blk_lt (g := gb381) (o := .cells #[.bool a1_0, .int .i64 a1_1, .int .i64 a1_2, .int .i64 a1_3, .int .i64 a1_4, .int .i64 a1_5] 23 (0, 0)) (by (with_reducible repeat (first | refine blk_drewN ?_ _ | refine blk_drew ?_ | refine blk_alloc ?_ _)); exact BK381.out)) : gb395 ≠ gb381))
                  clear BK380
                  clear BK381
                  clear HB
                  have BK380 := n0_
                  have BK381 := n1_
                  have HB := n2_
                  have BK395 := n3_
                  have GW395 := n4_
                  have GE395 := n5_
                  have NB380_395 := n6_
                  have NB395_380 := n7_
                  have NB381_395 := n8_
                  have NB395_381 := n9_
                  clear n0_ n1_ n2_ n3_ n4_ n5_ n6_ n7_ n8_ n9_
                  clear hb hbox hg
                  refine hK.out _ _ ⟨(blk_cell BK380.out 0).trans rfl, (blk_cell BK380.out 1).trans rfl, (blk_cell BK380.out 2).trans rfl, (blk_cell BK380.out 3).trans rfl, (blk_cell BK380.out 4).trans rfl, (blk_cell BK380.out 5).trans rfl⟩ (fun hHeld => ?_)
                  clear hK K
                  refine norm_ (a' := ?_) ?_ ?_
                  rotate_left
                  · show Act.put _ (some 5) _ = _
                    simp only [Act.put, List.setIfInBounds_toArray, List.set_cons_zero, List.set_cons_succ, i64_w, i32_w]
                    rfl
                  exact norm_ (by simp only [putAll, Act.put, List.setIfInBounds_toArray, List.set_cons_zero, List.set_cons_succ]) (hCont (gb395) _ ⟨hHeld, (by (with_reducible repeat (first | refine blk_drewN ?_ _ | refine blk_drew ?_ | refine blk_alloc ?_ _)); exact BK380.out), (by (with_reducible repeat (first | refine blk_drewN ?_ _ | refine blk_drew ?_ | refine blk_alloc ?_ _)); exact BK381.out), (by (with_reducible repeat (first | refine blk_drewN ?_ _ | refine blk_drew ?_ | refine blk_alloc ?_ _)); exact BK395.out), GW395.out, GE395.out, NB380_395.out, NB395_380.out, NB381_395.out, NB395_381.out, (by repeat (first | (with_reducible first | exact HB.out | apply below_alloc | apply pw_below_drewN | apply below_drew1 | refine below_set ?_ GE380.out | refine below_set ?_ GE381.out | refine below_set ?_ GE395.out) | exact HB.out))⟩)
                · skip
                  refine box_step ?hg (N := 5) ?hd (cs := #[.bool false, .int .i64 0, .int .i64 0, .int .i64 0, .int .i64 0, .int .i64 0]) (t := 23) ?hr ?_; (case hd => rfl); (case hg => rfl); (case hr => first | (go_simp; done) | (go_simp; rfl))
                  intro gb395 hg w70 hbox hb
                  have n0_ := Aside0.mk (blk_below (g := gb380) (o := .cells #[.bool a0_0, .int .i64 a0_1, .int .i64 a0_2, .int .i64 a0_3, .int .i64 a0_4, .int .i64 a0_5] 23 (0, 0)) (by (with_reducible repeat (first | refine blk_drewN ?_ _ | refine blk_drew ?_ | refine blk_alloc ?_ _)); exact BK380.out) hb)
                  have n1_ := Aside0.mk (blk_below (g := gb381) (o := .cells #[.bool a1_0, .int .i64 a1_1, .int .i64 a1_2, .int .i64 a1_3, .int .i64 a1_4, .int .i64 a1_5] 23 (0, 0)) (by (with_reducible repeat (first | refine blk_drewN ?_ _ | refine blk_drew ?_ | refine blk_alloc ?_ _)); exact BK381.out) hb)
                  have n2_ := Aside0.mk (below_step (by repeat (first | (with_reducible first | exact HB.out | apply below_alloc | apply pw_below_drewN | apply below_drew1 | refine below_set ?_ GE380.out | refine below_set ?_ GE381.out) | exact HB.out)) hb)
                  have n3_ := Aside0.mk (hbox)
                  have n4_ := Aside0.mk ((by rw [hg]; exact (below_size (by repeat (first | (with_reducible first | exact HB.out | apply below_alloc | apply pw_below_drewN | apply below_drew1 | refine below_set ?_ GE380.out | refine below_set ?_ GE381.out) | exact HB.out))) : w.heap.size ≤ gb395))
                  have n5_ := Aside0.mk ((by rw [hg]; exact (below_size (by repeat (first | (with_reducible first | exact HB.out | apply below_alloc | apply pw_below_drewN | apply below_drew1 | refine below_set ?_ GE380.out | refine below_set ?_ GE381.out) | exact HB.out))) : w.heap.size ≤ gb395))
                  have n6_ := Aside0.mk ((by rw [hg]; exact Nat.ne_of_lt (blk_lt (g := gb380) (o := .cells #[.bool a0_0, .int .i64 a0_1, .int .i64 a0_2, .int .i64 a0_3, .int .i64 a0_4, .int .i64 a0_5] 23 (0, 0)) (by (with_reducible repeat (first | refine blk_drewN ?_ _ | refine blk_drew ?_ | refine blk_alloc ?_ _)); exact BK380.out)) : gb380 ≠ gb395))
                  have n7_ := Aside0.mk ((by rw [hg]; exact Nat.ne_of_gt (blk_lt (g := gb380) (o := .cells #[.bool a0_0, .int .i64 a0_1, .int .i64 a0_2, .int .i64 a0_3, .int .i64 a0_4, .int .i64 a0_5] 23 (0, 0)) (by (with_reducible repeat (first | refine blk_drewN ?_ _ | refine blk_drew ?_ | refine blk_alloc ?_ _)); exact BK380.out)) : gb395 ≠ gb380))
                  have n8_ := Aside0.mk ((by rw [hg]; exact Nat.ne_of_lt (blk_lt (g := gb381) (o := .cells #[.bool a1_0, .int .i64 a1_1, .int .i64 a1_2, .int .i64 a1_3, .int .i64 a1_4, .int .i64 a1_5] 23 (0, 0)) (by (with_reducible repeat (first | refine blk_drewN ?_ _ | refine blk_drew ?_ | refine blk_alloc ?_ _)); exact BK381.out)) : gb381 ≠ gb395))
                  have n9_ := Aside0.mk ((by rw [hg]; exact Nat.ne_of_gt (blk_lt (g := gb381) (o := .cells #[.bool a1_0, .int .i64 a1_1, .int .i64 a1_2, .int .i64 a1_3, .int .i64 a1_4, .int .i64 a1_5] 23 (0, 0)) (by (with_reducible repeat (first | refine blk_drewN ?_ _ | refine blk_drew ?_ | refine blk_alloc ?_ _)); exact BK381.out)) : gb395 ≠ gb381))
                  clear BK380
                  clear BK381
                  clear HB
                  have BK380 := n0_
                  have BK381 := n1_
                  have HB := n2_
                  have BK395 := n3_
                  have GW395 := n4_
                  have GE395 := n5_
                  have NB380_395 := n6_
                  have NB395_380 := n7_
                  have NB381_395 := n8_
                  have NB395_381 := n9_
                  clear n0_ n1_ n2_ n3_ n4_ n5_ n6_ n7_ n8_ n9_
                  clear hb hbox hg
                  refine hK.out _ _ ⟨(blk_cell BK380.out 0).trans rfl, (blk_cell BK380.out 1).trans rfl, (blk_cell BK380.out 2).trans rfl, (blk_cell BK380.out 3).trans rfl, (blk_cell BK380.out 4).trans rfl, (blk_cell BK380.out 5).trans rfl⟩ (fun hHeld => ?_)
                  clear hK K
                  refine norm_ (a' := ?_) ?_ ?_
                  rotate_left
                  · show Act.put _ (some 5) _ = _
                    simp only [Act.put, List.setIfInBounds_toArray, List.set_cons_zero, List.set_cons_succ, i64_w, i32_w]
                    rfl
                  refine one_ (i := 6) (N := some 32) #[true, true, true, true, true, true, true, false, false, false, true, false, false] rfl rfl (one_of HT_.out (by kernel_rfl)) (by decide) (fun K hK => ?_)
                  refine goes_ Try.func8 (by kernel_rfl) rfl #[.agg #[.int .i64 t385, .int .i64 t386, .int .i64 t387], .int .i64 a0_4, .int .i64 a0_5] (by rfl) rfl rfl (by (try simp only [List.map_toArray, List.map_cons, List.map_nil]); first | done | rfl | (simp only [List.length_drop, List.length_take]; rfl)) ?_
                  with_reducible refine (height_At.calls kj2 t385 t386 t387 a0_4 a0_5 t388 t389 t390 t391 t392 t393 t394 _ A36.out).mono ?_
                  rintro e w71 ⟨rfl, hb⟩
                  refine ⟨_, rfl, ?_⟩
                  have n0_ := Aside0.mk (blk_below (g := gb380) (o := .cells #[.bool a0_0, .int .i64 a0_1, .int .i64 a0_2, .int .i64 a0_3, .int .i64 a0_4, .int .i64 a0_5] 23 (0, 0)) (by (with_reducible repeat (first | refine blk_drewN ?_ _ | refine blk_drew ?_ | refine blk_alloc ?_ _)); exact BK380.out) hb)
                  have n1_ := Aside0.mk (blk_below (g := gb381) (o := .cells #[.bool a1_0, .int .i64 a1_1, .int .i64 a1_2, .int .i64 a1_3, .int .i64 a1_4, .int .i64 a1_5] 23 (0, 0)) (by (with_reducible repeat (first | refine blk_drewN ?_ _ | refine blk_drew ?_ | refine blk_alloc ?_ _)); exact BK381.out) hb)
                  have n2_ := Aside0.mk (blk_below (g := gb395) (o := .cells #[.bool false, .int .i64 0, .int .i64 0, .int .i64 0, .int .i64 0, .int .i64 0] 23 (0, 0)) (by (with_reducible repeat (first | refine blk_drewN ?_ _ | refine blk_drew ?_ | refine blk_alloc ?_ _)); exact BK395.out) hb)
                  have n3_ := Aside0.mk (below_step (by repeat (first | (with_reducible first | exact HB.out | apply below_alloc | apply pw_below_drewN | apply below_drew1 | refine below_set ?_ GE380.out | refine below_set ?_ GE381.out | refine below_set ?_ GE395.out) | exact HB.out)) hb)
                  clear BK380
                  clear BK381
                  clear BK395
                  clear HB
                  have BK380 := n0_
                  have BK381 := n1_
                  have BK395 := n2_
                  have HB := n3_
                  clear n0_ n1_ n2_ n3_
                  (try clear hb)
                  (try clear hb2)
                  (try clear hk)
                  (try clear hi)
                  refine hK.out _ _ ⟨(blk_cell BK380.out 0).trans rfl, (blk_cell BK380.out 1).trans rfl, (blk_cell BK380.out 2).trans rfl, (blk_cell BK380.out 3).trans rfl, (blk_cell BK380.out 4).trans rfl, (blk_cell BK380.out 5).trans rfl⟩ (fun hHeld => ?_)
                  clear hK K
                  refine norm_ (a' := ?_) ?_ ?_
                  rotate_left
                  · show Act.put _ (some 32) _ = _
                    simp only [Act.put, List.setIfInBounds_toArray, List.set_cons_zero, List.set_cons_succ, i64_w, i32_w]
                    rfl
                  refine pure_ (i := 7) (N := some 25) (v := ?_) (a' := ?_) #[true, true, true, true, true, true, true, true, false, false, true, false, false] rfl rfl (any_of HT_.out (by kernel_rfl)) (fun _ _ _ h => h) (Or.inl ⟨by rfl, ?_⟩) ?_ ?_
                  rotate_left
                  · intro w'
                    go_simp
                    with_reducible rfl
                  rotate_left
                  · simp only [Act.put, List.setIfInBounds_toArray, List.set_cons_zero, List.set_cons_succ, i64_w, i32_w]
                    rfl
                  refine pure_ (i := 8) (N := some 33) (v := ?_) (a' := ?_) #[true, true, true, true, true, true, true, true, true, false, true, false, false] rfl rfl (any_of HT_.out (by kernel_rfl)) (fun _ _ _ h => h) (Or.inl ⟨by rfl, ?_⟩) ?_ ?_
                  rotate_left
                  · intro w'
                    go_simp
                    with_reducible rfl
                  rotate_left
                  · simp only [Act.put, List.setIfInBounds_toArray, List.set_cons_zero, List.set_cons_succ, i64_w, i32_w]
                    rfl
                  refine pure_ (i := 9) (N := some 34) (v := ?_) (a' := ?_) #[true, true, true, true, true, true, true, true, true, true, true, false, false] rfl rfl (any_of HT_.out (by kernel_rfl)) (fun _ _ _ h => h) (Or.inl ⟨by rfl, ?_⟩) ?_ ?_
                  rotate_left
                  · intro w'
                    go_simp
                    with_reducible rfl
                  rotate_left
                  · simp only [Act.put, List.setIfInBounds_toArray, List.set_cons_zero, List.set_cons_succ, i64_w, i32_w]
                    rfl
                  exact norm_ (by simp only [putAll, Act.put, List.setIfInBounds_toArray, List.set_cons_zero, List.set_cons_succ]) (hCont (gb395) _ ⟨hHeld, (by (with_reducible repeat (first | refine blk_drewN ?_ _ | refine blk_drew ?_ | refine blk_alloc ?_ _)); exact BK380.out), (by (with_reducible repeat (first | refine blk_drewN ?_ _ | refine blk_drew ?_ | refine blk_alloc ?_ _)); exact BK381.out), (by (with_reducible repeat (first | refine blk_drewN ?_ _ | refine blk_drew ?_ | refine blk_alloc ?_ _)); exact BK395.out), GW395.out, GE395.out, NB380_395.out, NB395_380.out, NB381_395.out, NB395_381.out, (by repeat (first | (with_reducible first | exact HB.out | apply below_alloc | apply pw_below_drewN | apply below_drew1 | refine below_set ?_ GE380.out | refine below_set ?_ GE381.out | refine below_set ?_ GE395.out) | exact HB.out))⟩)
              · skip
                refine box_step ?hg (N := 5) ?hd (cs := #[.bool false, .int .i64 0, .int .i64 0, .int .i64 0, .int .i64 0, .int .i64 0]) (t := 23) ?hr ?_; (case hd => rfl); (case hg => rfl); (case hr => first | (go_simp; done) | (go_simp; rfl))
                intro gb395 hg w69 hbox hb
                have n0_ := Aside0.mk (blk_below (g := gb380) (o := .cells #[.bool a0_0, .int .i64 a0_1, .int .i64 a0_2, .int .i64 a0_3, .int .i64 a0_4, .int .i64 a0_5] 23 (0, 0)) (by (with_reducible repeat (first | refine blk_drewN ?_ _ | refine blk_drew ?_ | refine blk_alloc ?_ _)); exact BK380.out) hb)
                have n1_ := Aside0.mk (blk_below (g := gb381) (o := .cells #[.bool a1_0, .int .i64 a1_1, .int .i64 a1_2, .int .i64 a1_3, .int .i64 a1_4, .int .i64 a1_5] 23 (0, 0)) (by (with_reducible repeat (first | refine blk_drewN ?_ _ | refine blk_drew ?_ | refine blk_alloc ?_ _)); exact BK381.out) hb)
                have n2_ := Aside0.mk (below_step (by repeat (first | (with_reducible first | exact HB.out | apply below_alloc | apply pw_below_drewN | apply below_drew1 | refine below_set ?_ GE380.out | refine below_set ?_ GE381.out) | exact HB.out)) hb)
                have n3_ := Aside0.mk (hbox)
                have n4_ := Aside0.mk ((by rw [hg]; exact (below_size (by repeat (first | (with_reducible first | exact HB.out | apply below_alloc | apply pw_below_drewN | apply below_drew1 | refine below_set ?_ GE380.out | refine below_set ?_ GE381.out) | exact HB.out))) : w.heap.size ≤ gb395))
                have n5_ := Aside0.mk ((by rw [hg]; exact (below_size (by repeat (first | (with_reducible first | exact HB.out | apply below_alloc | apply pw_below_drewN | apply below_drew1 | refine below_set ?_ GE380.out | refine below_set ?_ GE381.out) | exact HB.out))) : w.heap.size ≤ gb395))
                have n6_ := Aside0.mk ((by rw [hg]; exact Nat.ne_of_lt (blk_lt (g := gb380) (o := .cells #[.bool a0_0, .int .i64 a0_1, .int .i64 a0_2, .int .i64 a0_3, .int .i64 a0_4, .int .i64 a0_5] 23 (0, 0)) (by (with_reducible repeat (first | refine blk_drewN ?_ _ | refine blk_drew ?_ | refine blk_alloc ?_ _)); exact BK380.out)) : gb380 ≠ gb395))
                have n7_ := Aside0.mk ((by rw [hg]; exact Nat.ne_of_gt (blk_lt (g := gb380) (o := .cells #[.bool a0_0, .int .i64 a0_1, .int .i64 a0_2, .int .i64 a0_3, .int .i64 a0_4, .int .i64 a0_5] 23 (0, 0)) (by (with_reducible repeat (first | refine blk_drewN ?_ _ | refine blk_drew ?_ | refine blk_alloc ?_ _)); exact BK380.out)) : gb395 ≠ gb380))
                have n8_ := Aside0.mk ((by rw [hg]; exact Nat.ne_of_lt (blk_lt (g := gb381) (o := .cells #[.bool a1_0, .int .i64 a1_1, .int .i64 a1_2, .int .i64 a1_3, .int .i64 a1_4, .int .i64 a1_5] 23 (0, 0)) (by (with_reducible repeat (first | refine blk_drewN ?_ _ | refine blk_drew ?_ | refine blk_alloc ?_ _)); exact BK381.out)) : gb381 ≠ gb395))
                have n9_ := Aside0.mk ((by rw [hg]; exact Nat.ne_of_gt (blk_lt (g := gb381) (o := .cells #[.bool a1_0, .int .i64 a1_1, .int .i64 a1_2, .int .i64 a1_3, .int .i64 a1_4, .int .i64 a1_5] 23 (0, 0)) (by (with_reducible repeat (first | refine blk_drewN ?_ _ | refine blk_drew ?_ | refine blk_alloc ?_ _)); exact BK381.out)) : gb395 ≠ gb381))
                clear BK380
                clear BK381
                clear HB
                have BK380 := n0_
                have BK381 := n1_
                have HB := n2_
                have BK395 := n3_
                have GW395 := n4_
                have GE395 := n5_
                have NB380_395 := n6_
                have NB395_380 := n7_
                have NB381_395 := n8_
                have NB395_381 := n9_
                clear n0_ n1_ n2_ n3_ n4_ n5_ n6_ n7_ n8_ n9_
                clear hb hbox hg
                refine hK.out _ _ ⟨(blk_cell BK380.out 0).trans rfl, (blk_cell BK380.out 1).trans rfl, (blk_cell BK380.out 2).trans rfl, (blk_cell BK380.out 3).trans rfl, (blk_cell BK380.out 4).trans rfl, (blk_cell BK380.out 5).trans rfl⟩ (fun hHeld => ?_)
                clear hK K
                refine norm_ (a' := ?_) ?_ ?_
                rotate_left
                · show Act.put _ (some 5) _ = _
                  simp only [Act.put, List.setIfInBounds_toArray, List.set_cons_zero, List.set_cons_succ, i64_w, i32_w]
                  rfl
                refine one_ (i := 1) (N := some 27) #[true, true, true, true, true, true, false, false, false, false, true, false, false] rfl rfl (one_of HT_.out (by kernel_rfl)) (by decide) (fun K hK => ?_)
                refine goes_ Try.func16 (by kernel_rfl) rfl #[.agg #[.bool a0_0, .int .i64 a0_1, .int .i64 a0_2, .int .i64 a0_3, .int .i64 a0_4, .int .i64 a0_5]] (by rfl) rfl rfl (by (try simp only [List.map_toArray, List.map_cons, List.map_nil]); first | done | rfl | (simp only [List.length_drop, List.length_take]; rfl)) ?_
                with_reducible refine (height_Level.calls kj2 a0_0 a0_1 a0_2 a0_3 a0_4 a0_5 t385 t386 t387 _ A35.out).mono ?_
                rintro e w70 ⟨rfl, hb⟩
                refine ⟨_, rfl, ?_⟩
                have n0_ := Aside0.mk (blk_below (g := gb380) (o := .cells #[.bool a0_0, .int .i64 a0_1, .int .i64 a0_2, .int .i64 a0_3, .int .i64 a0_4, .int .i64 a0_5] 23 (0, 0)) (by (with_reducible repeat (first | refine blk_drewN ?_ _ | refine blk_drew ?_ | refine blk_alloc ?_ _)); exact BK380.out) hb)
                have n1_ := Aside0.mk (blk_below (g := gb381) (o := .cells #[.bool a1_0, .int .i64 a1_1, .int .i64 a1_2, .int .i64 a1_3, .int .i64 a1_4, .int .i64 a1_5] 23 (0, 0)) (by (with_reducible repeat (first | refine blk_drewN ?_ _ | refine blk_drew ?_ | refine blk_alloc ?_ _)); exact BK381.out) hb)
                have n2_ := Aside0.mk (blk_below (g := gb395) (o := .cells #[.bool false, .int .i64 0, .int .i64 0, .int .i64 0, .int .i64 0, .int .i64 0] 23 (0, 0)) (by (with_reducible repeat (first | refine blk_drewN ?_ _ | refine blk_drew ?_ | refine blk_alloc ?_ _)); exact BK395.out) hb)
                have n3_ := Aside0.mk (below_step (by repeat (first | (with_reducible first | exact HB.out | apply below_alloc | apply pw_below_drewN | apply below_drew1 | refine below_set ?_ GE380.out | refine below_set ?_ GE381.out | refine below_set ?_ GE395.out) | exact HB.out)) hb)
                clear BK380
                clear BK381
                clear BK395
                clear HB
                have BK380 := n0_
                have BK381 := n1_
                have BK395 := n2_
                have HB := n3_
                clear n0_ n1_ n2_ n3_
                (try clear hb)
                (try clear hb2)
                (try clear hk)
                (try clear hi)
                refine hK.out _ _ ⟨(blk_cell BK380.out 0).trans rfl, (blk_cell BK380.out 1).trans rfl, (blk_cell BK380.out 2).trans rfl, (blk_cell BK380.out 3).trans rfl, (blk_cell BK380.out 4).trans rfl, (blk_cell BK380.out 5).trans rfl⟩ (fun hHeld => ?_)
                clear hK K
                refine norm_ (a' := ?_) ?_ ?_
                rotate_left
                · show Act.put _ (some 27) _ = _
                  simp only [Act.put, List.setIfInBounds_toArray, List.set_cons_zero, List.set_cons_succ, i64_w, i32_w]
                  rfl
                refine one_ (i := 6) (N := some 32) #[true, true, true, true, true, true, true, false, false, false, true, false, false] rfl rfl (one_of HT_.out (by kernel_rfl)) (by decide) (fun K hK => ?_)
                refine goes_ Try.func8 (by kernel_rfl) rfl #[.agg #[.int .i64 t385, .int .i64 t386, .int .i64 t387], .int .i64 a0_4, .int .i64 a0_5] (by rfl) rfl rfl (by (try simp only [List.map_toArray, List.map_cons, List.map_nil]); first | done | rfl | (simp only [List.length_drop, List.length_take]; rfl)) ?_
                with_reducible refine (height_At.calls kj2 t385 t386 t387 a0_4 a0_5 t388 t389 t390 t391 t392 t393 t394 _ A36.out).mono ?_
                rintro e w71 ⟨rfl, hb⟩
                refine ⟨_, rfl, ?_⟩
                have n0_ := Aside0.mk (blk_below (g := gb380) (o := .cells #[.bool a0_0, .int .i64 a0_1, .int .i64 a0_2, .int .i64 a0_3, .int .i64 a0_4, .int .i64 a0_5] 23 (0, 0)) (by (with_reducible repeat (first | refine blk_drewN ?_ _ | refine blk_drew ?_ | refine blk_alloc ?_ _)); exact BK380.out) hb)
                have n1_ := Aside0.mk (blk_below (g := gb381) (o := .cells #[.bool a1_0, .int .i64 a1_1, .int .i64 a1_2, .int .i64 a1_3, .int .i64 a1_4, .int .i64 a1_5] 23 (0, 0)) (by (with_reducible repeat (first | refine blk_drewN ?_ _ | refine blk_drew ?_ | refine blk_alloc ?_ _)); exact BK381.out) hb)
                have n2_ := Aside0.mk (blk_below (g := gb395) (o := .cells #[.bool false, .int .i64 0, .int .i64 0, .int .i64 0, .int .i64 0, .int .i64 0] 23 (0, 0)) (by (with_reducible repeat (first | refine blk_drewN ?_ _ | refine blk_drew ?_ | refine blk_alloc ?_ _)); exact BK395.out) hb)
                have n3_ := Aside0.mk (below_step (by repeat (first | (with_reducible first | exact HB.out | apply below_alloc | apply pw_below_drewN | apply below_drew1 | refine below_set ?_ GE380.out | refine below_set ?_ GE381.out | refine below_set ?_ GE395.out) | exact HB.out)) hb)
                clear BK380
                clear BK381
                clear BK395
                clear HB
                have BK380 := n0_
                have BK381 := n1_
                have BK395 := n2_
                have HB := n3_
                clear n0_ n1_ n2_ n3_
                (try clear hb)
                (try clear hb2)
                (try clear hk)
                (try clear hi)
                refine hK.out _ _ ⟨(blk_cell BK380.out 0).trans rfl, (blk_cell BK380.out 1).trans rfl, (blk_cell BK380.out 2).trans rfl, (blk_cell BK380.out 3).trans rfl, (blk_cell BK380.out 4).trans rfl, (blk_cell BK380.out 5).trans rfl⟩ (fun hHeld => ?_)
                clear hK K
                refine norm_ (a' := ?_) ?_ ?_
                rotate_left
                · show Act.put _ (some 32) _ = _
                  simp only [Act.put, List.setIfInBounds_toArray, List.set_cons_zero, List.set_cons_succ, i64_w, i32_w]
                  rfl
                refine pure_ (i := 7) (N := some 25) (v := ?_) (a' := ?_) #[true, true, true, true, true, true, true, true, false, false, true, false, false] rfl rfl (any_of HT_.out (by kernel_rfl)) (fun _ _ _ h => h) (Or.inl ⟨by rfl, ?_⟩) ?_ ?_
                rotate_left
                · intro w'
                  go_simp
                  with_reducible rfl
                rotate_left
                · simp only [Act.put, List.setIfInBounds_toArray, List.set_cons_zero, List.set_cons_succ, i64_w, i32_w]
                  rfl
                refine pure_ (i := 8) (N := some 33) (v := ?_) (a' := ?_) #[true, true, true, true, true, true, true, true, true, false, true, false, false] rfl rfl (any_of HT_.out (by kernel_rfl)) (fun _ _ _ h => h) (Or.inl ⟨by rfl, ?_⟩) ?_ ?_
                rotate_left
                · intro w'
                  go_simp
                  with_reducible rfl
                rotate_left
                · simp only [Act.put, List.setIfInBounds_toArray, List.set_cons_zero, List.set_cons_succ, i64_w, i32_w]
                  rfl
                refine pure_ (i := 9) (N := some 34) (v := ?_) (a' := ?_) #[true, true, true, true, true, true, true, true, true, true, true, false, false] rfl rfl (any_of HT_.out (by kernel_rfl)) (fun _ _ _ h => h) (Or.inl ⟨by rfl, ?_⟩) ?_ ?_
                rotate_left
                · intro w'
                  go_simp
                  with_reducible rfl
                rotate_left
                · simp only [Act.put, List.setIfInBounds_toArray, List.set_cons_zero, List.set_cons_succ, i64_w, i32_w]
                  rfl
                exact norm_ (by simp only [putAll, Act.put, List.setIfInBounds_toArray, List.set_cons_zero, List.set_cons_succ]) (hCont (gb395) _ ⟨hHeld, (by (with_reducible repeat (first | refine blk_drewN ?_ _ | refine blk_drew ?_ | refine blk_alloc ?_ _)); exact BK380.out), (by (with_reducible repeat (first | refine blk_drewN ?_ _ | refine blk_drew ?_ | refine blk_alloc ?_ _)); exact BK381.out), (by (with_reducible repeat (first | refine blk_drewN ?_ _ | refine blk_drew ?_ | refine blk_alloc ?_ _)); exact BK395.out), GW395.out, GE395.out, NB380_395.out, NB395_380.out, NB381_395.out, NB395_381.out, (by repeat (first | (with_reducible first | exact HB.out | apply below_alloc | apply pw_below_drewN | apply below_drew1 | refine below_set ?_ GE380.out | refine below_set ?_ GE381.out | refine below_set ?_ GE395.out) | exact HB.out))⟩)
            rintro gb395 w72 ⟨hS_, h0_, h1_, h2_, h3_, h4_, h5_, h6_, h7_, h8_, h9_⟩
            have n0_ : Aside0 (w72.heap[gb380]? = some (.cells #[.bool a0_0, .int .i64 a0_1, .int .i64 a0_2, .int .i64 a0_3, .int .i64 a0_4, .int .i64 a0_5] 23 (0, 0))) := ⟨h0_⟩
            have n1_ : Aside0 (w72.heap[gb381]? = some (.cells #[.bool a1_0, .int .i64 a1_1, .int .i64 a1_2, .int .i64 a1_3, .int .i64 a1_4, .int .i64 a1_5] 23 (0, 0))) := ⟨h1_⟩
            have n2_ : Aside0 (w72.heap[gb395]? = some (.cells #[.bool false, .int .i64 0, .int .i64 0, .int .i64 0, .int .i64 0, .int .i64 0] 23 (0, 0))) := ⟨h2_⟩
            have n3_ : Aside0 (w.heap.size ≤ gb395) := ⟨h3_⟩
            have n4_ : Aside0 (w.heap.size ≤ gb395) := ⟨h4_⟩
            have n5_ : Aside0 (gb380 ≠ gb395) := ⟨h5_⟩
            have n6_ : Aside0 (gb395 ≠ gb380) := ⟨h6_⟩
            have n7_ : Aside0 (gb381 ≠ gb395) := ⟨h7_⟩
            have n8_ : Aside0 (gb395 ≠ gb381) := ⟨h8_⟩
            have n9_ : Aside0 (Below w.heap.size w w72) := ⟨h9_⟩
            clear BK380
            clear BK381
            clear HB
            clear h0_ h1_ h2_ h3_ h4_ h5_ h6_ h7_ h8_ h9_
            have BK380 := n0_
            have BK381 := n1_
            have BK395 := n2_
            have GW395 := n3_
            have GE395 := n4_
            have NB380_395 := n5_
            have NB395_380 := n6_
            have NB381_395 := n7_
            have NB395_381 := n8_
            have HB := n9_
            clear n0_ n1_ n2_ n3_ n4_ n5_ n6_ n7_ n8_ n9_
            have hHeld : w72.cell? ⟨gb380, 0, none⟩ = some (.bool a0_0) ∧ w72.cell? ⟨gb380, 1, none⟩ = some (.int .i64 a0_1) ∧ w72.cell? ⟨gb380, 2, none⟩ = some (.int .i64 a0_2) ∧ w72.cell? ⟨gb380, 3, none⟩ = some (.int .i64 a0_3) ∧ w72.cell? ⟨gb380, 4, none⟩ = some (.int .i64 a0_4) ∧ w72.cell? ⟨gb380, 5, none⟩ = some (.int .i64 a0_5) := hS_
            refine norm_ (a' := ?_) ?_ ?_
            rotate_left
            · simp only [putAll, Act.put, List.setIfInBounds_toArray, List.set_cons_zero, List.set_cons_succ]
              rfl
            refine one_ (i := 11) (N := none) #[true, true, true, true, true, true, true, true, true, true, true, true, false] rfl rfl (one_of HT_.out (by kernel_rfl)) (by decide) (fun K hK => ?_)
            have hs73 : w72.cell? ⟨gb395, 0, none⟩ = some (.bool false) := (blk_cell BK395.out 0).trans rfl
            have hfs73 := blk_frozen BK395.out 0
            have hns73_0 := NB380_395.out
            have hns73_1 := NB381_395.out
            have hms73_0 := NB395_380.out
            have hms73_1 := NB395_381.out
            have hs74 : w72.cell? ⟨gb395, 1, none⟩ = some (.int .i64 0) := (blk_cell BK395.out 1).trans rfl
            have hfs74 := blk_frozen BK395.out 1
            have hns74_0 := NB380_395.out
            have hns74_1 := NB381_395.out
            have hms74_0 := NB395_380.out
            have hms74_1 := NB395_381.out
            have hs75 : w72.cell? ⟨gb395, 2, none⟩ = some (.int .i64 0) := (blk_cell BK395.out 2).trans rfl
            have hfs75 := blk_frozen BK395.out 2
            have hns75_0 := NB380_395.out
            have hns75_1 := NB381_395.out
            have hms75_0 := NB395_380.out
            have hms75_1 := NB395_381.out
            have hs76 : w72.cell? ⟨gb395, 3, none⟩ = some (.int .i64 0) := (blk_cell BK395.out 3).trans rfl
            have hfs76 := blk_frozen BK395.out 3
            have hns76_0 := NB380_395.out
            have hns76_1 := NB381_395.out
            have hms76_0 := NB395_380.out
            have hms76_1 := NB395_381.out
            have hs77 : w72.cell? ⟨gb395, 4, none⟩ = some (.int .i64 0) := (blk_cell BK395.out 4).trans rfl
            have hfs77 := blk_frozen BK395.out 4
            have hns77_0 := NB380_395.out
            have hns77_1 := NB381_395.out
            have hms77_0 := NB395_380.out
            have hms77_1 := NB395_381.out
            have hs78 : w72.cell? ⟨gb395, 5, none⟩ = some (.int .i64 0) := (blk_cell BK395.out 5).trans rfl
            have hfs78 := blk_frozen BK395.out 5
            have hns78_0 := NB380_395.out
            have hns78_1 := NB381_395.out
            have hms78_0 := NB395_380.out
            have hms78_1 := NB395_381.out
            refine skip_ (w1 := ?_) (by rfl) rfl ?_ ?_
            rotate_left
            · go_simp
              rfl
            refine hK.out _ _ ⟨((cell_far (p := ⟨gb395, _, none⟩) NB380_395.out _).trans (((cell_far (p := ⟨gb395, _, none⟩) NB380_395.out _).trans (((cell_far (p := ⟨gb395, _, none⟩) NB380_395.out _).trans (((cell_far (p := ⟨gb395, _, none⟩) NB380_395.out _).trans (((cell_far (p := ⟨gb395, _, none⟩) NB380_395.out _).trans (((cell_far (p := ⟨gb395, _, none⟩) NB380_395.out _).trans (hHeld.1)))))))))))), ((cell_far (p := ⟨gb395, _, none⟩) NB380_395.out _).trans (((cell_far (p := ⟨gb395, _, none⟩) NB380_395.out _).trans (((cell_far (p := ⟨gb395, _, none⟩) NB380_395.out _).trans (((cell_far (p := ⟨gb395, _, none⟩) NB380_395.out _).trans (((cell_far (p := ⟨gb395, _, none⟩) NB380_395.out _).trans (((cell_far (p := ⟨gb395, _, none⟩) NB380_395.out _).trans (hHeld.2.1)))))))))))), ((cell_far (p := ⟨gb395, _, none⟩) NB380_395.out _).trans (((cell_far (p := ⟨gb395, _, none⟩) NB380_395.out _).trans (((cell_far (p := ⟨gb395, _, none⟩) NB380_395.out _).trans (((cell_far (p := ⟨gb395, _, none⟩) NB380_395.out _).trans (((cell_far (p := ⟨gb395, _, none⟩) NB380_395.out _).trans (((cell_far (p := ⟨gb395, _, none⟩) NB380_395.out _).trans (hHeld.2.2.1)))))))))))), ((cell_far (p := ⟨gb395, _, none⟩) NB380_395.out _).trans (((cell_far (p := ⟨gb395, _, none⟩) NB380_395.out _).trans (((cell_far (p := ⟨gb395, _, none⟩) NB380_395.out _).trans (((cell_far (p := ⟨gb395, _, none⟩) NB380_395.out _).trans (((cell_far (p := ⟨gb395, _, none⟩) NB380_395.out _).trans (((cell_far (p := ⟨gb395, _, none⟩) NB380_395.out _).trans (hHeld.2.2.2.1)))))))))))), ((cell_far (p := ⟨gb395, _, none⟩) NB380_395.out _).trans (((cell_far (p := ⟨gb395, _, none⟩) NB380_395.out _).trans (((cell_far (p := ⟨gb395, _, none⟩) NB380_395.out _).trans (((cell_far (p := ⟨gb395, _, none⟩) NB380_395.out _).trans (((cell_far (p := ⟨gb395, _, none⟩) NB380_395.out _).trans (((cell_far (p := ⟨gb395, _, none⟩) NB380_395.out _).trans (hHeld.2.2.2.2.1)))))))))))), ((cell_far (p := ⟨gb395, _, none⟩) NB380_395.out _).trans (((cell_far (p := ⟨gb395, _, none⟩) NB380_395.out _).trans (((cell_far (p := ⟨gb395, _, none⟩) NB380_395.out _).trans (((cell_far (p := ⟨gb395, _, none⟩) NB380_395.out _).trans (((cell_far (p := ⟨gb395, _, none⟩) NB380_395.out _).trans (((cell_far (p := ⟨gb395, _, none⟩) NB380_395.out _).trans (hHeld.2.2.2.2.2))))))))))))⟩ (fun hHeld => ?_)
            clear hK K
            refine pure_ (i := 12) (N := some 6) (v := ?_) (a' := ?_) #[true, true, true, true, true, true, true, true, true, true, true, true, true] rfl rfl (any_of HT_.out (by kernel_rfl)) (fun _ _ _ h => h) (Or.inl ⟨by rfl, ?_⟩) ?_ ?_
            rotate_left
            · intro w'
              go_simp
              with_reducible rfl
            rotate_left
            · simp only [Act.put, List.setIfInBounds_toArray, List.set_cons_zero, List.set_cons_succ, i64_w, i32_w]
              rfl
            refine done_ (done_of HT_.out (by kernel_rfl)) ?_
            try go_wp2
            have n0_ : Aside0 (((((((w72.setCell ⟨gb395, 0, none⟩ (.bool t388)).setCell ⟨gb395, 1, none⟩ (.int .i64 t389)).setCell ⟨gb395, 2, none⟩ (.int .i64 t390)).setCell ⟨gb395, 3, none⟩ (.int .i64 t391)).setCell ⟨gb395, 4, none⟩ (.int .i64 t392)).setCell ⟨gb395, 5, none⟩ (.int .i64 t393)).heap[gb380]? = some (.cells #[.bool a0_0, .int .i64 a0_1, .int .i64 a0_2, .int .i64 a0_3, .int .i64 a0_4, .int .i64 a0_5] 23 (0, 0))) := ⟨by (with_reducible repeat (first | refine blk_drewN ?_ _ | refine blk_drew ?_ | refine blk_alloc ?_ _)); refine blk_far ?_ NB380_395.out _; (with_reducible repeat (first | refine blk_drewN ?_ _ | refine blk_drew ?_ | refine blk_alloc ?_ _)); refine blk_far ?_ NB380_395.out _; (with_reducible repeat (first | refine blk_drewN ?_ _ | refine blk_drew ?_ | refine blk_alloc ?_ _)); refine blk_far ?_ NB380_395.out _; (with_reducible repeat (first | refine blk_drewN ?_ _ | refine blk_drew ?_ | refine blk_alloc ?_ _)); refine blk_far ?_ NB380_395.out _; (with_reducible repeat (first | refine blk_drewN ?_ _ | refine blk_drew ?_ | refine blk_alloc ?_ _)); refine blk_far ?_ NB380_395.out _; (with_reducible repeat (first | refine blk_drewN ?_ _ | refine blk_drew ?_ | refine blk_alloc ?_ _)); refine blk_far ?_ NB380_395.out _; (with_reducible repeat (first | refine blk_drewN ?_ _ | refine blk_drew ?_ | refine blk_alloc ?_ _)); exact BK380.out⟩
            have n1_ : Aside0 (((((((w72.setCell ⟨gb395, 0, none⟩ (.bool t388)).setCell ⟨gb395, 1, none⟩ (.int .i64 t389)).setCell ⟨gb395, 2, none⟩ (.int .i64 t390)).setCell ⟨gb395, 3, none⟩ (.int .i64 t391)).setCell ⟨gb395, 4, none⟩ (.int .i64 t392)).setCell ⟨gb395, 5, none⟩ (.int .i64 t393)).heap[gb381]? = some (.cells #[.bool a1_0, .int .i64 a1_1, .int .i64 a1_2, .int .i64 a1_3, .int .i64 a1_4, .int .i64 a1_5] 23 (0, 0))) := ⟨by (with_reducible repeat (first | refine blk_drewN ?_ _ | refine blk_drew ?_ | refine blk_alloc ?_ _)); refine blk_far ?_ NB381_395.out _; (with_reducible repeat (first | refine blk_drewN ?_ _ | refine blk_drew ?_ | refine blk_alloc ?_ _)); refine blk_far ?_ NB381_395.out _; (with_reducible repeat (first | refine blk_drewN ?_ _ | refine blk_drew ?_ | refine blk_alloc ?_ _)); refine blk_far ?_ NB381_395.out _; (with_reducible repeat (first | refine blk_drewN ?_ _ | refine blk_drew ?_ | refine blk_alloc ?_ _)); refine blk_far ?_ NB381_395.out _; (with_reducible repeat (first | refine blk_drewN ?_ _ | refine blk_drew ?_ | refine blk_alloc ?_ _)); refine blk_far ?_ NB381_395.out _; (with_reducible repeat (first | refine blk_drewN ?_ _ | refine blk_drew ?_ | refine blk_alloc ?_ _)); refine blk_far ?_ NB381_395.out _; (with_reducible repeat (first | refine blk_drewN ?_ _ | refine blk_drew ?_ | refine blk_alloc ?_ _)); exact BK381.out⟩
            have n2_ : Aside0 (((((((w72.setCell ⟨gb395, 0, none⟩ (.bool t388)).setCell ⟨gb395, 1, none⟩ (.int .i64 t389)).setCell ⟨gb395, 2, none⟩ (.int .i64 t390)).setCell ⟨gb395, 3, none⟩ (.int .i64 t391)).setCell ⟨gb395, 4, none⟩ (.int .i64 t392)).setCell ⟨gb395, 5, none⟩ (.int .i64 t393)).heap[gb395]? = some (.cells #[.bool t388, .int .i64 t389, .int .i64 t390, .int .i64 t391, .int .i64 t392, .int .i64 t393] 23 (0, 0))) := ⟨by (with_reducible repeat (first | refine blk_drewN ?_ _ | refine blk_drew ?_ | refine blk_alloc ?_ _)); refine blk_put (cs := #[.bool t388, .int .i64 t389, .int .i64 t390, .int .i64 t391, .int .i64 t392, .int .i64 0]) ?_ 5 _ rfl; (with_reducible repeat (first | refine blk_drewN ?_ _ | refine blk_drew ?_ | refine blk_alloc ?_ _)); refine blk_put (cs := #[.bool t388, .int .i64 t389, .int .i64 t390, .int .i64 t391, .int .i64 0, .int .i64 0]) ?_ 4 _ rfl; (with_reducible repeat (first | refine blk_drewN ?_ _ | refine blk_drew ?_ | refine blk_alloc ?_ _)); refine blk_put (cs := #[.bool t388, .int .i64 t389, .int .i64 t390, .int .i64 0, .int .i64 0, .int .i64 0]) ?_ 3 _ rfl; (with_reducible repeat (first | refine blk_drewN ?_ _ | refine blk_drew ?_ | refine blk_alloc ?_ _)); refine blk_put (cs := #[.bool t388, .int .i64 t389, .int .i64 0, .int .i64 0, .int .i64 0, .int .i64 0]) ?_ 2 _ rfl; (with_reducible repeat (first | refine blk_drewN ?_ _ | refine blk_drew ?_ | refine blk_alloc ?_ _)); refine blk_put (cs := #[.bool t388, .int .i64 0, .int .i64 0, .int .i64 0, .int .i64 0, .int .i64 0]) ?_ 1 _ rfl; (with_reducible repeat (first | refine blk_drewN ?_ _ | refine blk_drew ?_ | refine blk_alloc ?_ _)); refine blk_put (cs := #[.bool false, .int .i64 0, .int .i64 0, .int .i64 0, .int .i64 0, .int .i64 0]) ?_ 0 _ rfl; (with_reducible repeat (first | refine blk_drewN ?_ _ | refine blk_drew ?_ | refine blk_alloc ?_ _)); exact BK395.out⟩
            have n3_ : Aside0 (Below w.heap.size w ((((((w72.setCell ⟨gb395, 0, none⟩ (.bool t388)).setCell ⟨gb395, 1, none⟩ (.int .i64 t389)).setCell ⟨gb395, 2, none⟩ (.int .i64 t390)).setCell ⟨gb395, 3, none⟩ (.int .i64 t391)).setCell ⟨gb395, 4, none⟩ (.int .i64 t392)).setCell ⟨gb395, 5, none⟩ (.int .i64 t393))) := ⟨by repeat (first | (with_reducible first | exact HB.out | apply below_alloc | apply pw_below_drewN | apply below_drew1 | refine below_set ?_ GE380.out | refine below_set ?_ GE381.out | refine below_set ?_ GE395.out) | exact HB.out)⟩
            (try clear BK380)
            (try clear BK381)
            (try clear BK395)
            (try clear HB)
            generalize ((((((w72.setCell ⟨gb395, 0, none⟩ (.bool t388)).setCell ⟨gb395, 1, none⟩ (.int .i64 t389)).setCell ⟨gb395, 2, none⟩ (.int .i64 t390)).setCell ⟨gb395, 3, none⟩ (.int .i64 t391)).setCell ⟨gb395, 4, none⟩ (.int .i64 t392)).setCell ⟨gb395, 5, none⟩ (.int .i64 t393)) = w79 at n0_ n1_ n2_ n3_ ⊢
            have BK380 := n0_
            have BK381 := n1_
            have BK395 := n2_
            have HB := n3_
            clear n0_ n1_ n2_ n3_
            have n0_ := Aside0.mk (blk_drew BK380.out)
            have n1_ := Aside0.mk (blk_drew BK381.out)
            have n2_ := Aside0.mk (blk_drew BK395.out)
            have n3_ := Aside0.mk (below_drew1 HB.out)
            clear BK380
            clear BK381
            clear BK395
            clear HB
            have BK380 := n0_
            have BK381 := n1_
            have BK395 := n2_
            have HB := n3_
            clear n0_ n1_ n2_ n3_
            refine start_ (n := 6) (S := fun w' => w'.cell? ⟨gb380, 0, none⟩ = some (.bool a0_0) ∧ w'.cell? ⟨gb380, 1, none⟩ = some (.int .i64 a0_1) ∧ w'.cell? ⟨gb380, 2, none⟩ = some (.int .i64 a0_2) ∧ w'.cell? ⟨gb380, 3, none⟩ = some (.int .i64 a0_3) ∧ w'.cell? ⟨gb380, 4, none⟩ = some (.int .i64 a0_4) ∧ w'.cell? ⟨gb380, 5, none⟩ = some (.int .i64 a0_5) ∧ w'.cell? ⟨gb381, 0, none⟩ = some (.bool a1_0) ∧ w'.cell? ⟨gb381, 1, none⟩ = some (.int .i64 a1_1) ∧ w'.cell? ⟨gb381, 2, none⟩ = some (.int .i64 a1_2) ∧ w'.cell? ⟨gb381, 3, none⟩ = some (.int .i64 a1_3) ∧ w'.cell? ⟨gb381, 4, none⟩ = some (.int .i64 a1_4) ∧ w'.cell? ⟨gb381, 5, none⟩ = some (.int .i64 a1_5)) (ds := []) #[false, false, false, false, false, false] (by kernel_rfl) rfl rfl ⟨(blk_cell BK380.out 0).trans rfl, (blk_cell BK380.out 1).trans rfl, (blk_cell BK380.out 2).trans rfl, (blk_cell BK380.out 3).trans rfl, (blk_cell BK380.out 4).trans rfl, (blk_cell BK380.out 5).trans rfl, (blk_cell BK381.out 0).trans rfl, (blk_cell BK381.out 1).trans rfl, (blk_cell BK381.out 2).trans rfl, (blk_cell BK381.out 3).trans rfl, (blk_cell BK381.out 4).trans rfl, (blk_cell BK381.out 5).trans rfl⟩ (fun hHeld => ?_)
            generalize w79.drew = w80 at BK380 BK381 BK395 HB hHeld ⊢
            refine take_ (i := 0) (N := some 35) (v := ?_) (a' := ?_) #[true, false, false, false, false, false] rfl rfl (by kernel_rfl) (fun _ _ _ h => h) (Or.inl ⟨by rfl, ?_⟩) hHeld ?_ ?_
            rotate_left
            · rintro w' ⟨s0, s1, s2, s3, s4, s5, s6, s7, s8, s9, s10, s11⟩
              go_simp
              with_reducible rfl
            rotate_left
            · simp only [Act.put, List.setIfInBounds_toArray, List.set_cons_zero, List.set_cons_succ, i64_w, i32_w]
              rfl
            refine take_ (i := 2) (N := some 37) (v := ?_) (a' := ?_) #[true, false, true, false, false, false] rfl rfl (by kernel_rfl) (fun _ _ _ h => h) (Or.inl ⟨by rfl, ?_⟩) hHeld ?_ ?_
            rotate_left
            · rintro w' ⟨s0, s1, s2, s3, s4, s5, s6, s7, s8, s9, s10, s11⟩
              go_simp
              with_reducible rfl
            rotate_left
            · simp only [Act.put, List.setIfInBounds_toArray, List.set_cons_zero, List.set_cons_succ, i64_w, i32_w]
              rfl
            refine one_ (i := 1) (N := some 36) #[true, true, true, false, false, false] rfl rfl (by kernel_rfl) (by decide) (fun K hK => ?_)
            refine goes_ Try.func16 (by kernel_rfl) rfl #[.agg #[.bool a0_0, .int .i64 a0_1, .int .i64 a0_2, .int .i64 a0_3, .int .i64 a0_4, .int .i64 a0_5]] (by rfl) rfl rfl (by (try simp only [List.map_toArray, List.map_cons, List.map_nil]); first | done | rfl | (simp only [List.length_drop, List.length_take]; rfl)) ?_
            with_reducible refine (height_Level.calls kj2 a0_0 a0_1 a0_2 a0_3 a0_4 a0_5 t396 t397 t398 _ A37.out).mono ?_
            rintro e w81 ⟨rfl, hb⟩
            refine ⟨_, rfl, ?_⟩
            have n0_ := Aside0.mk (blk_below (g := gb380) (o := .cells #[.bool a0_0, .int .i64 a0_1, .int .i64 a0_2, .int .i64 a0_3, .int .i64 a0_4, .int .i64 a0_5] 23 (0, 0)) (by (with_reducible repeat (first | refine blk_drewN ?_ _ | refine blk_drew ?_ | refine blk_alloc ?_ _)); exact BK380.out) hb)
            have n1_ := Aside0.mk (blk_below (g := gb381) (o := .cells #[.bool a1_0, .int .i64 a1_1, .int .i64 a1_2, .int .i64 a1_3, .int .i64 a1_4, .int .i64 a1_5] 23 (0, 0)) (by (with_reducible repeat (first | refine blk_drewN ?_ _ | refine blk_drew ?_ | refine blk_alloc ?_ _)); exact BK381.out) hb)
            have n2_ := Aside0.mk (blk_below (g := gb395) (o := .cells #[.bool t388, .int .i64 t389, .int .i64 t390, .int .i64 t391, .int .i64 t392, .int .i64 t393] 23 (0, 0)) (by (with_reducible repeat (first | refine blk_drewN ?_ _ | refine blk_drew ?_ | refine blk_alloc ?_ _)); exact BK395.out) hb)
            have n3_ := Aside0.mk (below_step (by repeat (first | (with_reducible first | exact HB.out | apply below_alloc | apply pw_below_drewN | apply below_drew1 | refine below_set ?_ GE380.out | refine below_set ?_ GE381.out | refine below_set ?_ GE395.out) | exact HB.out)) hb)
            clear BK380
            clear BK381
            clear BK395
            clear HB
            have BK380 := n0_
            have BK381 := n1_
            have BK395 := n2_
            have HB := n3_
            clear n0_ n1_ n2_ n3_
            (try clear hb)
            (try clear hb2)
            (try clear hk)
            (try clear hi)
            refine hK.out _ _ ⟨(blk_cell BK380.out 0).trans rfl, (blk_cell BK380.out 1).trans rfl, (blk_cell BK380.out 2).trans rfl, (blk_cell BK380.out 3).trans rfl, (blk_cell BK380.out 4).trans rfl, (blk_cell BK380.out 5).trans rfl, (blk_cell BK381.out 0).trans rfl, (blk_cell BK381.out 1).trans rfl, (blk_cell BK381.out 2).trans rfl, (blk_cell BK381.out 3).trans rfl, (blk_cell BK381.out 4).trans rfl, (blk_cell BK381.out 5).trans rfl⟩ (fun hHeld => ?_)
            clear hK K
            refine norm_ (a' := ?_) ?_ ?_
            rotate_left
            · show Act.put _ (some 36) _ = _
              simp only [Act.put, List.setIfInBounds_toArray, List.set_cons_zero, List.set_cons_succ, i64_w, i32_w]
              rfl
            refine one_ (i := 3) (N := some 38) #[true, true, true, true, false, false] rfl rfl (by kernel_rfl) (by decide) (fun K hK => ?_)
            refine goes_ Try.func16 (by kernel_rfl) rfl #[.agg #[.bool a1_0, .int .i64 a1_1, .int .i64 a1_2, .int .i64 a1_3, .int .i64 a1_4, .int .i64 a1_5]] (by rfl) rfl rfl (by (try simp only [List.map_toArray, List.map_cons, List.map_nil]); first | done | rfl | (simp only [List.length_drop, List.length_take]; rfl)) ?_
            with_reducible refine (height_Level.calls kj2 a1_0 a1_1 a1_2 a1_3 a1_4 a1_5 t399 t400 t401 _ A38.out).mono ?_
            rintro e w82 ⟨rfl, hb⟩
            refine ⟨_, rfl, ?_⟩
            have n0_ := Aside0.mk (blk_below (g := gb380) (o := .cells #[.bool a0_0, .int .i64 a0_1, .int .i64 a0_2, .int .i64 a0_3, .int .i64 a0_4, .int .i64 a0_5] 23 (0, 0)) (by (with_reducible repeat (first | refine blk_drewN ?_ _ | refine blk_drew ?_ | refine blk_alloc ?_ _)); exact BK380.out) hb)
            have n1_ := Aside0.mk (blk_below (g := gb381) (o := .cells #[.bool a1_0, .int .i64 a1_1, .int .i64 a1_2, .int .i64 a1_3, .int .i64 a1_4, .int .i64 a1_5] 23 (0, 0)) (by (with_reducible repeat (first | refine blk_drewN ?_ _ | refine blk_drew ?_ | refine blk_alloc ?_ _)); exact BK381.out) hb)
            have n2_ := Aside0.mk (blk_below (g := gb395) (o := .cells #[.bool t388, .int .i64 t389, .int .i64 t390, .int .i64 t391, .int .i64 t392, .int .i64 t393] 23 (0, 0)) (by (with_reducible repeat (first | refine blk_drewN ?_ _ | refine blk_drew ?_ | refine blk_alloc ?_ _)); exact BK395.out) hb)
            have n3_ := Aside0.mk (below_step (by repeat (first | (with_reducible first | exact HB.out | apply below_alloc | apply pw_below_drewN | apply below_drew1 | refine below_set ?_ GE380.out | refine below_set ?_ GE381.out | refine below_set ?_ GE395.out) | exact HB.out)) hb)
            clear BK380
            clear BK381
            clear BK395
            clear HB
            have BK380 := n0_
            have BK381 := n1_
            have BK395 := n2_
            have HB := n3_
            clear n0_ n1_ n2_ n3_
            (try clear hb)
            (try clear hb2)
            (try clear hk)
            (try clear hi)
            refine hK.out _ _ ⟨(blk_cell BK380.out 0).trans rfl, (blk_cell BK380.out 1).trans rfl, (blk_cell BK380.out 2).trans rfl, (blk_cell BK380.out 3).trans rfl, (blk_cell BK380.out 4).trans rfl, (blk_cell BK380.out 5).trans rfl, (blk_cell BK381.out 0).trans rfl, (blk_cell BK381.out 1).trans rfl, (blk_cell BK381.out 2).trans rfl, (blk_cell BK381.out 3).trans rfl, (blk_cell BK381.out 4).trans rfl, (blk_cell BK381.out 5).trans rfl⟩ (fun hHeld => ?_)
            clear hK K
            refine norm_ (a' := ?_) ?_ ?_
            rotate_left
            · show Act.put _ (some 38) _ = _
              simp only [Act.put, List.setIfInBounds_toArray, List.set_cons_zero, List.set_cons_succ, i64_w, i32_w]
              rfl
            refine one_ (i := 4) (N := some 39) #[true, true, true, true, true, false] rfl rfl (by kernel_rfl) (by decide) (fun K hK => ?_)
            refine goes_ Try.func18 (by kernel_rfl) rfl #[.agg #[.int .i64 t396, .int .i64 t397, .int .i64 t398], .agg #[.int .i64 t399, .int .i64 t400, .int .i64 t401]] (by rfl) rfl rfl (by (try simp only [List.map_toArray, List.map_cons, List.map_nil]); first | done | rfl | (simp only [List.length_drop, List.length_take]; rfl)) ?_
            with_reducible refine (height_Order.calls kj2 t396 t397 t398 t399 t400 t401 t402 _ A39.out).mono ?_
            rintro e w83 ⟨rfl, hb⟩
            refine ⟨_, rfl, ?_⟩
            have n0_ := Aside0.mk (blk_below (g := gb380) (o := .cells #[.bool a0_0, .int .i64 a0_1, .int .i64 a0_2, .int .i64 a0_3, .int .i64 a0_4, .int .i64 a0_5] 23 (0, 0)) (by (with_reducible repeat (first | refine blk_drewN ?_ _ | refine blk_drew ?_ | refine blk_alloc ?_ _)); exact BK380.out) hb)
            have n1_ := Aside0.mk (blk_below (g := gb381) (o := .cells #[.bool a1_0, .int .i64 a1_1, .int .i64 a1_2, .int .i64 a1_3, .int .i64 a1_4, .int .i64 a1_5] 23 (0, 0)) (by (with_reducible repeat (first | refine blk_drewN ?_ _ | refine blk_drew ?_ | refine blk_alloc ?_ _)); exact BK381.out) hb)
            have n2_ := Aside0.mk (blk_below (g := gb395) (o := .cells #[.bool t388, .int .i64 t389, .int .i64 t390, .int .i64 t391, .int .i64 t392, .int .i64 t393] 23 (0, 0)) (by (with_reducible repeat (first | refine blk_drewN ?_ _ | refine blk_drew ?_ | refine blk_alloc ?_ _)); exact BK395.out) hb)
            have n3_ := Aside0.mk (below_step (by repeat (first | (with_reducible first | exact HB.out | apply below_alloc | apply pw_below_drewN | apply below_drew1 | refine below_set ?_ GE380.out | refine below_set ?_ GE381.out | refine below_set ?_ GE395.out) | exact HB.out)) hb)
            clear BK380
            clear BK381
            clear BK395
            clear HB
            have BK380 := n0_
            have BK381 := n1_
            have BK395 := n2_
            have HB := n3_
            clear n0_ n1_ n2_ n3_
            (try clear hb)
            (try clear hb2)
            (try clear hk)
            (try clear hi)
            refine hK.out _ _ ⟨(blk_cell BK380.out 0).trans rfl, (blk_cell BK380.out 1).trans rfl, (blk_cell BK380.out 2).trans rfl, (blk_cell BK380.out 3).trans rfl, (blk_cell BK380.out 4).trans rfl, (blk_cell BK380.out 5).trans rfl, (blk_cell BK381.out 0).trans rfl, (blk_cell BK381.out 1).trans rfl, (blk_cell BK381.out 2).trans rfl, (blk_cell BK381.out 3).trans rfl, (blk_cell BK381.out 4).trans rfl, (blk_cell BK381.out 5).trans rfl⟩ (fun hHeld => ?_)
            clear hK K
            refine norm_ (a' := ?_) ?_ ?_
            rotate_left
            · show Act.put _ (some 39) _ = _
              simp only [Act.put, List.setIfInBounds_toArray, List.set_cons_zero, List.set_cons_succ, i64_w, i32_w]
              rfl
            refine pure_ (i := 5) (N := some 7) (v := ?_) (a' := ?_) #[true, true, true, true, true, true] rfl rfl (by kernel_rfl) (fun _ _ _ h => h) (Or.inl ⟨by rfl, ?_⟩) ?_ ?_
            rotate_left
            · intro w'
              go_simp
              with_reducible rfl
            rotate_left
            · simp only [Act.put, List.setIfInBounds_toArray, List.set_cons_zero, List.set_cons_succ, i64_w, i32_w]
              rfl
            refine done_ (by kernel_rfl) ?_
            try go_wp2_with (first | ((with_reducible refine gate_callee (f := 20) rfl ?_); refine goesL_ (some 40) rfl rfl Try.func20 (by kernel_rfl) rfl #[] rfl (by (try simp only [List.map_toArray, List.map_cons, List.map_nil]); first | done | rfl | (simp only [List.length_drop, List.length_take]; rfl)) ?_; (with_reducible refine (thalweglaw02_awake.calls kj2  true _ A40.out).mono ?_); rintro e w84 ⟨rfl, hb⟩; refine ⟨_, rfl, ?_⟩; have n0_ := Aside0.mk (blk_below (g := gb380) (o := .cells #[.bool a0_0, .int .i64 a0_1, .int .i64 a0_2, .int .i64 a0_3, .int .i64 a0_4, .int .i64 a0_5] 23 (0, 0)) (by (with_reducible repeat (first | refine blk_drewN ?_ _ | refine blk_drew ?_ | refine blk_alloc ?_ _)); exact BK380.out) hb); have n1_ := Aside0.mk (blk_below (g := gb381) (o := .cells #[.bool a1_0, .int .i64 a1_1, .int .i64 a1_2, .int .i64 a1_3, .int .i64 a1_4, .int .i64 a1_5] 23 (0, 0)) (by (with_reducible repeat (first | refine blk_drewN ?_ _ | refine blk_drew ?_ | refine blk_alloc ?_ _)); exact BK381.out) hb); have n2_ := Aside0.mk (blk_below (g := gb395) (o := .cells #[.bool t388, .int .i64 t389, .int .i64 t390, .int .i64 t391, .int .i64 t392, .int .i64 t393] 23 (0, 0)) (by (with_reducible repeat (first | refine blk_drewN ?_ _ | refine blk_drew ?_ | refine blk_alloc ?_ _)); exact BK395.out) hb); have n3_ := Aside0.mk (below_step (by repeat (first | (with_reducible first | exact HB.out | apply below_alloc | apply pw_below_drewN | apply below_drew1 | refine below_set ?_ GE380.out | refine below_set ?_ GE381.out | refine below_set ?_ GE395.out) | exact HB.out)) hb); clear BK380; clear BK381; clear BK395; clear HB; have BK380 := n0_; have BK381 := n1_; have BK395 := n2_; have HB := n3_; clear n0_ n1_ n2_ n3_; (try clear hb); (try clear hb2); (try clear hk); (try clear hi); have hnb85 := NB395_380.out; have hnc85 := NB380_395.out; have hnb86 := NB395_381.out; have hnc86 := NB381_395.out; have hcz87_0 : w84.cell? ⟨gb395, 0, none⟩ = some (.bool t388) := (blk_cell BK395.out 0).trans rfl; have hcz87_1 : w84.cell? ⟨gb395, 1, none⟩ = some (.int .i64 t389) := (blk_cell BK395.out 1).trans rfl; have hcz87_2 : w84.cell? ⟨gb395, 2, none⟩ = some (.int .i64 t390) := (blk_cell BK395.out 2).trans rfl; have hcz87_3 : w84.cell? ⟨gb395, 3, none⟩ = some (.int .i64 t391) := (blk_cell BK395.out 3).trans rfl; have hcz87_4 : w84.cell? ⟨gb395, 4, none⟩ = some (.int .i64 t392) := (blk_cell BK395.out 4).trans rfl; have hcz87_5 : w84.cell? ⟨gb395, 5, none⟩ = some (.int .i64 t393) := (blk_cell BK395.out 5).trans rfl; have hfz87_0 := blk_frozen BK395.out 0; have hfz87_1 := blk_frozen BK395.out 1; have hfz87_2 := blk_frozen BK395.out 2; have hfz87_3 := blk_frozen BK395.out 3; have hfz87_4 := blk_frozen BK395.out 4; have hfz87_5 := blk_frozen BK395.out 5; have hnb88 := NB380_381.out; have hnc88 := NB381_380.out; have hcz89_0 : w84.cell? ⟨gb380, 0, none⟩ = some (.bool a0_0) := (blk_cell BK380.out 0).trans rfl; have hcz89_1 : w84.cell? ⟨gb380, 1, none⟩ = some (.int .i64 a0_1) := (blk_cell BK380.out 1).trans rfl; have hcz89_2 : w84.cell? ⟨gb380, 2, none⟩ = some (.int .i64 a0_2) := (blk_cell BK380.out 2).trans rfl; have hcz89_3 : w84.cell? ⟨gb380, 3, none⟩ = some (.int .i64 a0_3) := (blk_cell BK380.out 3).trans rfl; have hcz89_4 : w84.cell? ⟨gb380, 4, none⟩ = some (.int .i64 a0_4) := (blk_cell BK380.out 4).trans rfl; have hcz89_5 : w84.cell? ⟨gb380, 5, none⟩ = some (.int .i64 a0_5) := (blk_cell BK380.out 5).trans rfl; have hfz89_0 := blk_frozen BK380.out 0; have hfz89_1 := blk_frozen BK380.out 1; have hfz89_2 := blk_frozen BK380.out 2; have hfz89_3 := blk_frozen BK380.out 3; have hfz89_4 := blk_frozen BK380.out 4; have hfz89_5 := blk_frozen BK380.out 5; have hcz90_0 : w84.cell? ⟨gb381, 0, none⟩ = some (.bool a1_0) := (blk_cell BK381.out 0).trans rfl; have hcz90_1 : w84.cell? ⟨gb381, 1, none⟩ = some (.int .i64 a1_1) := (blk_cell BK381.out 1).trans rfl; have hcz90_2 : w84.cell? ⟨gb381, 2, none⟩ = some (.int .i64 a1_2) := (blk_cell BK381.out 2).trans rfl; have hcz90_3 : w84.cell? ⟨gb381, 3, none⟩ = some (.int .i64 a1_3) := (blk_cell BK381.out 3).trans rfl; have hcz90_4 : w84.cell? ⟨gb381, 4, none⟩ = some (.int .i64 a1_4) := (blk_cell BK381.out 4).trans rfl; have hcz90_5 : w84.cell? ⟨gb381, 5, none⟩ = some (.int .i64 a1_5) := (blk_cell BK381.out 5).trans rfl; have hfz90_0 := blk_frozen BK381.out 0; have hfz90_1 := blk_frozen BK381.out 1; have hfz90_2 := blk_frozen BK381.out 2; have hfz90_3 := blk_frozen BK381.out 3; have hfz90_4 := blk_frozen BK381.out 4; have hfz90_5 := blk_frozen BK381.out 5) | (go_at_call 14; (with_reducible refine (height_Less.calls kj2 a0_0 a0_1 a0_2 a0_3 a0_4 a0_5 a1_0 a1_1 a1_2 a1_3 a1_4 a1_5 t404 _ A67.out).mono ?_); rintro e w91 ⟨rfl, hb⟩; have n0_ := Aside0.mk (blk_below (g := gb380) (o := .cells #[.bool a0_0, .int .i64 a0_1, .int .i64 a0_2, .int .i64 a0_3, .int .i64 a0_4, .int .i64 a0_5] 23 (0, 0)) (by (with_reducible repeat (first | refine blk_drewN ?_ _ | refine blk_drew ?_ | refine blk_alloc ?_ _)); exact BK380.out) hb); have n1_ := Aside0.mk (blk_below (g := gb381) (o := .cells #[.bool a1_0, .int .i64 a1_1, .int .i64 a1_2, .int .i64 a1_3, .int .i64 a1_4, .int .i64 a1_5] 23 (0, 0)) (by (with_reducible repeat (first | refine blk_drewN ?_ _ | refine blk_drew ?_ | refine blk_alloc ?_ _)); exact BK381.out) hb); have n2_ := Aside0.mk (blk_below (g := gb395) (o := .cells #[.bool t388, .int .i64 t389, .int .i64 t390, .int .i64 t391, .int .i64 t392, .int .i64 t393] 23 (0, 0)) (by (with_reducible repeat (first | refine blk_drewN ?_ _ | refine blk_drew ?_ | refine blk_alloc ?_ _)); exact BK395.out) hb); have n3_ := Aside0.mk (below_step (by repeat (first | (with_reducible first | exact HB.out | apply below_alloc | apply pw_below_drewN | apply below_drew1 | refine below_set ?_ GE380.out | refine below_set ?_ GE381.out | refine below_set ?_ GE395.out) | exact HB.out)) hb); clear BK380; clear BK381; clear BK395; clear HB; have BK380 := n0_; have BK381 := n1_; have BK395 := n2_; have HB := n3_; clear n0_ n1_ n2_ n3_; (try clear hb); (try clear hb2); (try clear hk); (try clear hi)))
            go_ret
            exact ⟨by first | rfl | (simp [errW_none, errW_some] <;> rfl) | (simp [*, errW_none, errW_some] <;> rfl), by repeat (first | (with_reducible first | exact HB.out | apply below_alloc | apply pw_below_drewN | apply below_drew1 | refine below_set ?_ GE380.out | refine below_set ?_ GE381.out | refine below_set ?_ GE395.out) | exact HB.out)⟩
        · replace c41 := Bool.eq_false_iff.mpr c41
          subst c41
          have H1 : (none) = some r := by rw [if_neg (show ¬ (false = true) by decide)] at H; exact H
          clear H
          have H := H1
          clear H1
          exact absurd H (by simp)

end Go.Proofs.Ytjeahmlahkngaaa.P
