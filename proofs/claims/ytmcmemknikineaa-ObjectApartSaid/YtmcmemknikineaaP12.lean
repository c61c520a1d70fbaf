-- WRITTEN BY xprint.py, a program of this session that drives the kit's printer.
import Derived.Test.YtmcmemknikineaaP0
import Derived.Test.YtmcmemknikineaaP3
import Derived.Test.YtmcmemknikineaaP10
import Derived.Test.YtmcmemknikineaaP11
namespace Go.Proofs.Ytmcmemknikineaa.P
open Go.RowKit Go.Proofs.YtmcmemknikineaaW.PrintWords Go.Proofs.YtmcmemknikineaaW.PrintLast Go.Proofs.YtmcmemknikineaaW.PrintMore
attribute [local go_sem] max2_int min2_int max_two min_two max_three min_three max_four min_four   -- for this text's walks alone
set_option linter.unusedVariables false
set_option linter.unusedSimpArgs false

attribute [local go_sem high] eqA27
/-! ### thalweglaw04_ObjectApart: function 3 -/
def thalweglaw04_ObjectApart.j0 : Nat → List Int → List Int → Bool → Int → Int → Bool → Int → Int → Int → Int → Int → Int → Int → Int → Int → Int → Int → Bool → Int → Int → Int → Int → Int → Int → Int → Int → Int → Option (Bool)
  | 0, _, _, _, _, _, _, _, _, _, _, _, _, _, _, _, _, _, _, _, _, _, _, _, _, _, _, _ => none
  | k + 1, x5, x7, x25, x210000, x210001, x210002, x210003, x210004, x210005, x210006, x210007, x210008, x210009, x210010, x210011, x211000, x211001, x211002, x211003, x211004, x211005, x211006, x211007, x211008, x211009, x211010, x211011 => if x25 = true then ((thalweglaw04_awake.f k).bind fun t219 => (some t219)) else ((thalweglaw04_awake.f k).bind fun t220 => (if t220 = true then (if 0 ≤ (mn (x5.length : Int) (x7.length : Int)) then (if (mn (x5.length : Int) (x7.length : Int)) ≤ (x5.length : Int) then (if (mn (x5.length : Int) (x7.length : Int)) ≤ (x7.length : Int) then (some (((strOfNums (x5.take ((mn (x5.length : Int) (x7.length : Int)) : Int).toNat)).toList == (strOfNums (x7.take ((mn (x5.length : Int) (x7.length : Int)) : Int).toNat)).toList) == (x210000 == x211000 && (x210001 == x211001 && ((x210002 == x211002 && (x210003 == x211003 && (x210004 == x211004 && (x210005 == x211005 && (x210006 == x211006 && (x210007 == x211007)))))) && ((x210008 == x211008 && (x210009 == x211009 && (x210010 == x211010))) && (x210011 == x211011))))))) else (none)) else (none)) else (none)) else (none)))
def thalweglaw04_ObjectApart.f (k : Nat) (a0_0 : Int) (a0_1 : Int) (a0_2 : Bool) (a0_3 : Int) (a0_4 : Int) (a0_5 : Int) (a0_6 : Int) (a0_7 : Int) (a0_8 : Int) (a0_9 : Int) (a0_10 : Int) (a0_11 : Int) (a1_0 : Int) (a1_1 : Int) (a1_2 : Bool) (a1_3 : Int) (a1_4 : Int) (a1_5 : Int) (a1_6 : Int) (a1_7 : Int) (a1_8 : Int) (a1_9 : Int) (a1_10 : Int) (a1_11 : Int) : Option (Bool) := (object_Bytes.f k a0_0 a0_1 a0_2 a0_3 a0_4 a0_5 a0_6 a0_7 a0_8 a0_9 a0_10 a0_11).bind fun bt211 => ((object_Bytes.f k a1_0 a1_1 a1_2 a1_3 a1_4 a1_5 a1_6 a1_7 a1_8 a1_9 a1_10 a1_11).bind fun bt215 => (if bt211.2 = 0 then (thalweglaw04_ObjectApart.j0 k bt211.1 bt215.1 (bt215.2 != 0) a0_0 a0_1 a0_2 a0_3 a0_4 a0_5 a0_6 a0_7 a0_8 a0_9 a0_10 a0_11 a1_0 a1_1 a1_2 a1_3 a1_4 a1_5 a1_6 a1_7 a1_8 a1_9 a1_10 a1_11) else (thalweglaw04_ObjectApart.j0 k bt211.1 bt215.1 true a0_0 a0_1 a0_2 a0_3 a0_4 a0_5 a0_6 a0_7 a0_8 a0_9 a0_10 a0_11 a1_0 a1_1 a1_2 a1_3 a1_4 a1_5 a1_6 a1_7 a1_8 a1_9 a1_10 a1_11)))
theorem thalweglaw04_ObjectApart.mono_l : ∀ k, (∀ y0 y1 y2 y3 y4 y5 y6 y7 y8 y9 y10 y11 y12 y13 y14 y15 y16 y17 y18 y19 y20 y21 y22 y23 y24 y25 y26, LeO (thalweglaw04_ObjectApart.j0 k y0 y1 y2 y3 y4 y5 y6 y7 y8 y9 y10 y11 y12 y13 y14 y15 y16 y17 y18 y19 y20 y21 y22 y23 y24 y25 y26) (thalweglaw04_ObjectApart.j0 (k + 1) y0 y1 y2 y3 y4 y5 y6 y7 y8 y9 y10 y11 y12 y13 y14 y15 y16 y17 y18 y19 y20 y21 y22 y23 y24 y25 y26))
  | 0 => fun _ _ _ _ _ _ _ _ _ _ _ _ _ _ _ _ _ _ _ _ _ _ _ _ _ _ _ r h => by simp [thalweglaw04_ObjectApart.j0] at h
  | k + 1 => by
    have ih0 := thalweglaw04_ObjectApart.mono_l k
    · intro y0 y1 y2 y3 y4 y5 y6 y7 y8 y9 y10 y11 y12 y13 y14 y15 y16 y17 y18 y19 y20 y21 y22 y23 y24 y25 y26
      unfold thalweglaw04_ObjectApart.j0
      repeat' first
      | (with_reducible exact ih0 _ _ _ _ _ _ _ _ _ _ _ _ _ _ _ _ _ _ _ _ _ _ _ _ _ _ _)
      | (with_reducible exact object_Bytes.mono _ _ _ _ _ _ _ _ _ _ _ _ _)
      | (with_reducible exact thalweglaw04_awake.mono _)
      | (with_reducible exact LeO.refl _)
      | (with_reducible exact LeO.none _)
      | (with_reducible refine LeO.ite ?_ ?_)
      | (with_reducible refine LeO.bind ?_ (fun _ => ?_))
      | exact ih0 _ _ _ _ _ _ _ _ _ _ _ _ _ _ _ _ _ _ _ _ _ _ _ _ _ _ _
      | exact object_Bytes.mono _ _ _ _ _ _ _ _ _ _ _ _ _
      | exact thalweglaw04_awake.mono _
      | exact LeO.none _
      | refine LeO.ite ?_ ?_
      | refine LeO.bind ?_ (fun _ => ?_)
theorem thalweglaw04_ObjectApart.mono : ∀ a0 a1 a2 a3 a4 a5 a6 a7 a8 a9 a10 a11 a12 a13 a14 a15 a16 a17 a18 a19 a20 a21 a22 a23 k, LeO (thalweglaw04_ObjectApart.f k a0 a1 a2 a3 a4 a5 a6 a7 a8 a9 a10 a11 a12 a13 a14 a15 a16 a17 a18 a19 a20 a21 a22 a23) (thalweglaw04_ObjectApart.f (k + 1) a0 a1 a2 a3 a4 a5 a6 a7 a8 a9 a10 a11 a12 a13 a14 a15 a16 a17 a18 a19 a20 a21 a22 a23) := by
  intro a0 a1 a2 a3 a4 a5 a6 a7 a8 a9 a10 a11 a12 a13 a14 a15 a16 a17 a18 a19 a20 a21 a22 a23 k
  have ih0 := thalweglaw04_ObjectApart.mono_l k
  unfold thalweglaw04_ObjectApart.f
  repeat' first
      | (with_reducible exact ih0 _ _ _ _ _ _ _ _ _ _ _ _ _ _ _ _ _ _ _ _ _ _ _ _ _ _ _)
      | (with_reducible exact object_Bytes.mono _ _ _ _ _ _ _ _ _ _ _ _ _)
      | (with_reducible exact thalweglaw04_awake.mono _)
      | (with_reducible exact LeO.refl _)
      | (with_reducible exact LeO.none _)
      | (with_reducible refine LeO.ite ?_ ?_)
      | (with_reducible refine LeO.bind ?_ (fun _ => ?_))
      | exact ih0 _ _ _ _ _ _ _ _ _ _ _ _ _ _ _ _ _ _ _ _ _ _ _ _ _ _ _
      | exact object_Bytes.mono _ _ _ _ _ _ _ _ _ _ _ _ _
      | exact thalweglaw04_awake.mono _
      | exact LeO.none _
      | refine LeO.ite ?_ ?_
      | refine LeO.bind ?_ (fun _ => ?_)
def thalweglaw04_ObjectApart.T6 : Bool × List (List Nat × List Nat) := (true, [([], []), ([0, 0], [0]), ([1], [1]), ([1], [1]), ([2, 3, 1], [1, 2, 3]), ([4, 1], [1, 4]), ([1], [1]), ([1], [1]), ([6, 7, 1], [1, 6, 7]), ([8, 1], [1, 8]), ([5, 9, 1], [1, 5, 9]), ([1], [1]), ([1], [1]), ([11, 12, 1], [1, 11, 12]), ([10, 13, 1], [1, 10, 13]), ([1, 14], [1, 14]), ([15, 1, 0, 1, 2, 3, 4, 5, 6, 7, 8, 9, 10, 11, 12, 13, 14, 15], [15])])
def thalweglaw04_ObjectApart.B6 : List Nat := [0, 1, 3, 3, 15, 31, 3, 3, 195, 451, 1023, 3, 3, 6147, 16383, 32767, 65535]
theorem thalweglaw04_ObjectApart.tab6 : rtab .any (opsOf Try.f3 6) = thalweglaw04_ObjectApart.T6 := by kernel_rfl
theorem thalweglaw04_ObjectApart.bits6 : waitsOk thalweglaw04_ObjectApart.T6.2 thalweglaw04_ObjectApart.B6 = true := by kernel_rfl
set_option maxHeartbeats 8000000 in
set_option maxRecDepth 100000 in
theorem thalweglaw04_ObjectApart.calls (k : Nat) (a0_0 : Int) (a0_1 : Int) (a0_2 : Bool) (a0_3 : Int) (a0_4 : Int) (a0_5 : Int) (a0_6 : Int) (a0_7 : Int) (a0_8 : Int) (a0_9 : Int) (a0_10 : Int) (a0_11 : Int) (a1_0 : Int) (a1_1 : Int) (a1_2 : Bool) (a1_3 : Int) (a1_4 : Int) (a1_5 : Int) (a1_6 : Int) (a1_7 : Int) (a1_8 : Int) (a1_9 : Int) (a1_10 : Int) (a1_11 : Int) (r : Bool) (w : World) (h : thalweglaw04_ObjectApart.f k a0_0 a0_1 a0_2 a0_3 a0_4 a0_5 a0_6 a0_7 a0_8 a0_9 a0_10 a0_11 a1_0 a1_1 a1_2 a1_3 a1_4 a1_5 a1_6 a1_7 a1_8 a1_9 a1_10 a1_11 = some r) :
    Calls Try.prog 3 #[.agg #[.int .i64 a0_0, .int .i64 a0_1, .bool a0_2, .int .i64 a0_3, .int .i64 a0_4, .int .i64 a0_5, .int .i64 a0_6, .int .i64 a0_7, .int .i64 a0_8, .int .i64 a0_9, .int .i64 a0_10, .int .i64 a0_11], .agg #[.int .i64 a1_0, .int .i64 a1_1, .bool a1_2, .int .i64 a1_3, .int .i64 a1_4, .int .i64 a1_5, .int .i64 a1_6, .int .i64 a1_7, .int .i64 a1_8, .int .i64 a1_9, .int .i64 a1_10, .int .i64 a1_11]] w fun e w' => e = .returned (.bool r) ∧ Below w.heap.size w w' := by
  have hu27 := Try.underlying27
  have HB := Aside0.mk (Below.refl w.heap.size w)
  have H : ((object_Bytes.f k a0_0 a0_1 a0_2 a0_3 a0_4 a0_5 a0_6 a0_7 a0_8 a0_9 a0_10 a0_11).bind fun bt211 => ((object_Bytes.f k a1_0 a1_1 a1_2 a1_3 a1_4 a1_5 a1_6 a1_7 a1_8 a1_9 a1_10 a1_11).bind fun bt215 => (if bt211.2 = 0 then (thalweglaw04_ObjectApart.j0 k bt211.1 bt215.1 (bt215.2 != 0) a0_0 a0_1 a0_2 a0_3 a0_4 a0_5 a0_6 a0_7 a0_8 a0_9 a0_10 a0_11 a1_0 a1_1 a1_2 a1_3 a1_4 a1_5 a1_6 a1_7 a1_8 a1_9 a1_10 a1_11) else (thalweglaw04_ObjectApart.j0 k bt211.1 bt215.1 true a0_0 a0_1 a0_2 a0_3 a0_4 a0_5 a0_6 a0_7 a0_8 a0_9 a0_10 a0_11 a1_0 a1_1 a1_2 a1_3 a1_4 a1_5 a1_6 a1_7 a1_8 a1_9 a1_10 a1_11)))) = some r := h
  clear h
  replace H := Option.bind_eq_some_iff.mp H
  obtain ⟨⟨t211, t214⟩, A30, H⟩ := H
  replace H : ((object_Bytes.f k a1_0 a1_1 a1_2 a1_3 a1_4 a1_5 a1_6 a1_7 a1_8 a1_9 a1_10 a1_11).bind fun bt215 => (if t214 = 0 then (thalweglaw04_ObjectApart.j0 k t211 bt215.1 (bt215.2 != 0) a0_0 a0_1 a0_2 a0_3 a0_4 a0_5 a0_6 a0_7 a0_8 a0_9 a0_10 a0_11 a1_0 a1_1 a1_2 a1_3 a1_4 a1_5 a1_6 a1_7 a1_8 a1_9 a1_10 a1_11) else (thalweglaw04_ObjectApart.j0 k t211 bt215.1 true a0_0 a0_1 a0_2 a0_3 a0_4 a0_5 a0_6 a0_7 a0_8 a0_9 a0_10 a0_11 a1_0 a1_1 a1_2 a1_3 a1_4 a1_5 a1_6 a1_7 a1_8 a1_9 a1_10 a1_11))) = some r := H
  have A3 := Aside0.mk A30
  clear A30
  replace H := Option.bind_eq_some_iff.mp H
  obtain ⟨⟨t215, t218⟩, A40, H⟩ := H
  replace H : (if t214 = 0 then (thalweglaw04_ObjectApart.j0 k t211 t215 (t218 != 0) a0_0 a0_1 a0_2 a0_3 a0_4 a0_5 a0_6 a0_7 a0_8 a0_9 a0_10 a0_11 a1_0 a1_1 a1_2 a1_3 a1_4 a1_5 a1_6 a1_7 a1_8 a1_9 a1_10 a1_11) else (thalweglaw04_ObjectApart.j0 k t211 t215 true a0_0 a0_1 a0_2 a0_3 a0_4 a0_5 a0_6 a0_7 a0_8 a0_9 a0_10 a0_11 a1_0 a1_1 a1_2 a1_3 a1_4 a1_5 a1_6 a1_7 a1_8 a1_9 a1_10 a1_11)) = some r := H
  have A4 := Aside0.mk A40
  clear A40
  have HC5 := Aside0.mk H
  clear H
  go_enter Try.func3, Try.ntmps3
  go_upto_region 3 with (first | ((with_reducible refine gate_dst (N := 2) rfl ?_); refine box_event ?hg (N := 2) ?hd (cs := #[.int .i64 a0_0, .int .i64 a0_1, .bool a0_2, .int .i64 a0_3, .int .i64 a0_4, .int .i64 a0_5, .int .i64 a0_6, .int .i64 a0_7, .int .i64 a0_8, .int .i64 a0_9, .int .i64 a0_10, .int .i64 a0_11]) (t := 27) ?hr ?_; (case hd => rfl); (case hg => rfl); (case hr => first | (go_simp; done) | (go_simp; rfl)); intro gb209 hg w6 hbox hb; have n0_ := Aside0.mk (below_step (by repeat (first | (with_reducible first | exact HB.out | apply below_alloc | apply pw_below_drewN | apply below_drew1) | exact HB.out)) hb); have n1_ := Aside0.mk (hbox); have n2_ := Aside0.mk ((by rw [hg]; exact (below_size (by repeat (first | (with_reducible first | exact HB.out | apply below_alloc | apply pw_below_drewN | apply below_drew1) | exact HB.out))) : w.heap.size ≤ gb209)); have n3_ := Aside0.mk ((by rw [hg]; exact (below_size (by repeat (first | (with_reducible first | exact HB.out | apply below_alloc | apply pw_below_drewN | apply below_drew1) | exact HB.out))) : w.heap.size ≤ gb209)); clear HB; have HB := n0_; have BK209 := n1_; have GW209 := n2_; have GE209 := n3_; clear n0_ n1_ n2_ n3_; clear hb hbox hg) | ((with_reducible refine gate_dst (N := 3) rfl ?_); refine box_event ?hg (N := 3) ?hd (cs := #[.int .i64 a1_0, .int .i64 a1_1, .bool a1_2, .int .i64 a1_3, .int .i64 a1_4, .int .i64 a1_5, .int .i64 a1_6, .int .i64 a1_7, .int .i64 a1_8, .int .i64 a1_9, .int .i64 a1_10, .int .i64 a1_11]) (t := 27) ?hr ?_; (case hd => rfl); (case hg => rfl); (case hr => first | (go_simp; done) | (go_simp; rfl)); intro gb210 hg w7 hbox hb; have n0_ := Aside0.mk (blk_below (g := gb209) (o := .cells #[.int .i64 a0_0, .int .i64 a0_1, .bool a0_2, .int .i64 a0_3, .int .i64 a0_4, .int .i64 a0_5, .int .i64 a0_6, .int .i64 a0_7, .int .i64 a0_8, .int .i64 a0_9, .int .i64 a0_10, .int .i64 a0_11] 27 (0, 0)) (by (with_reducible repeat (first | refine blk_drewN ?_ _ | refine blk_drew ?_ | refine blk_alloc ?_ _)); exact BK209.out) hb); have n1_ := Aside0.mk (below_step (by repeat (first | (with_reducible first | exact HB.out | apply below_alloc | apply pw_below_drewN | apply below_drew1 | refine below_set ?_ GE209.out) | exact HB.out)) hb); have n2_ := Aside0.mk (hbox); have n3_ := Aside0.mk ((by rw [hg]; exact (below_size (by repeat (first | (with_reducible first | exact HB.out | apply below_alloc | apply pw_below_drewN | apply below_drew1 | refine below_set ?_ GE209.out) | exact HB.out))) : w.heap.size ≤ gb210)); have n4_ := Aside0.mk ((by rw [hg]; exact (below_size (by repeat (first | (with_reducible first | exact HB.out | apply below_alloc | apply pw_below_drewN | apply below_drew1 | refine below_set ?_ GE209.out) | exact HB.out))) : w.heap.size ≤ gb210)); have n5_ := Aside0.mk ((by rw [hg]; exact Nat.ne_of_lt (blk_lt (g := gb209) (o := .cells #[.int .i64 a0_0, .int .i64 a0_1, .bool a0_2, .int .i64 a0_3, .int .i64 a0_4, .int .i64 a0_5, .int .i64 a0_6, .int .i64 a0_7, .int .i64 a0_8, .int .i64 a0_9, .int .i64 a0_10, .int .i64 a0_11] 27 (0, 0)) (by (with_reducible repeat (first | refine blk_drewN ?_ _ | refine blk_drew ?_ | refine blk_alloc ?_ _)); exact BK209.out)) : gb209 ≠ gb210)); have n6_ := Aside0.mk ((by rw [hg]; exact Nat.ne_of_gt (blk_lt (g := gb209) (o := .cells #[.int .i64 a0_0, .int .i64 a0_1, .bool a0_2, .int .i64 a0_3, .int .i64 a0_4, .int .i64 a0_5, .int .i64 a0_6, .int .i64 a0_7, .int .i64 a0_8, .int .i64 a0_9, .int .i64 a0_10, .int .i64 a0_11] 27 (0, 0)) (by (with_reducible repeat (first | refine blk_drewN ?_ _ | refine blk_drew ?_ | refine blk_alloc ?_ _)); exact BK209.out)) : gb210 ≠ gb209)); clear BK209; clear HB; have BK209 := n0_; have HB := n1_; have BK210 := n2_; have GW210 := n3_; have GE210 := n4_; have NB209_210 := n5_; have NB210_209 := n6_; clear n0_ n1_ n2_ n3_ n4_ n5_ n6_; clear hb hbox hg; have hnb8 := NB209_210.out; have hnc8 := NB210_209.out; have hcz9_0 : w7.cell? ⟨gb209, 0, none⟩ = some (.int .i64 a0_0) := (blk_cell BK209.out 0).trans rfl; have hcz9_1 : w7.cell? ⟨gb209, 1, none⟩ = some (.int .i64 a0_1) := (blk_cell BK209.out 1).trans rfl; have hcz9_2 : w7.cell? ⟨gb209, 2, none⟩ = some (.bool a0_2) := (blk_cell BK209.out 2).trans rfl; have hcz9_3 : w7.cell? ⟨gb209, 3, none⟩ = some (.int .i64 a0_3) := (blk_cell BK209.out 3).trans rfl; have hcz9_4 : w7.cell? ⟨gb209, 4, none⟩ = some (.int .i64 a0_4) := (blk_cell BK209.out 4).trans rfl; have hcz9_5 : w7.cell? ⟨gb209, 5, none⟩ = some (.int .i64 a0_5) := (blk_cell BK209.out 5).trans rfl; have hcz9_6 : w7.cell? ⟨gb209, 6, none⟩ = some (.int .i64 a0_6) := (blk_cell BK209.out 6).trans rfl; have hcz9_7 : w7.cell? ⟨gb209, 7, none⟩ = some (.int .i64 a0_7) := (blk_cell BK209.out 7).trans rfl; have hcz9_8 : w7.cell? ⟨gb209, 8, none⟩ = some (.int .i64 a0_8) := (blk_cell BK209.out 8).trans rfl; have hcz9_9 : w7.cell? ⟨gb209, 9, none⟩ = some (.int .i64 a0_9) := (blk_cell BK209.out 9).trans rfl; have hcz9_10 : w7.cell? ⟨gb209, 10, none⟩ = some (.int .i64 a0_10) := (blk_cell BK209.out 10).trans rfl; have hcz9_11 : w7.cell? ⟨gb209, 11, none⟩ = some (.int .i64 a0_11) := (blk_cell BK209.out 11).trans rfl; have hfz9_0 := blk_frozen BK209.out 0; have hfz9_1 := blk_frozen BK209.out 1; have hfz9_2 := blk_frozen BK209.out 2; have hfz9_3 := blk_frozen BK209.out 3; have hfz9_4 := blk_frozen BK209.out 4; have hfz9_5 := blk_frozen BK209.out 5; have hfz9_6 := blk_frozen BK209.out 6; have hfz9_7 := blk_frozen BK209.out 7; have hfz9_8 := blk_frozen BK209.out 8; have hfz9_9 := blk_frozen BK209.out 9; have hfz9_10 := blk_frozen BK209.out 10; have hfz9_11 := blk_frozen BK209.out 11) | ((with_reducible refine gate_callee (f := 7) rfl ?_); refine goesL_ (some 12) rfl rfl Try.func7 (by kernel_rfl) rfl #[.agg #[.int .i64 a0_0, .int .i64 a0_1, .bool a0_2, .int .i64 a0_3, .int .i64 a0_4, .int .i64 a0_5, .int .i64 a0_6, .int .i64 a0_7, .int .i64 a0_8, .int .i64 a0_9, .int .i64 a0_10, .int .i64 a0_11]] rfl (by (try simp only [List.map_toArray, List.map_cons, List.map_nil]); first | done | rfl | (simp only [List.length_drop, List.length_take]; rfl)) ?_; (with_reducible refine (object_Bytes.calls k a0_0 a0_1 a0_2 a0_3 a0_4 a0_5 a0_6 a0_7 a0_8 a0_9 a0_10 a0_11 t211 t214 _ A3.out).mono ?_); rintro e w10 ⟨v212, rfl, ho0, hb⟩; refine ⟨_, rfl, ?_⟩; have n0_ := Aside0.mk (Kd.R_lower ho0 (below_size (by repeat (first | (with_reducible first | exact HB.out | apply below_alloc | apply pw_below_drewN | apply below_drew1 | refine below_set ?_ GE209.out | refine below_set ?_ GE210.out) | exact HB.out)))); have n1_ := Aside0.mk (blk_below (g := gb209) (o := .cells #[.int .i64 a0_0, .int .i64 a0_1, .bool a0_2, .int .i64 a0_3, .int .i64 a0_4, .int .i64 a0_5, .int .i64 a0_6, .int .i64 a0_7, .int .i64 a0_8, .int .i64 a0_9, .int .i64 a0_10, .int .i64 a0_11] 27 (0, 0)) (by (with_reducible repeat (first | refine blk_drewN ?_ _ | refine blk_drew ?_ | refine blk_alloc ?_ _)); exact BK209.out) hb); have n2_ := Aside0.mk (blk_below (g := gb210) (o := .cells #[.int .i64 a1_0, .int .i64 a1_1, .bool a1_2, .int .i64 a1_3, .int .i64 a1_4, .int .i64 a1_5, .int .i64 a1_6, .int .i64 a1_7, .int .i64 a1_8, .int .i64 a1_9, .int .i64 a1_10, .int .i64 a1_11] 27 (0, 0)) (by (with_reducible repeat (first | refine blk_drewN ?_ _ | refine blk_drew ?_ | refine blk_alloc ?_ _)); exact BK210.out) hb); have n3_ := Aside0.mk (below_step (by repeat (first | (with_reducible first | exact HB.out | apply below_alloc | apply pw_below_drewN | apply below_drew1 | refine below_set ?_ GE209.out | refine below_set ?_ GE210.out) | exact HB.out)) hb); clear BK209; clear BK210; clear HB; have HO213 := n0_; have BK209 := n1_; have BK210 := n2_; have HB := n3_; clear n0_ n1_ n2_ n3_; (try clear hb); (try clear hb2); (try clear hk); (try clear hi); (try clear ho0); have hcz11_0 : w10.cell? ⟨gb210, 0, none⟩ = some (.int .i64 a1_0) := (blk_cell BK210.out 0).trans rfl; have hcz11_1 : w10.cell? ⟨gb210, 1, none⟩ = some (.int .i64 a1_1) := (blk_cell BK210.out 1).trans rfl; have hcz11_2 : w10.cell? ⟨gb210, 2, none⟩ = some (.bool a1_2) := (blk_cell BK210.out 2).trans rfl; have hcz11_3 : w10.cell? ⟨gb210, 3, none⟩ = some (.int .i64 a1_3) := (blk_cell BK210.out 3).trans rfl; have hcz11_4 : w10.cell? ⟨gb210, 4, none⟩ = some (.int .i64 a1_4) := (blk_cell BK210.out 4).trans rfl; have hcz11_5 : w10.cell? ⟨gb210, 5, none⟩ = some (.int .i64 a1_5) := (blk_cell BK210.out 5).trans rfl; have hcz11_6 : w10.cell? ⟨gb210, 6, none⟩ = some (.int .i64 a1_6) := (blk_cell BK210.out 6).trans rfl; have hcz11_7 : w10.cell? ⟨gb210, 7, none⟩ = some (.int .i64 a1_7) := (blk_cell BK210.out 7).trans rfl; have hcz11_8 : w10.cell? ⟨gb210, 8, none⟩ = some (.int .i64 a1_8) := (blk_cell BK210.out 8).trans rfl; have hcz11_9 : w10.cell? ⟨gb210, 9, none⟩ = some (.int .i64 a1_9) := (blk_cell BK210.out 9).trans rfl; have hcz11_10 : w10.cell? ⟨gb210, 10, none⟩ = some (.int .i64 a1_10) := (blk_cell BK210.out 10).trans rfl; have hcz11_11 : w10.cell? ⟨gb210, 11, none⟩ = some (.int .i64 a1_11) := (blk_cell BK210.out 11).trans rfl; have hfz11_0 := blk_frozen BK210.out 0; have hfz11_1 := blk_frozen BK210.out 1; have hfz11_2 := blk_frozen BK210.out 2; have hfz11_3 := blk_frozen BK210.out 3; have hfz11_4 := blk_frozen BK210.out 4; have hfz11_5 := blk_frozen BK210.out 5; have hfz11_6 := blk_frozen BK210.out 6; have hfz11_7 := blk_frozen BK210.out 7; have hfz11_8 := blk_frozen BK210.out 8; have hfz11_9 := blk_frozen BK210.out 9; have hfz11_10 := blk_frozen BK210.out 10; have hfz11_11 := blk_frozen BK210.out 11) | ((with_reducible refine gate_callee (f := 7) rfl ?_); refine goesL_ (some 17) rfl rfl Try.func7 (by kernel_rfl) rfl #[.agg #[.int .i64 a1_0, .int .i64 a1_1, .bool a1_2, .int .i64 a1_3, .int .i64 a1_4, .int .i64 a1_5, .int .i64 a1_6, .int .i64 a1_7, .int .i64 a1_8, .int .i64 a1_9, .int .i64 a1_10, .int .i64 a1_11]] rfl (by (try simp only [List.map_toArray, List.map_cons, List.map_nil]); first | done | rfl | (simp only [List.length_drop, List.length_take]; rfl)) ?_; (with_reducible refine (object_Bytes.calls k a1_0 a1_1 a1_2 a1_3 a1_4 a1_5 a1_6 a1_7 a1_8 a1_9 a1_10 a1_11 t215 t218 _ A4.out).mono ?_); rintro e w12 ⟨v216, rfl, ho0, hb⟩; refine ⟨_, rfl, ?_⟩; have n0_ := Aside0.mk (Kd.R_elder' (by (with_reducible repeat (first | apply Kd.R_alloc | apply Kd.R_drewN | apply Kd.R_drew)); exact HO213.out) (Kd.R_base ho0) hb); have n1_ := Aside0.mk (Kd.R_lower (Kd.R_new' ho0 (Kd.R_lt (by (with_reducible repeat (first | apply Kd.R_alloc | apply Kd.R_drewN | apply Kd.R_drew)); exact HO213.out))) (below_size (by repeat (first | (with_reducible first | exact HB.out | apply below_alloc | apply pw_below_drewN | apply below_drew1 | refine below_set ?_ GE209.out | refine below_set ?_ GE210.out) | exact HB.out)))); have n2_ := Aside0.mk (blk_below (g := gb209) (o := .cells #[.int .i64 a0_0, .int .i64 a0_1, .bool a0_2, .int .i64 a0_3, .int .i64 a0_4, .int .i64 a0_5, .int .i64 a0_6, .int .i64 a0_7, .int .i64 a0_8, .int .i64 a0_9, .int .i64 a0_10, .int .i64 a0_11] 27 (0, 0)) (by (with_reducible repeat (first | refine blk_drewN ?_ _ | refine blk_drew ?_ | refine blk_alloc ?_ _)); exact BK209.out) hb); have n3_ := Aside0.mk (blk_below (g := gb210) (o := .cells #[.int .i64 a1_0, .int .i64 a1_1, .bool a1_2, .int .i64 a1_3, .int .i64 a1_4, .int .i64 a1_5, .int .i64 a1_6, .int .i64 a1_7, .int .i64 a1_8, .int .i64 a1_9, .int .i64 a1_10, .int .i64 a1_11] 27 (0, 0)) (by (with_reducible repeat (first | refine blk_drewN ?_ _ | refine blk_drew ?_ | refine blk_alloc ?_ _)); exact BK210.out) hb); have n4_ := Aside0.mk (below_step (by repeat (first | (with_reducible first | exact HB.out | apply below_alloc | apply pw_below_drewN | apply below_drew1 | refine below_set ?_ GE209.out | refine below_set ?_ GE210.out) | exact HB.out)) hb); clear HO213; clear BK209; clear BK210; clear HB; have HO213 := n0_; have HO217 := n1_; have BK209 := n2_; have BK210 := n3_; have HB := n4_; clear n0_ n1_ n2_ n3_ n4_; (try clear hb); (try clear hb2); (try clear hk); (try clear hi); (try clear ho0)))
  (try simp only [Act.put, List.setIfInBounds_toArray, List.set_cons_zero, List.set_cons_succ])
  go_cut [25] (fun v25 wc => ∃ (kq : Nat) (x25_4 : Bool), v25 = .bool x25_4 ∧ Aside0 (thalweglaw04_ObjectApart.j0 kq t211 t215 x25_4 a0_0 a0_1 a0_2 a0_3 a0_4 a0_5 a0_6 a0_7 a0_8 a0_9 a0_10 a0_11 a1_0 a1_1 a1_2 a1_3 a1_4 a1_5 a1_6 a1_7 a1_8 a1_9 a1_10 a1_11 = some r) ∧ Aside0 (kq ≤ k) ∧ Aside0 (Kd.R (Kd.int .u8) 5 wc w.heap.size (fun k_ => some k_ ≠ (v216 : Value).ownBlock) v212 t211) ∧ Aside0 (Kd.R (Kd.int .u8) 5 wc w.heap.size (fun k_ => some k_ ≠ (v212 : Value).ownBlock) v216 t215) ∧ Aside0 (wc.heap[gb209]? = some (.cells #[.int .i64 a0_0, .int .i64 a0_1, .bool a0_2, .int .i64 a0_3, .int .i64 a0_4, .int .i64 a0_5, .int .i64 a0_6, .int .i64 a0_7, .int .i64 a0_8, .int .i64 a0_9, .int .i64 a0_10, .int .i64 a0_11] 27 (0, 0))) ∧ Aside0 (wc.heap[gb210]? = some (.cells #[.int .i64 a1_0, .int .i64 a1_1, .bool a1_2, .int .i64 a1_3, .int .i64 a1_4, .int .i64 a1_5, .int .i64 a1_6, .int .i64 a1_7, .int .i64 a1_8, .int .i64 a1_9, .int .i64 a1_10, .int .i64 a1_11] 27 (0, 0))) ∧ Aside0 (Below w.heap.size w wc))
  case first =>
    have H := HC5.out
    clear HC5
    by_cases c13 : t214 = 0
    · rw [if_pos c13] at H
      have c13b0 : (t214 == 0) = true := beq_iff_eq.mpr c13
      have c13b1 : (t214 != 0) = false := bne_eq_false_iff_eq.mpr c13
      clear c13
      (first | rw [c13b0] | (simp only [i64_w, i32_w]; rw [c13b0]) | skip)
      have H' := Aside0.mk H
      clear H
      go_wp2
      go_meet
      case rel => exact ⟨_, ((t218 != 0)), (by first | rfl | (simp; done) | (simp [*]; done)), H', ⟨by first | omega | exact Nat.le_refl _⟩, ⟨by (with_reducible repeat (first | apply Kd.R_alloc | apply Kd.R_drewN | apply Kd.R_drew)); exact Kd.R_mono HO213.out (fun _ hk => by first | exact hk.2 | exact trivial | simp_all)⟩, ⟨by (with_reducible repeat (first | apply Kd.R_alloc | apply Kd.R_drewN | apply Kd.R_drew)); exact Kd.R_mono HO217.out (fun _ hk => by first | exact hk.2 | exact trivial | simp_all)⟩, ⟨by (with_reducible repeat (first | refine blk_drewN ?_ _ | refine blk_drew ?_ | refine blk_alloc ?_ _)); exact BK209.out⟩, ⟨by (with_reducible repeat (first | refine blk_drewN ?_ _ | refine blk_drew ?_ | refine blk_alloc ?_ _)); exact BK210.out⟩, ⟨by repeat (first | (with_reducible first | exact HB.out | apply below_alloc | apply pw_below_drewN | apply below_drew1 | refine below_set ?_ GE209.out | refine below_set ?_ GE210.out) | exact HB.out)⟩⟩
    · rw [if_neg c13] at H
      have c13b0 : (t214 == 0) = false := beq_eq_false_iff_ne.mpr c13
      have c13b1 : (t214 != 0) = true := bne_iff_ne.mpr c13
      (first | rw [c13b0] | (simp only [i64_w, i32_w]; rw [c13b0]) | skip)
      have H' := Aside0.mk H
      clear H
      go_wp2
      go_meet
      case rel => exact ⟨_, (true), (by first | rfl | (simp; done) | (simp [*]; done)), H', ⟨by first | omega | exact Nat.le_refl _⟩, ⟨by (with_reducible repeat (first | apply Kd.R_alloc | apply Kd.R_drewN | apply Kd.R_drew)); exact Kd.R_mono HO213.out (fun _ hk => by first | exact hk.2 | exact trivial | simp_all)⟩, ⟨by (with_reducible repeat (first | apply Kd.R_alloc | apply Kd.R_drewN | apply Kd.R_drew)); exact Kd.R_mono HO217.out (fun _ hk => by first | exact hk.2 | exact trivial | simp_all)⟩, ⟨by (with_reducible repeat (first | refine blk_drewN ?_ _ | refine blk_drew ?_ | refine blk_alloc ?_ _)); exact BK209.out⟩, ⟨by (with_reducible repeat (first | refine blk_drewN ?_ _ | refine blk_drew ?_ | refine blk_alloc ?_ _)); exact BK210.out⟩, ⟨by repeat (first | (with_reducible first | exact HB.out | apply below_alloc | apply pw_below_drewN | apply below_drew1 | refine below_set ?_ GE209.out | refine below_set ?_ GE210.out) | exact HB.out)⟩⟩
  case rest =>
    clear HC5
    try clear c1
    try clear p2
    try clear c3
    try clear c7
    try clear c8
    try clear c13
    try clear c13b0
    try clear c13b1
    try clear hcz11_0
    try clear hcz11_1
    try clear hcz11_10
    try clear hcz11_11
    try clear hcz11_2
    try clear hcz11_3
    try clear hcz11_4
    try clear hcz11_5
    try clear hcz11_6
    try clear hcz11_7
    try clear hcz11_8
    try clear hcz11_9
    try clear hcz9_0
    try clear hcz9_1
    try clear hcz9_10
    try clear hcz9_11
    try clear hcz9_2
    try clear hcz9_3
    try clear hcz9_4
    try clear hcz9_5
    try clear hcz9_6
    try clear hcz9_7
    try clear hcz9_8
    try clear hcz9_9
    try clear hfz11_0
    try clear hfz11_1
    try clear hfz11_10
    try clear hfz11_11
    try clear hfz11_2
    try clear hfz11_3
    try clear hfz11_4
    try clear hfz11_5
    try clear hfz11_6
    try clear hfz11_7
    try clear hfz11_8
    try clear hfz11_9
    try clear hfz9_0
    try clear hfz9_1
    try clear hfz9_10
    try clear hfz9_11
    try clear hfz9_2
    try clear hfz9_3
    try clear hfz9_4
    try clear hfz9_5
    try clear hfz9_6
    try clear hfz9_7
    try clear hfz9_8
    try clear hfz9_9
    obtain ⟨kq, x25_4, rfl, HA, HJ4, HO_5, HO_7, BK209, BK210, HB⟩ := hcut
    cases kq with
    | zero => exact absurd HA.out (by simp [thalweglaw04_ObjectApart.j0])
    | succ kj4 =>
      have H := HA.out
      clear HA
      simp only [thalweglaw04_ObjectApart.j0] at H
      by_cases c14 : x25_4 = true
      · subst c14
        have H1 : ((thalweglaw04_awake.f kj4).bind fun t219 => (some t219)) = some r := by rw [if_pos rfl] at H; exact H
        clear H
        have H := H1
        clear H1
        replace H := Option.bind_eq_some_iff.mp H
        obtain ⟨t219, A150, H⟩ := H
        replace H : (some t219) = some r := H
        have A15 := Aside0.mk A150
        clear A150
        obtain rfl := Option.some.inj H
        go_wp2_with (first | ((with_reducible refine gate_callee (f := 8) rfl ?_); refine goesL_ (some 26) rfl rfl Try.func8 (by kernel_rfl) rfl #[] rfl (by (try simp only [List.map_toArray, List.map_cons, List.map_nil]); first | done | rfl | (simp only [List.length_drop, List.length_take]; rfl)) ?_; (with_reducible refine (thalweglaw04_awake.calls kj4  t219 _ A15.out).mono ?_); rintro e w16 ⟨rfl, hb⟩; refine ⟨_, rfl, ?_⟩; have n0_ := Aside0.mk (Kd.R_below (by (with_reducible repeat (first | apply Kd.R_alloc | apply Kd.R_drewN | apply Kd.R_drew)); exact HO_5.out) hb); have n1_ := Aside0.mk (Kd.R_below (by (with_reducible repeat (first | apply Kd.R_alloc | apply Kd.R_drewN | apply Kd.R_drew)); exact HO_7.out) hb); have n2_ := Aside0.mk (blk_below (g := gb209) (o := .cells #[.int .i64 a0_0, .int .i64 a0_1, .bool a0_2, .int .i64 a0_3, .int .i64 a0_4, .int .i64 a0_5, .int .i64 a0_6, .int .i64 a0_7, .int .i64 a0_8, .int .i64 a0_9, .int .i64 a0_10, .int .i64 a0_11] 27 (0, 0)) (by (with_reducible repeat (first | refine blk_drewN ?_ _ | refine blk_drew ?_ | refine blk_alloc ?_ _)); exact BK209.out) hb); have n3_ := Aside0.mk (blk_below (g := gb210) (o := .cells #[.int .i64 a1_0, .int .i64 a1_1, .bool a1_2, .int .i64 a1_3, .int .i64 a1_4, .int .i64 a1_5, .int .i64 a1_6, .int .i64 a1_7, .int .i64 a1_8, .int .i64 a1_9, .int .i64 a1_10, .int .i64 a1_11] 27 (0, 0)) (by (with_reducible repeat (first | refine blk_drewN ?_ _ | refine blk_drew ?_ | refine blk_alloc ?_ _)); exact BK210.out) hb); have n4_ := Aside0.mk (below_step (by repeat (first | (with_reducible first | exact HB.out | apply below_alloc | apply pw_below_drewN | apply below_drew1 | refine below_set ?_ GE209.out | refine below_set ?_ GE210.out) | exact HB.out)) hb); clear HO_5; clear HO_7; clear BK209; clear BK210; clear HB; have HO_5 := n0_; have HO_7 := n1_; have BK209 := n2_; have BK210 := n3_; have HB := n4_; clear n0_ n1_ n2_ n3_ n4_; (try clear hb); (try clear hb2); (try clear hk); (try clear hi)))
        go_ret
        exact ⟨by first | rfl | (simp [errW_none, errW_some] <;> rfl) | (simp [*, errW_none, errW_some] <;> rfl), by repeat (first | (with_reducible first | exact HB.out | apply below_alloc | apply pw_below_drewN | apply below_drew1 | refine below_set ?_ GE209.out | refine below_set ?_ GE210.out) | exact HB.out)⟩
      · replace c14 := Bool.eq_false_iff.mpr c14
        subst c14
        have H1 : ((thalweglaw04_awake.f kj4).bind fun t220 => (if t220 = true then (if 0 ≤ (mn (t211.length : Int) (t215.length : Int)) then (if (mn (t211.length : Int) (t215.length : Int)) ≤ (t211.length : Int) then (if (mn (t211.length : Int) (t215.length : Int)) ≤ (t215.length : Int) then (some (((strOfNums (t211.take ((mn (t211.length : Int) (t215.length : Int)) : Int).toNat)).toList == (strOfNums (t215.take ((mn (t211.length : Int) (t215.length : Int)) : Int).toNat)).toList) == (a0_0 == a1_0 && (a0_1 == a1_1 && ((a0_2 == a1_2 && (a0_3 == a1_3 && (a0_4 == a1_4 && (a0_5 == a1_5 && (a0_6 == a1_6 && (a0_7 == a1_7)))))) && ((a0_8 == a1_8 && (a0_9 == a1_9 && (a0_10 == a1_10))) && (a0_11 == a1_11))))))) else (none)) else (none)) else (none)) else (none))) = some r := by rw [if_neg (show ¬ (false = true) by decide)] at H; exact H
        clear H
        have H := H1
        clear H1
        obtain ⟨ji17, hji17⟩ : ∃ j_ : Int, (mn (t211.length : Int) (t215.length : Int)) = j_ := ⟨_, rfl⟩
        replace H : ((thalweglaw04_awake.f kj4).bind fun t220 => (if t220 = true then (if 0 ≤ (ji17) then (if (ji17) ≤ (t211.length : Int) then (if (ji17) ≤ (t215.length : Int) then (some (((strOfNums (t211.take ((ji17) : Int).toNat)).toList == (strOfNums (t215.take ((ji17) : Int).toNat)).toList) == (a0_0 == a1_0 && (a0_1 == a1_1 && ((a0_2 == a1_2 && (a0_3 == a1_3 && (a0_4 == a1_4 && (a0_5 == a1_5 && (a0_6 == a1_6 && (a0_7 == a1_7)))))) && ((a0_8 == a1_8 && (a0_9 == a1_9 && (a0_10 == a1_10))) && (a0_11 == a1_11))))))) else (none)) else (none)) else (none)) else (none))) = some r := by first | (rw [hji17] at H; exact H) | (simp only [hji17] at H ⊢; exact H)
        have hji17_ : (if (t215.length : Int) < (t211.length : Int) then (t215.length : Int) else (t211.length : Int)) = ji17 := hji17
        have hji17n_ : (if t215.length < t211.length then (t215.length : Int) else (t211.length : Int)) = ji17 := (by rw [← hji17]; simp only [mn]; split <;> split <;> omega)
        replace H := Option.bind_eq_some_iff.mp H
        obtain ⟨t220, A180, H⟩ := H
        replace H : (if t220 = true then (if 0 ≤ (ji17) then (if (ji17) ≤ (t211.length : Int) then (if (ji17) ≤ (t215.length : Int) then (some (((strOfNums (t211.take ((ji17) : Int).toNat)).toList == (strOfNums (t215.take ((ji17) : Int).toNat)).toList) == (a0_0 == a1_0 && (a0_1 == a1_1 && ((a0_2 == a1_2 && (a0_3 == a1_3 && (a0_4 == a1_4 && (a0_5 == a1_5 && (a0_6 == a1_6 && (a0_7 == a1_7)))))) && ((a0_8 == a1_8 && (a0_9 == a1_9 && (a0_10 == a1_10))) && (a0_11 == a1_11))))))) else (none)) else (none)) else (none)) else (none)) = some r := H
        have A18 := Aside0.mk A180
        clear A180
        by_cases c19 : t220 = true
        · subst c19
          have H1 : (if 0 ≤ (ji17) then (if (ji17) ≤ (t211.length : Int) then (if (ji17) ≤ (t215.length : Int) then (some (((strOfNums (t211.take ((ji17) : Int).toNat)).toList == (strOfNums (t215.take ((ji17) : Int).toNat)).toList) == (a0_0 == a1_0 && (a0_1 == a1_1 && ((a0_2 == a1_2 && (a0_3 == a1_3 && (a0_4 == a1_4 && (a0_5 == a1_5 && (a0_6 == a1_6 && (a0_7 == a1_7)))))) && ((a0_8 == a1_8 && (a0_9 == a1_9 && (a0_10 == a1_10))) && (a0_11 == a1_11))))))) else (none)) else (none)) else (none)) = some r := by rw [if_pos rfl] at H; exact H
          clear H
          have H := H1
          clear H1
          by_cases c20 : 0 ≤ (ji17)
          rotate_left
          · rw [if_neg c20] at H
            exact absurd H (by simp)
          rw [if_pos c20] at H
          have c20b0 := eq_true c20
          have c20b1 : decide (0 ≤ (ji17)) = true := decide_eq_true c20
          clear c20
          by_cases c21 : (ji17) ≤ (t211.length : Int)
          rotate_left
          · rw [if_neg c21] at H
            exact absurd H (by simp)
          rw [if_pos c21] at H
          have c21b0 := eq_true c21
          have c21b1 : decide ((ji17) ≤ (t211.length : Int)) = true := decide_eq_true c21
          clear c21
          obtain ⟨y221, hy221⟩ : ∃ y_ : List Int, y_ = (t211.take ((ji17) : Int).toNat) := ⟨_, rfl⟩
          replace H : (if (ji17) ≤ (t215.length : Int) then (some (((strOfNums y221).toList == (strOfNums (t215.take ((ji17) : Int).toNat)).toList) == (a0_0 == a1_0 && (a0_1 == a1_1 && ((a0_2 == a1_2 && (a0_3 == a1_3 && (a0_4 == a1_4 && (a0_5 == a1_5 && (a0_6 == a1_6 && (a0_7 == a1_7)))))) && ((a0_8 == a1_8 && (a0_9 == a1_9 && (a0_10 == a1_10))) && (a0_11 == a1_11))))))) else (none)) = some r := by first | (rw [hy221]; with_reducible exact H) | (have H2_ := (Option.bind_some _ _).symm.trans H; rw [hy221]; with_reducible exact H2_) | (have H2_ := (Option.bind_some _ _).symm.trans H; with_reducible exact H2_) | with_reducible exact H | (rw [hy221]; exact H) | exact H
          have Ny221 := Aside0.mk hy221
          clear hy221
          have c22b0 := eq_true (of_decide_eq_true (by first | (with_reducible assumption) | assumption) : 0 ≤ (ji17))
          by_cases c23 : (ji17) ≤ (t215.length : Int)
          rotate_left
          · rw [if_neg c23] at H
            exact absurd H (by simp)
          rw [if_pos c23] at H
          have c23b0 := eq_true c23
          have c23b1 : decide ((ji17) ≤ (t215.length : Int)) = true := decide_eq_true c23
          clear c23
          obtain ⟨y225, hy225⟩ : ∃ y_ : List Int, y_ = (t215.take ((ji17) : Int).toNat) := ⟨_, rfl⟩
          replace H : (some (((strOfNums y221).toList == (strOfNums y225).toList) == (a0_0 == a1_0 && (a0_1 == a1_1 && ((a0_2 == a1_2 && (a0_3 == a1_3 && (a0_4 == a1_4 && (a0_5 == a1_5 && (a0_6 == a1_6 && (a0_7 == a1_7)))))) && ((a0_8 == a1_8 && (a0_9 == a1_9 && (a0_10 == a1_10))) && (a0_11 == a1_11))))))) = some r := by first | (rw [hy225]; with_reducible exact H) | (have H2_ := (Option.bind_some _ _).symm.trans H; rw [hy225]; with_reducible exact H2_) | (have H2_ := (Option.bind_some _ _).symm.trans H; with_reducible exact H2_) | with_reducible exact H | (rw [hy225]; exact H) | exact H
          have Ny225 := Aside0.mk hy225
          clear hy225
          obtain rfl := Option.some.inj H
          obtain ⟨Ao24, co24, eo24⟩ := Kd.R_slice HO_5.out
          subst eo24
          obtain ⟨Ao25, co25, eo25⟩ := Kd.R_slice HO_7.out
          subst eo25
          try go_wp2
          have n0_ := Aside0.mk (Kd.R_drew HO_5.out)
          have n1_ := Aside0.mk (Kd.R_drew HO_7.out)
          have n2_ := Aside0.mk (blk_drew BK209.out)
          have n3_ := Aside0.mk (blk_drew BK210.out)
          have n4_ := Aside0.mk (below_drew1 HB.out)
          clear HO_5
          clear HO_7
          clear BK209
          clear BK210
          clear HB
          have HO_5 := n0_
          have HO_7 := n1_
          have BK209 := n2_
          have BK210 := n3_
          have HB := n4_
          clear n0_ n1_ n2_ n3_ n4_
          have q28 : ((ji17) : Int) ≤ ((t211.length : Int) : Int) := of_decide_eq_true (by first | (with_reducible assumption) | assumption)
          obtain ⟨i028, hi028, _, hsz28, _⟩ := info_parts info5
          have hroom28 : t211.length ≤ co24 := (Kd.R_reads' HO_5.out).2.1
          have hC28 : Kd.C (Kd.int .u8) _ Ao24 t211.length t211 := (Kd.R_reads' HO_5.out).2.2
          have hcut28 := cut_to (P := Try.prog) 28 5 .i64 Try.underlying28 hi028 Ao24 t211.length co24 (ji17) (of_decide_eq_true (by first | (with_reducible assumption) | assumption)) q28 hroom28
          have hr28 := Kd.C_take (m := ((ji17) : Int).toNat) hC28 (by omega)
          have hy28 : y221.length = ((ji17) : Int).toNat := (by rw [Ny221.out, List.length_take]; omega)
          rw [← Ny221.out] at hr28
          rw [← hy28] at hcut28
          have HR224 := Aside0.mk hr28
          have HC224 := Aside0.mk (show y221.length ≤ co24 from by omega)
          clear hr28 hC28 hroom28 hi028 hsz28
          have KY28 := Aside0.mk hy28
          clear hy28
          have KL28 := Aside0.mk (show ((ji17) : Int).toNat ≤ t211.length from by omega)
          replace q28 := eq_true q28
          have q29 : ((ji17) : Int) ≤ ((t215.length : Int) : Int) := of_decide_eq_true (by first | (with_reducible assumption) | assumption)
          obtain ⟨i029, hi029, _, hsz29, _⟩ := info_parts info5
          have hroom29 : t215.length ≤ co25 := (Kd.R_reads' HO_7.out).2.1
          have hC29 : Kd.C (Kd.int .u8) _ Ao25 t215.length t215 := (Kd.R_reads' HO_7.out).2.2
          have hcut29 := cut_to (P := Try.prog) 28 5 .i64 Try.underlying28 hi029 Ao25 t215.length co25 (ji17) (of_decide_eq_true (by first | (with_reducible assumption) | assumption)) q29 hroom29
          have hr29 := Kd.C_take (m := ((ji17) : Int).toNat) hC29 (by omega)
          have hy29 : y225.length = ((ji17) : Int).toNat := (by rw [Ny225.out, List.length_take]; omega)
          rw [← Ny225.out] at hr29
          rw [← hy29] at hcut29
          have HR228 := Aside0.mk hr29
          have HC228 := Aside0.mk (show y225.length ≤ co25 from by omega)
          clear hr29 hC29 hroom29 hi029 hsz29
          have KY29 := Aside0.mk hy29
          clear hy29
          have KL29 := Aside0.mk (show ((ji17) : Int).toNat ≤ t215.length from by omega)
          replace q29 := eq_true q29
          refine start_ (n := 17) (S := fun w' => w'.cell? ⟨gb209, 0, none⟩ = some (.int .i64 a0_0) ∧ w'.cell? ⟨gb209, 1, none⟩ = some (.int .i64 a0_1) ∧ w'.cell? ⟨gb209, 2, none⟩ = some (.bool a0_2) ∧ w'.cell? ⟨gb209, 3, none⟩ = some (.int .i64 a0_3) ∧ w'.cell? ⟨gb209, 4, none⟩ = some (.int .i64 a0_4) ∧ w'.cell? ⟨gb209, 5, none⟩ = some (.int .i64 a0_5) ∧ w'.cell? ⟨gb209, 6, none⟩ = some (.int .i64 a0_6) ∧ w'.cell? ⟨gb209, 7, none⟩ = some (.int .i64 a0_7) ∧ w'.cell? ⟨gb209, 8, none⟩ = some (.int .i64 a0_8) ∧ w'.cell? ⟨gb209, 9, none⟩ = some (.int .i64 a0_9) ∧ w'.cell? ⟨gb209, 10, none⟩ = some (.int .i64 a0_10) ∧ w'.cell? ⟨gb209, 11, none⟩ = some (.int .i64 a0_11) ∧ w'.cell? ⟨gb210, 0, none⟩ = some (.int .i64 a1_0) ∧ w'.cell? ⟨gb210, 1, none⟩ = some (.int .i64 a1_1) ∧ w'.cell? ⟨gb210, 2, none⟩ = some (.bool a1_2) ∧ w'.cell? ⟨gb210, 3, none⟩ = some (.int .i64 a1_3) ∧ w'.cell? ⟨gb210, 4, none⟩ = some (.int .i64 a1_4) ∧ w'.cell? ⟨gb210, 5, none⟩ = some (.int .i64 a1_5) ∧ w'.cell? ⟨gb210, 6, none⟩ = some (.int .i64 a1_6) ∧ w'.cell? ⟨gb210, 7, none⟩ = some (.int .i64 a1_7) ∧ w'.cell? ⟨gb210, 8, none⟩ = some (.int .i64 a1_8) ∧ w'.cell? ⟨gb210, 9, none⟩ = some (.int .i64 a1_9) ∧ w'.cell? ⟨gb210, 10, none⟩ = some (.int .i64 a1_10) ∧ w'.cell? ⟨gb210, 11, none⟩ = some (.int .i64 a1_11) ∧ (convert 28 9 (.slice Ao24 _ co24)).run Try.prog w' = .ok (.string (strOfNums y221)) w' ∧ (convert 28 9 (.slice Ao25 _ co25)).run Try.prog w' = .ok (.string (strOfNums y225)) w') (ds := []) #[false, false, false, false, false, false, false, false, false, false, false, false, false, false, false, false, false] (by kernel_rfl) rfl rfl ⟨(blk_cell BK209.out 0).trans rfl, (blk_cell BK209.out 1).trans rfl, (blk_cell BK209.out 2).trans rfl, (blk_cell BK209.out 3).trans rfl, (blk_cell BK209.out 4).trans rfl, (blk_cell BK209.out 5).trans rfl, (blk_cell BK209.out 6).trans rfl, (blk_cell BK209.out 7).trans rfl, (blk_cell BK209.out 8).trans rfl, (blk_cell BK209.out 9).trans rfl, (blk_cell BK209.out 10).trans rfl, (blk_cell BK209.out 11).trans rfl, (blk_cell BK210.out 0).trans rfl, (blk_cell BK210.out 1).trans rfl, (blk_cell BK210.out 2).trans rfl, (blk_cell BK210.out 3).trans rfl, (blk_cell BK210.out 4).trans rfl, (blk_cell BK210.out 5).trans rfl, (blk_cell BK210.out 6).trans rfl, (blk_cell BK210.out 7).trans rfl, (blk_cell BK210.out 8).trans rfl, (blk_cell BK210.out 9).trans rfl, (blk_cell BK210.out 10).trans rfl, (blk_cell BK210.out 11).trans rfl, (Kd.C_string (P := Try.prog) (A := Ao24) (c := co24) Try.underlying28 Try.underlying5 Try.underlying9 (by repeat (first | (with_reducible exact HR224.out) | (with_reducible refine Kd.C_alloc ?_ _) | (with_reducible refine Kd.C_drewN ?_ _) | (with_reducible refine Kd.C_drew ?_) | exact HR224.out))), (Kd.C_string (P := Try.prog) (A := Ao25) (c := co25) Try.underlying28 Try.underlying5 Try.underlying9 (by repeat (first | (with_reducible exact HR228.out) | (with_reducible refine Kd.C_alloc ?_ _) | (with_reducible refine Kd.C_drewN ?_ _) | (with_reducible refine Kd.C_drew ?_) | exact HR228.out)))⟩ (fun hHeld => ?_); refine with_tabW thalweglaw04_ObjectApart.tab6 thalweglaw04_ObjectApart.bits6 (fun HT_ HW_ => ?_)
          generalize wc.drew = w26 at HO_5 HO_7 BK209 BK210 HB hHeld ⊢
          refine one_ (i := 0) (N := some 32) #[true, false, false, false, false, false, false, false, false, false, false, false, false, false, false, false, false] rfl rfl (one_of HT_.out (by kernel_rfl)) (by decide) (fun K hK => ?_)
          refine goes_ Try.func8 (by kernel_rfl) rfl #[] (by rfl) rfl rfl (by (try simp only [List.map_toArray, List.map_cons, List.map_nil]); first | done | rfl | (simp only [List.length_drop, List.length_take]; rfl)) ?_
          with_reducible refine (thalweglaw04_awake.calls kj4  true _ A18.out).mono ?_
          rintro e w27 ⟨rfl, hb⟩
          refine ⟨_, rfl, ?_⟩
          have n0_ := Aside0.mk (Kd.R_below (by (with_reducible repeat (first | apply Kd.R_alloc | apply Kd.R_drewN | apply Kd.R_drew)); exact HO_5.out) hb)
          have n1_ := Aside0.mk (Kd.R_below (by (with_reducible repeat (first | apply Kd.R_alloc | apply Kd.R_drewN | apply Kd.R_drew)); exact HO_7.out) hb)
          have n2_ := Aside0.mk (blk_below (g := gb209) (o := .cells #[.int .i64 a0_0, .int .i64 a0_1, .bool a0_2, .int .i64 a0_3, .int .i64 a0_4, .int .i64 a0_5, .int .i64 a0_6, .int .i64 a0_7, .int .i64 a0_8, .int .i64 a0_9, .int .i64 a0_10, .int .i64 a0_11] 27 (0, 0)) (by (with_reducible repeat (first | refine blk_drewN ?_ _ | refine blk_drew ?_ | refine blk_alloc ?_ _)); exact BK209.out) hb)
          have n3_ := Aside0.mk (blk_below (g := gb210) (o := .cells #[.int .i64 a1_0, .int .i64 a1_1, .bool a1_2, .int .i64 a1_3, .int .i64 a1_4, .int .i64 a1_5, .int .i64 a1_6, .int .i64 a1_7, .int .i64 a1_8, .int .i64 a1_9, .int .i64 a1_10, .int .i64 a1_11] 27 (0, 0)) (by (with_reducible repeat (first | refine blk_drewN ?_ _ | refine blk_drew ?_ | refine blk_alloc ?_ _)); exact BK210.out) hb)
          have n4_ := Aside0.mk (below_step (by repeat (first | (with_reducible first | exact HB.out | apply below_alloc | apply pw_below_drewN | apply below_drew1 | refine below_set ?_ GE209.out | refine below_set ?_ GE210.out) | exact HB.out)) hb)
          clear HO_5
          clear HO_7
          clear BK209
          clear BK210
          clear HB
          have HO_5 := n0_
          have HO_7 := n1_
          have BK209 := n2_
          have BK210 := n3_
          have HB := n4_
          clear n0_ n1_ n2_ n3_ n4_
          (try clear hb)
          (try clear hb2)
          (try clear hk)
          (try clear hi)
          have q28 : ((ji17) : Int) ≤ ((t211.length : Int) : Int) := of_decide_eq_true (by first | (with_reducible assumption) | assumption)
          obtain ⟨i028, hi028, _, hsz28, _⟩ := info_parts info5
          have hroom28 : t211.length ≤ co24 := (Kd.R_reads' HO_5.out).2.1
          have hC28 : Kd.C (Kd.int .u8) _ Ao24 t211.length t211 := (Kd.R_reads' HO_5.out).2.2
          have hcut28 := cut_to (P := Try.prog) 28 5 .i64 Try.underlying28 hi028 Ao24 t211.length co24 (ji17) (of_decide_eq_true (by first | (with_reducible assumption) | assumption)) q28 hroom28
          have hr28 := Kd.C_take (m := ((ji17) : Int).toNat) hC28 (by omega)
          have hy28 : y221.length = ((ji17) : Int).toNat := (by rw [Ny221.out, List.length_take]; omega)
          rw [← Ny221.out] at hr28
          rw [← hy28] at hcut28
          have HR224 := Aside0.mk hr28
          have HC224 := Aside0.mk (show y221.length ≤ co24 from by omega)
          clear hr28 hC28 hroom28 hi028 hsz28
          have KY28 := Aside0.mk hy28
          clear hy28
          have KL28 := Aside0.mk (show ((ji17) : Int).toNat ≤ t211.length from by omega)
          replace q28 := eq_true q28
          have q29 : ((ji17) : Int) ≤ ((t215.length : Int) : Int) := of_decide_eq_true (by first | (with_reducible assumption) | assumption)
          obtain ⟨i029, hi029, _, hsz29, _⟩ := info_parts info5
          have hroom29 : t215.length ≤ co25 := (Kd.R_reads' HO_7.out).2.1
          have hC29 : Kd.C (Kd.int .u8) _ Ao25 t215.length t215 := (Kd.R_reads' HO_7.out).2.2
          have hcut29 := cut_to (P := Try.prog) 28 5 .i64 Try.underlying28 hi029 Ao25 t215.length co25 (ji17) (of_decide_eq_true (by first | (with_reducible assumption) | assumption)) q29 hroom29
          have hr29 := Kd.C_take (m := ((ji17) : Int).toNat) hC29 (by omega)
          have hy29 : y225.length = ((ji17) : Int).toNat := (by rw [Ny225.out, List.length_take]; omega)
          rw [← Ny225.out] at hr29
          rw [← hy29] at hcut29
          have HR228 := Aside0.mk hr29
          have HC228 := Aside0.mk (show y225.length ≤ co25 from by omega)
          clear hr29 hC29 hroom29 hi029 hsz29
          have KY29 := Aside0.mk hy29
          clear hy29
          have KL29 := Aside0.mk (show ((ji17) : Int).toNat ≤ t215.length from by omega)
          replace q29 := eq_true q29
          refine hK.out _ _ ⟨(blk_cell BK209.out 0).trans rfl, (blk_cell BK209.out 1).trans rfl, (blk_cell BK209.out 2).trans rfl, (blk_cell BK209.out 3).trans rfl, (blk_cell BK209.out 4).trans rfl, (blk_cell BK209.out 5).trans rfl, (blk_cell BK209.out 6).trans rfl, (blk_cell BK209.out 7).trans rfl, (blk_cell BK209.out 8).trans rfl, (blk_cell BK209.out 9).trans rfl, (blk_cell BK209.out 10).trans rfl, (blk_cell BK209.out 11).trans rfl, (blk_cell BK210.out 0).trans rfl, (blk_cell BK210.out 1).trans rfl, (blk_cell BK210.out 2).trans rfl, (blk_cell BK210.out 3).trans rfl, (blk_cell BK210.out 4).trans rfl, (blk_cell BK210.out 5).trans rfl, (blk_cell BK210.out 6).trans rfl, (blk_cell BK210.out 7).trans rfl, (blk_cell BK210.out 8).trans rfl, (blk_cell BK210.out 9).trans rfl, (blk_cell BK210.out 10).trans rfl, (blk_cell BK210.out 11).trans rfl, (Kd.C_string (P := Try.prog) (A := Ao24) (c := co24) Try.underlying28 Try.underlying5 Try.underlying9 (by repeat (first | (with_reducible exact HR224.out) | (with_reducible refine Kd.C_alloc ?_ _) | (with_reducible refine Kd.C_drewN ?_ _) | (with_reducible refine Kd.C_drew ?_) | exact HR224.out))), (Kd.C_string (P := Try.prog) (A := Ao25) (c := co25) Try.underlying28 Try.underlying5 Try.underlying9 (by repeat (first | (with_reducible exact HR228.out) | (with_reducible refine Kd.C_alloc ?_ _) | (with_reducible refine Kd.C_drewN ?_ _) | (with_reducible refine Kd.C_drew ?_) | exact HR228.out)))⟩ (fun hHeld => ?_)
          clear hK K
          refine norm_ (a' := ?_) ?_ ?_
          rotate_left
          · show Act.put _ (some 32) _ = _
            simp only [Act.put, List.setIfInBounds_toArray, List.set_cons_zero, List.set_cons_succ, i64_w, i32_w]
            rfl
          refine pure_ (i := 1) (N := some 33) (v := ?_) (a' := ?_) #[true, true, false, false, false, false, false, false, false, false, false, false, false, false, false, false, false] rfl rfl (any_of HT_.out (by kernel_rfl)) (fun _ _ _ h => h) (Or.inl ⟨by rfl, ?_⟩) ?_ ?_
          rotate_left
          · intro w'
            first | (go_simp; with_reducible rfl) | (have hj_ : (t215.length : Int) = ji17 := (by rw [← hji17]; simp only [mn]; split <;> omega); go_simp; with_reducible rfl) | (have hj_ : (t211.length : Int) = ji17 := (by rw [← hji17]; simp only [mn]; split <;> omega); go_simp; with_reducible rfl)
          rotate_left
          · simp only [Act.put, List.setIfInBounds_toArray, List.set_cons_zero, List.set_cons_succ, i64_w, i32_w]
            rfl
          refine pure_ (i := 2) (N := some 34) (v := ?_) (a' := ?_) #[true, true, true, false, false, false, false, false, false, false, false, false, false, false, false, false, false] rfl rfl (any_of HT_.out (by kernel_rfl)) (fun _ _ _ h => h) (Or.inl ⟨by rfl, ?_⟩) ?_ ?_
          rotate_left
          · intro w'
            first | (go_simp; with_reducible rfl) | (have hj_ : (t215.length : Int) = ji17 := (by rw [← hji17]; simp only [mn]; split <;> omega); go_simp; with_reducible rfl) | (have hj_ : (t211.length : Int) = ji17 := (by rw [← hji17]; simp only [mn]; split <;> omega); go_simp; with_reducible rfl)
          rotate_left
          · simp only [Act.put, List.setIfInBounds_toArray, List.set_cons_zero, List.set_cons_succ, i64_w, i32_w]
            rfl
          refine pure_ (i := 3) (N := some 35) (v := ?_) (a' := ?_) #[true, true, true, true, false, false, false, false, false, false, false, false, false, false, false, false, false] rfl rfl (any_of HT_.out (by kernel_rfl)) (fun _ _ _ h => h) (Or.inl ⟨by rfl, ?_⟩) ?_ ?_
          rotate_left
          · intro w'
            first | (go_simp; with_reducible rfl) | (have hj_ : (t215.length : Int) = ji17 := (by rw [← hji17]; simp only [mn]; split <;> omega); go_simp; with_reducible rfl) | (have hj_ : (t211.length : Int) = ji17 := (by rw [← hji17]; simp only [mn]; split <;> omega); go_simp; with_reducible rfl)
          rotate_left
          · simp only [Act.put, List.setIfInBounds_toArray, List.set_cons_zero, List.set_cons_succ, i64_w, i32_w]
            rfl
          refine pure_ (i := 4) (N := some 36) (v := ?_) (a' := ?_) #[true, true, true, true, true, false, false, false, false, false, false, false, false, false, false, false, false] rfl rfl (any_of HT_.out (by kernel_rfl)) (fun _ _ _ h => h) (Or.inl ⟨by rfl, ?_⟩) ?_ ?_
          rotate_left
          · intro w'
            first | (go_simp; with_reducible rfl) | (have hj_ : (t215.length : Int) = ji17 := (by rw [← hji17]; simp only [mn]; split <;> omega); go_simp; with_reducible rfl) | (have hj_ : (t211.length : Int) = ji17 := (by rw [← hji17]; simp only [mn]; split <;> omega); go_simp; with_reducible rfl)
          rotate_left
          · simp only [Act.put, List.setIfInBounds_toArray, List.set_cons_zero, List.set_cons_succ, i64_w, i32_w]
            rfl
          refine pure_ (i := 6) (N := some 38) (v := ?_) (a' := ?_) #[true, true, true, true, true, false, true, false, false, false, false, false, false, false, false, false, false] rfl rfl (any_of HT_.out (by kernel_rfl)) (fun _ _ _ h => h) (Or.inl ⟨by rfl, ?_⟩) ?_ ?_
          rotate_left
          · intro w'
            first | (go_simp; with_reducible rfl) | (have hj_ : (t215.length : Int) = ji17 := (by rw [← hji17]; simp only [mn]; split <;> omega); go_simp; with_reducible rfl) | (have hj_ : (t211.length : Int) = ji17 := (by rw [← hji17]; simp only [mn]; split <;> omega); go_simp; with_reducible rfl)
          rotate_left
          · simp only [Act.put, List.setIfInBounds_toArray, List.set_cons_zero, List.set_cons_succ, i64_w, i32_w]
            rfl
          refine pure_ (i := 7) (N := some 39) (v := ?_) (a' := ?_) #[true, true, true, true, true, false, true, true, false, false, false, false, false, false, false, false, false] rfl rfl (any_of HT_.out (by kernel_rfl)) (fun _ _ _ h => h) (Or.inl ⟨by rfl, ?_⟩) ?_ ?_
          rotate_left
          · intro w'
            first | (go_simp; with_reducible rfl) | (have hj_ : (t215.length : Int) = ji17 := (by rw [← hji17]; simp only [mn]; split <;> omega); go_simp; with_reducible rfl) | (have hj_ : (t211.length : Int) = ji17 := (by rw [← hji17]; simp only [mn]; split <;> omega); go_simp; with_reducible rfl)
          rotate_left
          · simp only [Act.put, List.setIfInBounds_toArray, List.set_cons_zero, List.set_cons_succ, i64_w, i32_w]
            rfl
          refine pure_ (i := 8) (N := some 40) (v := ?_) (a' := ?_) #[true, true, true, true, true, false, true, true, true, false, false, false, false, false, false, false, false] rfl rfl (any_of HT_.out (by kernel_rfl)) (fun _ _ _ h => h) (Or.inl ⟨by rfl, ?_⟩) ?_ ?_
          rotate_left
          · intro w'
            first | (go_simp; with_reducible rfl) | (have hj_ : (t215.length : Int) = ji17 := (by rw [← hji17]; simp only [mn]; split <;> omega); go_simp; with_reducible rfl) | (have hj_ : (t211.length : Int) = ji17 := (by rw [← hji17]; simp only [mn]; split <;> omega); go_simp; with_reducible rfl)
          rotate_left
          · simp only [Act.put, List.setIfInBounds_toArray, List.set_cons_zero, List.set_cons_succ, i64_w, i32_w]
            rfl
          refine take_ (i := 5) (N := some 37) (v := ?_) (a' := ?_) #[true, true, true, true, true, true, true, true, true, false, false, false, false, false, false, false, false] rfl rfl (take_ofW HT_.out HW_.out (by kernel_rfl)) (fun _ _ _ h => h) (Or.inl ⟨by rfl, ?_⟩) hHeld ?_ ?_
          rotate_left
          · rintro w' ⟨s0, s1, s2, s3, s4, s5, s6, s7, s8, s9, s10, s11, s12, s13, s14, s15, s16, s17, s18, s19, s20, s21, s22, s23, s24, s25⟩
            first | (go_simp; with_reducible rfl) | ((try simp [*] at s24); (try simp [*] at s25); go_simp; with_reducible rfl)
          rotate_left
          · simp only [Act.put, List.setIfInBounds_toArray, List.set_cons_zero, List.set_cons_succ, i64_w, i32_w]
            rfl
          refine take_ (i := 9) (N := some 41) (v := ?_) (a' := ?_) #[true, true, true, true, true, true, true, true, true, true, false, false, false, false, false, false, false] rfl rfl (take_ofW HT_.out HW_.out (by kernel_rfl)) (fun _ _ _ h => h) (Or.inl ⟨by rfl, ?_⟩) hHeld ?_ ?_
          rotate_left
          · rintro w' ⟨s0, s1, s2, s3, s4, s5, s6, s7, s8, s9, s10, s11, s12, s13, s14, s15, s16, s17, s18, s19, s20, s21, s22, s23, s24, s25⟩
            first | (go_simp; with_reducible rfl) | ((try simp [*] at s24); (try simp [*] at s25); go_simp; with_reducible rfl)
          rotate_left
          · simp only [Act.put, List.setIfInBounds_toArray, List.set_cons_zero, List.set_cons_succ, i64_w, i32_w]
            rfl
          refine pure_ (i := 10) (N := some 42) (v := ?_) (a' := ?_) #[true, true, true, true, true, true, true, true, true, true, true, false, false, false, false, false, false] rfl rfl (any_of HT_.out (by kernel_rfl)) (fun _ _ _ h => h) (Or.inl ⟨by rfl, ?_⟩) ?_ ?_
          rotate_left
          · intro w'
            first | (go_simp; with_reducible rfl) | (have hj_ : (t215.length : Int) = ji17 := (by rw [← hji17]; simp only [mn]; split <;> omega); go_simp; with_reducible rfl) | (have hj_ : (t211.length : Int) = ji17 := (by rw [← hji17]; simp only [mn]; split <;> omega); go_simp; with_reducible rfl)
          rotate_left
          · simp only [Act.put, List.setIfInBounds_toArray, List.set_cons_zero, List.set_cons_succ, i64_w, i32_w]
            rfl
          refine take_ (i := 11) (N := some 43) (v := ?_) (a' := ?_) #[true, true, true, true, true, true, true, true, true, true, true, true, false, false, false, false, false] rfl rfl (take_ofW HT_.out HW_.out (by kernel_rfl)) (fun _ _ _ h => h) (Or.inl ⟨by rfl, ?_⟩) hHeld ?_ ?_
          rotate_left
          · rintro w' ⟨s0, s1, s2, s3, s4, s5, s6, s7, s8, s9, s10, s11, s12, s13, s14, s15, s16, s17, s18, s19, s20, s21, s22, s23, s24, s25⟩
            first | (go_simp; with_reducible rfl) | ((try simp [*] at s24); (try simp [*] at s25); go_simp; with_reducible rfl)
          rotate_left
          · simp only [Act.put, List.setIfInBounds_toArray, List.set_cons_zero, List.set_cons_succ, i64_w, i32_w]
            rfl
          refine take_ (i := 12) (N := some 44) (v := ?_) (a' := ?_) #[true, true, true, true, true, true, true, true, true, true, true, true, true, false, false, false, false] rfl rfl (take_ofW HT_.out HW_.out (by kernel_rfl)) (fun _ _ _ h => h) (Or.inl ⟨by rfl, ?_⟩) hHeld ?_ ?_
          rotate_left
          · rintro w' ⟨s0, s1, s2, s3, s4, s5, s6, s7, s8, s9, s10, s11, s12, s13, s14, s15, s16, s17, s18, s19, s20, s21, s22, s23, s24, s25⟩
            first | (go_simp; with_reducible rfl) | ((try simp [*] at s24); (try simp [*] at s25); go_simp; with_reducible rfl)
          rotate_left
          · simp only [Act.put, List.setIfInBounds_toArray, List.set_cons_zero, List.set_cons_succ, i64_w, i32_w]
            rfl
          refine pure_ (i := 13) (N := some 45) (v := ?_) (a' := ?_) #[true, true, true, true, true, true, true, true, true, true, true, true, true, true, false, false, false] rfl rfl (any_of HT_.out (by kernel_rfl)) (fun _ _ _ h => h) (Or.inl ⟨by rfl, ?_⟩) ?_ ?_
          rotate_left
          · intro w'
            first | (go_simp; with_reducible rfl) | (have hj_ : (t215.length : Int) = ji17 := (by rw [← hji17]; simp only [mn]; split <;> omega); go_simp; with_reducible rfl) | (have hj_ : (t211.length : Int) = ji17 := (by rw [← hji17]; simp only [mn]; split <;> omega); go_simp; with_reducible rfl)
          rotate_left
          · simp only [Act.put, List.setIfInBounds_toArray, List.set_cons_zero, List.set_cons_succ, i64_w, i32_w]
            rfl
          refine pure_ (i := 14) (N := some 46) (v := ?_) (a' := ?_) #[true, true, true, true, true, true, true, true, true, true, true, true, true, true, true, false, false] rfl rfl (any_of HT_.out (by kernel_rfl)) (fun _ _ _ h => h) (Or.inl ⟨by rfl, ?_⟩) ?_ ?_
          rotate_left
          · intro w'
            first | (go_simp; with_reducible rfl) | (have hj_ : (t215.length : Int) = ji17 := (by rw [← hji17]; simp only [mn]; split <;> omega); go_simp; with_reducible rfl) | (have hj_ : (t211.length : Int) = ji17 := (by rw [← hji17]; simp only [mn]; split <;> omega); go_simp; with_reducible rfl)
          rotate_left
          · simp only [Act.put, List.setIfInBounds_toArray, List.set_cons_zero, List.set_cons_succ, i64_w, i32_w]
            rfl
          refine pure_ (i := 15) (N := some 47) (v := ?_) (a' := ?_) #[true, true, true, true, true, true, true, true, true, true, true, true, true, true, true, true, false] rfl rfl (any_of HT_.out (by kernel_rfl)) (fun _ _ _ h => h) (Or.inl ⟨by rfl, ?_⟩) ?_ ?_
          rotate_left
          · intro w'
            first | (go_simp; with_reducible rfl) | (have hj_ : (t215.length : Int) = ji17 := (by rw [← hji17]; simp only [mn]; split <;> omega); go_simp; with_reducible rfl) | (have hj_ : (t211.length : Int) = ji17 := (by rw [← hji17]; simp only [mn]; split <;> omega); go_simp; with_reducible rfl)
          rotate_left
          · simp only [Act.put, List.setIfInBounds_toArray, List.set_cons_zero, List.set_cons_succ, i64_w, i32_w]
            rfl
          refine pure_ (i := 16) (N := some 4) (v := ?_) (a' := ?_) #[true, true, true, true, true, true, true, true, true, true, true, true, true, true, true, true, true] rfl rfl (any_of HT_.out (by kernel_rfl)) (fun _ _ _ h => h) (Or.inl ⟨by rfl, ?_⟩) ?_ ?_
          rotate_left
          · intro w'
            first | (go_simp; with_reducible rfl) | (have hj_ : (t215.length : Int) = ji17 := (by rw [← hji17]; simp only [mn]; split <;> omega); go_simp; with_reducible rfl) | (have hj_ : (t211.length : Int) = ji17 := (by rw [← hji17]; simp only [mn]; split <;> omega); go_simp; with_reducible rfl)
          rotate_left
          · simp only [Act.put, List.setIfInBounds_toArray, List.set_cons_zero, List.set_cons_succ, i64_w, i32_w]
            rfl
          refine done_ (done_of HT_.out (by kernel_rfl)) ?_
          try go_wp2
          go_ret
          exact ⟨by first | rfl | (simp [errW_none, errW_some] <;> rfl) | (simp only [← hji17]; first | rfl | (simp [errW_none, errW_some] <;> rfl)) | (simp [*, errW_none, errW_some] <;> rfl), by repeat (first | (with_reducible first | exact HB.out | apply below_alloc | apply pw_below_drewN | apply below_drew1 | refine below_set ?_ GE209.out | refine below_set ?_ GE210.out) | exact HB.out)⟩
        · replace c19 := Bool.eq_false_iff.mpr c19
          subst c19
          have H1 : (none) = some r := by rw [if_neg (show ¬ (false = true) by decide)] at H; exact H
          clear H
          have H := H1
          clear H1
          exact absurd H (by simp)

end Go.Proofs.Ytmcmemknikineaa.P
