-- WRITTEN BY xprint.py, a program of this session that drives the kit's printer.
import Derived.Test.YthfbnlimoagihaaP0
import Derived.Test.YthfbnlimoagihaaP1
import Derived.Test.YthfbnlimoagihaaP3
import Derived.Test.YthfbnlimoagihaaP5
namespace Go.Proofs.Ythfbnlimoagihaa.P
open Go.RowKit Go.Proofs.YthfbnlimoagihaaW.PrintWords Go.Proofs.YthfbnlimoagihaaW.PrintLast Go.Proofs.YthfbnlimoagihaaW.PrintMore
attribute [local go_sem] max2_int min2_int max_two min_two max_three min_three max_four min_four   -- for this text's walks alone
set_option linter.unusedVariables false
set_option linter.unusedSimpArgs false

attribute [local go_sem high] eqA23
/-! ### thalweglaw08_PacketApart: function 5 -/
mutual
def thalweglaw08_PacketApart.j0 : Nat → Bool → Int → Int → Int → Int → ByteArray → Int → Int → Int → Int → ByteArray → Option (Bool)
  | 0, _, _, _, _, _, _, _, _, _, _, _ => none
  | k + 1, x19, x210000, x210001, x210002, x210003, x210004, x211000, x211001, x211002, x211003, x211004 => if x19 = true then (some true) else ((packet_Bytes.f k x210000 x210001 x210002 x210003 x210004).bind fun bt211 => ((packet_Bytes.f k x211000 x211001 x211002 x211003 x211004).bind fun bt215 => (if bt211.2 = 0 then (thalweglaw08_PacketApart.j1 k bt211.1 bt215.1 (bt215.2 != 0) x210000 x210001 x210002 x210003 x210004 x211000 x211001 x211002 x211003 x211004) else (thalweglaw08_PacketApart.j1 k bt211.1 bt215.1 true x210000 x210001 x210002 x210003 x210004 x211000 x211001 x211002 x211003 x211004))))
def thalweglaw08_PacketApart.j1 : Nat → List Int → List Int → Bool → Int → Int → Int → Int → ByteArray → Int → Int → Int → Int → ByteArray → Option (Bool)
  | 0, _, _, _, _, _, _, _, _, _, _, _, _, _ => none
  | k + 1, x5, x7, x35, x210000, x210001, x210002, x210003, x210004, x211000, x211001, x211002, x211003, x211004 => if x35 = true then ((thalweglaw08_awake.f k).bind fun t219 => (some t219)) else ((thalweglaw08_awake.f k).bind fun t220 => (if t220 = true then (if 0 ≤ (mn (x5.length : Int) (x7.length : Int)) then (if (mn (x5.length : Int) (x7.length : Int)) ≤ (x5.length : Int) then (if (mn (x5.length : Int) (x7.length : Int)) ≤ (x7.length : Int) then (some (((strOfNums (x5.take ((mn (x5.length : Int) (x7.length : Int)) : Int).toNat)).toList == (strOfNums (x7.take ((mn (x5.length : Int) (x7.length : Int)) : Int).toNat)).toList) == (x210000 == x211000 && (x210001 == x211001 && (x210002 == x211002 && (x210003 == x211003 && (x210004.toList == x211004.toList))))))) else (none)) else (none)) else (none)) else (none)))
end
def thalweglaw08_PacketApart.f (k : Nat) (a0_0 : Int) (a0_1 : Int) (a0_2 : Int) (a0_3 : Int) (a0_4 : ByteArray) (a1_0 : Int) (a1_1 : Int) (a1_2 : Int) (a1_3 : Int) (a1_4 : ByteArray) : Option (Bool) := if (a0_4.size : Int) > 600 then (thalweglaw08_PacketApart.j0 k true a0_0 a0_1 a0_2 a0_3 a0_4 a1_0 a1_1 a1_2 a1_3 a1_4) else (thalweglaw08_PacketApart.j0 k (decide ((a1_4.size : Int) > 600)) a0_0 a0_1 a0_2 a0_3 a0_4 a1_0 a1_1 a1_2 a1_3 a1_4)
theorem thalweglaw08_PacketApart.mono_l : ∀ k, (∀ y0 y1 y2 y3 y4 y5 y6 y7 y8 y9 y10, LeO (thalweglaw08_PacketApart.j0 k y0 y1 y2 y3 y4 y5 y6 y7 y8 y9 y10) (thalweglaw08_PacketApart.j0 (k + 1) y0 y1 y2 y3 y4 y5 y6 y7 y8 y9 y10)) ∧ (∀ y0 y1 y2 y3 y4 y5 y6 y7 y8 y9 y10 y11 y12, LeO (thalweglaw08_PacketApart.j1 k y0 y1 y2 y3 y4 y5 y6 y7 y8 y9 y10 y11 y12) (thalweglaw08_PacketApart.j1 (k + 1) y0 y1 y2 y3 y4 y5 y6 y7 y8 y9 y10 y11 y12))
  | 0 => ⟨fun _ _ _ _ _ _ _ _ _ _ _ r h => by simp [thalweglaw08_PacketApart.j0] at h, fun _ _ _ _ _ _ _ _ _ _ _ _ _ r h => by simp [thalweglaw08_PacketApart.j1] at h⟩
  | k + 1 => by
    obtain ⟨ih0, ih1⟩ := thalweglaw08_PacketApart.mono_l k
    refine ⟨?_, ?_⟩
    · intro y0 y1 y2 y3 y4 y5 y6 y7 y8 y9 y10
      unfold thalweglaw08_PacketApart.j0
      repeat' first
      | (with_reducible exact ih0 _ _ _ _ _ _ _ _ _ _ _)
      | (with_reducible exact ih1 _ _ _ _ _ _ _ _ _ _ _ _ _)
      | (with_reducible exact packet_Bytes.mono _ _ _ _ _ _)
      | (with_reducible exact thalweglaw08_awake.mono _)
      | (with_reducible exact LeO.refl _)
      | (with_reducible exact LeO.none _)
      | (with_reducible refine LeO.ite ?_ ?_)
      | (with_reducible refine LeO.bind ?_ (fun _ => ?_))
      | exact ih0 _ _ _ _ _ _ _ _ _ _ _
      | exact ih1 _ _ _ _ _ _ _ _ _ _ _ _ _
      | exact packet_Bytes.mono _ _ _ _ _ _
      | exact thalweglaw08_awake.mono _
      | exact LeO.none _
      | refine LeO.ite ?_ ?_
      | refine LeO.bind ?_ (fun _ => ?_)
    · intro y0 y1 y2 y3 y4 y5 y6 y7 y8 y9 y10 y11 y12
      unfold thalweglaw08_PacketApart.j1
      repeat' first
      | (with_reducible exact ih0 _ _ _ _ _ _ _ _ _ _ _)
      | (with_reducible exact ih1 _ _ _ _ _ _ _ _ _ _ _ _ _)
      | (with_reducible exact packet_Bytes.mono _ _ _ _ _ _)
      | (with_reducible exact thalweglaw08_awake.mono _)
      | (with_reducible exact LeO.refl _)
      | (with_reducible exact LeO.none _)
      | (with_reducible refine LeO.ite ?_ ?_)
      | (with_reducible refine LeO.bind ?_ (fun _ => ?_))
      | exact ih0 _ _ _ _ _ _ _ _ _ _ _
      | exact ih1 _ _ _ _ _ _ _ _ _ _ _ _ _
      | exact packet_Bytes.mono _ _ _ _ _ _
      | exact thalweglaw08_awake.mono _
      | exact LeO.none _
      | refine LeO.ite ?_ ?_
      | refine LeO.bind ?_ (fun _ => ?_)
theorem thalweglaw08_PacketApart.mono : ∀ a0 a1 a2 a3 a4 a5 a6 a7 a8 a9 k, LeO (thalweglaw08_PacketApart.f k a0 a1 a2 a3 a4 a5 a6 a7 a8 a9) (thalweglaw08_PacketApart.f (k + 1) a0 a1 a2 a3 a4 a5 a6 a7 a8 a9) := by
  intro a0 a1 a2 a3 a4 a5 a6 a7 a8 a9 k
  obtain ⟨ih0, ih1⟩ := thalweglaw08_PacketApart.mono_l k
  unfold thalweglaw08_PacketApart.f
  repeat' first
      | (with_reducible exact ih0 _ _ _ _ _ _ _ _ _ _ _)
      | (with_reducible exact ih1 _ _ _ _ _ _ _ _ _ _ _ _ _)
      | (with_reducible exact packet_Bytes.mono _ _ _ _ _ _)
      | (with_reducible exact thalweglaw08_awake.mono _)
      | (with_reducible exact LeO.refl _)
      | (with_reducible exact LeO.none _)
      | (with_reducible refine LeO.ite ?_ ?_)
      | (with_reducible refine LeO.bind ?_ (fun _ => ?_))
      | exact ih0 _ _ _ _ _ _ _ _ _ _ _
      | exact ih1 _ _ _ _ _ _ _ _ _ _ _ _ _
      | exact packet_Bytes.mono _ _ _ _ _ _
      | exact thalweglaw08_awake.mono _
      | exact LeO.none _
      | refine LeO.ite ?_ ?_
      | refine LeO.bind ?_ (fun _ => ?_)
def thalweglaw08_PacketApart.T8 : Bool × List (List Nat × List Nat) := (true, [([], []), ([0, 0], [0]), ([1], [1]), ([1], [1]), ([2, 3, 1], [1, 2, 3]), ([4, 1], [1, 4]), ([1], [1]), ([1], [1]), ([6, 7, 1], [1, 6, 7]), ([8, 1], [1, 8]), ([5, 9, 1], [1, 5, 9]), ([1], [1]), ([1], [1]), ([11, 12, 1], [1, 11, 12]), ([10, 13, 1], [1, 10, 13]), ([1, 14], [1, 14]), ([15, 1, 0, 1, 2, 3, 4, 5, 6, 7, 8, 9, 10, 11, 12, 13, 14, 15], [15])])
def thalweglaw08_PacketApart.B8 : List Nat := [0, 1, 3, 3, 15, 31, 3, 3, 195, 451, 1023, 3, 3, 6147, 16383, 32767, 65535]
theorem thalweglaw08_PacketApart.tab8 : rtab .any (opsOf Try.f5 8) = thalweglaw08_PacketApart.T8 := by kernel_rfl
theorem thalweglaw08_PacketApart.bits8 : waitsOk thalweglaw08_PacketApart.T8.2 thalweglaw08_PacketApart.B8 = true := by kernel_rfl
set_option maxHeartbeats 8000000 in
set_option maxRecDepth 100000 in
theorem thalweglaw08_PacketApart.calls (k : Nat) (a0_0 : Int) (a0_1 : Int) (a0_2 : Int) (a0_3 : Int) (a0_4 : ByteArray) (a1_0 : Int) (a1_1 : Int) (a1_2 : Int) (a1_3 : Int) (a1_4 : ByteArray) (r : Bool) (w : World) (h : thalweglaw08_PacketApart.f k a0_0 a0_1 a0_2 a0_3 a0_4 a1_0 a1_1 a1_2 a1_3 a1_4 = some r) :
    Calls Try.prog 5 #[.agg #[.int .i64 a0_0, .int .i64 a0_1, .int .i64 a0_2, .int .i64 a0_3, .string a0_4], .agg #[.int .i64 a1_0, .int .i64 a1_1, .int .i64 a1_2, .int .i64 a1_3, .string a1_4]] w fun e w' => e = .returned (.bool r) ∧ Below w.heap.size w w' := by
  have hu23 := Try.underlying23
  have HB := Aside0.mk (Below.refl w.heap.size w)
  have H : (if (a0_4.size : Int) > 600 then (thalweglaw08_PacketApart.j0 k true a0_0 a0_1 a0_2 a0_3 a0_4 a1_0 a1_1 a1_2 a1_3 a1_4) else (thalweglaw08_PacketApart.j0 k (decide ((a1_4.size : Int) > 600)) a0_0 a0_1 a0_2 a0_3 a0_4 a1_0 a1_1 a1_2 a1_3 a1_4)) = some r := h
  clear h
  have HC3 := Aside0.mk H
  clear H
  go_enter Try.func5, Try.ntmps5
  go_upto_region 1 with (first | ((with_reducible refine gate_dst (N := 2) rfl ?_); (try (refine gate_guard (by rfl) ?_; dsimp only)); refine box_event ?hg (N := 2) ?hd (cs := #[.int .i64 a0_0, .int .i64 a0_1, .int .i64 a0_2, .int .i64 a0_3, .string a0_4]) (t := 23) ?hr ?_; (case hd => rfl); (case hg => rfl); (case hr => first | (go_simp; done) | (go_simp; rfl)); intro gb209 hg w4 hbox hb; have n0_ := Aside0.mk (below_step (by repeat (first | (with_reducible first | exact HB.out | apply below_alloc | apply pw_below_drewN | apply below_drew1) | exact HB.out)) hb); have n1_ := Aside0.mk (hbox); have n2_ := Aside0.mk ((by rw [hg]; exact (below_size (by repeat (first | (with_reducible first | exact HB.out | apply below_alloc | apply pw_below_drewN | apply below_drew1) | exact HB.out))) : w.heap.size ≤ gb209)); have n3_ := Aside0.mk ((by rw [hg]; exact (below_size (by repeat (first | (with_reducible first | exact HB.out | apply below_alloc | apply pw_below_drewN | apply below_drew1) | exact HB.out))) : w.heap.size ≤ gb209)); clear HB; have HB := n0_; have BK209 := n1_; have GW209 := n2_; have GE209 := n3_; clear n0_ n1_ n2_ n3_; clear hb hbox hg) | ((with_reducible refine gate_dst (N := 3) rfl ?_); (try (refine gate_guard (by rfl) ?_; dsimp only)); refine box_event ?hg (N := 3) ?hd (cs := #[.int .i64 a1_0, .int .i64 a1_1, .int .i64 a1_2, .int .i64 a1_3, .string a1_4]) (t := 23) ?hr ?_; (case hd => rfl); (case hg => rfl); (case hr => first | (go_simp; done) | (go_simp; rfl)); intro gb210 hg w5 hbox hb; have n0_ := Aside0.mk (blk_below (g := gb209) (o := .cells #[.int .i64 a0_0, .int .i64 a0_1, .int .i64 a0_2, .int .i64 a0_3, .string a0_4] 23 (0, 0)) (by (with_reducible repeat (first | refine blk_drewN ?_ _ | refine blk_drew ?_ | refine blk_alloc ?_ _)); exact BK209.out) hb); have n1_ := Aside0.mk (below_step (by repeat (first | (with_reducible first | exact HB.out | apply below_alloc | apply pw_below_drewN | apply below_drew1 | refine below_set ?_ GE209.out) | exact HB.out)) hb); have n2_ := Aside0.mk (hbox); have n3_ := Aside0.mk ((by rw [hg]; exact (below_size (by repeat (first | (with_reducible first | exact HB.out | apply below_alloc | apply pw_below_drewN | apply below_drew1 | refine below_set ?_ GE209.out) | exact HB.out))) : w.heap.size ≤ gb210)); have n4_ := Aside0.mk ((by rw [hg]; exact (below_size (by repeat (first | (with_reducible first | exact HB.out | apply below_alloc | apply pw_below_drewN | apply below_drew1 | refine below_set ?_ GE209.out) | exact HB.out))) : w.heap.size ≤ gb210)); have n5_ := Aside0.mk ((by rw [hg]; exact Nat.ne_of_lt (blk_lt (g := gb209) (o := .cells #[.int .i64 a0_0, .int .i64 a0_1, .int .i64 a0_2, .int .i64 a0_3, .string a0_4] 23 (0, 0)) (by (with_reducible repeat (first | refine blk_drewN ?_ _ | refine blk_drew ?_ | refine blk_alloc ?_ _)); exact BK209.out)) : gb209 ≠ gb210)); have n6_ := Aside0.mk ((by rw [hg]; exact Nat.ne_of_gt (blk_lt (g := gb209) (o := .cells #[.int .i64 a0_0, .int .i64 a0_1, .int .i64 a0_2, .int .i64 a0_3, .string a0_4] 23 (0, 0)) (by (with_reducible repeat (first | refine blk_drewN ?_ _ | refine blk_drew ?_ | refine blk_alloc ?_ _)); exact BK209.out)) : gb210 ≠ gb209)); clear BK209; clear HB; have BK209 := n0_; have HB := n1_; have BK210 := n2_; have GW210 := n3_; have GE210 := n4_; have NB209_210 := n5_; have NB210_209 := n6_; clear n0_ n1_ n2_ n3_ n4_ n5_ n6_; clear hb hbox hg))
  (try simp only [Act.put, List.setIfInBounds_toArray, List.set_cons_zero, List.set_cons_succ])
  go_cut [19] (fun v19 wc => ∃ (kq : Nat) (x19_2 : Bool), v19 = .bool x19_2 ∧ Aside0 (thalweglaw08_PacketApart.j0 kq x19_2 a0_0 a0_1 a0_2 a0_3 a0_4 a1_0 a1_1 a1_2 a1_3 a1_4 = some r) ∧ Aside0 (kq ≤ k) ∧ Aside0 (wc.heap[gb209]? = some (.cells #[.int .i64 a0_0, .int .i64 a0_1, .int .i64 a0_2, .int .i64 a0_3, .string a0_4] 23 (0, 0))) ∧ Aside0 (wc.heap[gb210]? = some (.cells #[.int .i64 a1_0, .int .i64 a1_1, .int .i64 a1_2, .int .i64 a1_3, .string a1_4] 23 (0, 0))) ∧ Aside0 (Below w.heap.size w wc))
  case first =>
    have H := HC3.out
    clear HC3
    by_cases c6 : (a0_4.size : Int) > 600
    · rw [if_pos c6] at H
      have c6b0 : decide (600 < (a0_4.size : Int)) = true := decide_eq_true c6
      have c6b1 : decide (600 < a0_4.size) = true := decide_eq_true (by omega)
      clear c6
      (first | rw [c6b0] | (simp only [i64_w, i32_w]; rw [c6b0]) | skip)
      have H' := Aside0.mk H
      clear H
      have hnb7 := NB209_210.out
      have hnc7 := NB210_209.out
      have hcz8_0 : w5.cell? ⟨gb209, 0, none⟩ = some (.int .i64 a0_0) := (blk_cell BK209.out 0).trans rfl
      have hcz8_1 : w5.cell? ⟨gb209, 1, none⟩ = some (.int .i64 a0_1) := (blk_cell BK209.out 1).trans rfl
      have hcz8_2 : w5.cell? ⟨gb209, 2, none⟩ = some (.int .i64 a0_2) := (blk_cell BK209.out 2).trans rfl
      have hcz8_3 : w5.cell? ⟨gb209, 3, none⟩ = some (.int .i64 a0_3) := (blk_cell BK209.out 3).trans rfl
      have hcz8_4 : w5.cell? ⟨gb209, 4, none⟩ = some (.string a0_4) := (blk_cell BK209.out 4).trans rfl
      have hfz8_0 := blk_frozen BK209.out 0
      have hfz8_1 := blk_frozen BK209.out 1
      have hfz8_2 := blk_frozen BK209.out 2
      have hfz8_3 := blk_frozen BK209.out 3
      have hfz8_4 := blk_frozen BK209.out 4
      go_wp2
      go_meet
      case rel => exact ⟨_, (true), (by first | rfl | (simp; done) | (simp [*]; done)), H', ⟨by first | omega | exact Nat.le_refl _⟩, ⟨by (with_reducible repeat (first | refine blk_drewN ?_ _ | refine blk_drew ?_ | refine blk_alloc ?_ _)); exact BK209.out⟩, ⟨by (with_reducible repeat (first | refine blk_drewN ?_ _ | refine blk_drew ?_ | refine blk_alloc ?_ _)); exact BK210.out⟩, ⟨by repeat (first | (with_reducible first | exact HB.out | apply below_alloc | apply pw_below_drewN | apply below_drew1 | refine below_set ?_ GE209.out | refine below_set ?_ GE210.out) | exact HB.out)⟩⟩
    · rw [if_neg c6] at H
      have c6b0 : decide (600 < (a0_4.size : Int)) = false := decide_eq_false c6
      have c6b1 : decide (600 < a0_4.size) = false := decide_eq_false (by omega)
      clear c6
      (first | rw [c6b0] | (simp only [i64_w, i32_w]; rw [c6b0]) | skip)
      have H' := Aside0.mk H
      clear H
      have hnb9 := NB209_210.out
      have hnc9 := NB210_209.out
      have hcz10_0 : w5.cell? ⟨gb209, 0, none⟩ = some (.int .i64 a0_0) := (blk_cell BK209.out 0).trans rfl
      have hcz10_1 : w5.cell? ⟨gb209, 1, none⟩ = some (.int .i64 a0_1) := (blk_cell BK209.out 1).trans rfl
      have hcz10_2 : w5.cell? ⟨gb209, 2, none⟩ = some (.int .i64 a0_2) := (blk_cell BK209.out 2).trans rfl
      have hcz10_3 : w5.cell? ⟨gb209, 3, none⟩ = some (.int .i64 a0_3) := (blk_cell BK209.out 3).trans rfl
      have hcz10_4 : w5.cell? ⟨gb209, 4, none⟩ = some (.string a0_4) := (blk_cell BK209.out 4).trans rfl
      have hfz10_0 := blk_frozen BK209.out 0
      have hfz10_1 := blk_frozen BK209.out 1
      have hfz10_2 := blk_frozen BK209.out 2
      have hfz10_3 := blk_frozen BK209.out 3
      have hfz10_4 := blk_frozen BK209.out 4
      have hcz11_0 : w5.cell? ⟨gb210, 0, none⟩ = some (.int .i64 a1_0) := (blk_cell BK210.out 0).trans rfl
      have hcz11_1 : w5.cell? ⟨gb210, 1, none⟩ = some (.int .i64 a1_1) := (blk_cell BK210.out 1).trans rfl
      have hcz11_2 : w5.cell? ⟨gb210, 2, none⟩ = some (.int .i64 a1_2) := (blk_cell BK210.out 2).trans rfl
      have hcz11_3 : w5.cell? ⟨gb210, 3, none⟩ = some (.int .i64 a1_3) := (blk_cell BK210.out 3).trans rfl
      have hcz11_4 : w5.cell? ⟨gb210, 4, none⟩ = some (.string a1_4) := (blk_cell BK210.out 4).trans rfl
      have hfz11_0 := blk_frozen BK210.out 0
      have hfz11_1 := blk_frozen BK210.out 1
      have hfz11_2 := blk_frozen BK210.out 2
      have hfz11_3 := blk_frozen BK210.out 3
      have hfz11_4 := blk_frozen BK210.out 4
      go_wp2
      go_meet
      case rel => exact ⟨_, (decide ((a1_4.size : Int) > 600)), (by first | rfl | (simp; done) | (simp [*]; done)), H', ⟨by first | omega | exact Nat.le_refl _⟩, ⟨by (with_reducible repeat (first | refine blk_drewN ?_ _ | refine blk_drew ?_ | refine blk_alloc ?_ _)); exact BK209.out⟩, ⟨by (with_reducible repeat (first | refine blk_drewN ?_ _ | refine blk_drew ?_ | refine blk_alloc ?_ _)); exact BK210.out⟩, ⟨by repeat (first | (with_reducible first | exact HB.out | apply below_alloc | apply pw_below_drewN | apply below_drew1 | refine below_set ?_ GE209.out | refine below_set ?_ GE210.out) | exact HB.out)⟩⟩
  case rest =>
    clear HC3
    try clear p2
    try clear c5
    try clear c6
    try clear c6b0
    try clear c6b1
    try clear c7
    try clear c9
    try clear hcz10_0
    try clear hcz10_1
    try clear hcz10_2
    try clear hcz10_3
    try clear hcz10_4
    try clear hcz11_0
    try clear hcz11_1
    try clear hcz11_2
    try clear hcz11_3
    try clear hcz11_4
    try clear hcz8_0
    try clear hcz8_1
    try clear hcz8_2
    try clear hcz8_3
    try clear hcz8_4
    try clear hfz10_0
    try clear hfz10_1
    try clear hfz10_2
    try clear hfz10_3
    try clear hfz10_4
    try clear hfz11_0
    try clear hfz11_1
    try clear hfz11_2
    try clear hfz11_3
    try clear hfz11_4
    try clear hfz8_0
    try clear hfz8_1
    try clear hfz8_2
    try clear hfz8_3
    try clear hfz8_4
    obtain ⟨kq, x19_2, rfl, HA, HJ2, BK209, BK210, HB⟩ := hcut
    cases kq with
    | zero => exact absurd HA.out (by simp [thalweglaw08_PacketApart.j0])
    | succ kj2 =>
      have H := HA.out
      clear HA
      simp only [thalweglaw08_PacketApart.j0] at H
      by_cases c12 : x19_2 = true
      · subst c12
        have H1 : (some true) = some r := by rw [if_pos rfl] at H; exact H
        clear H
        have H := H1
        clear H1
        obtain rfl := Option.some.inj H
        go_wp2
        go_ret
        exact ⟨by first | rfl | (simp [errW_none, errW_some] <;> rfl) | (simp [*, errW_none, errW_some] <;> rfl), by repeat (first | (with_reducible first | exact HB.out | apply below_alloc | apply pw_below_drewN | apply below_drew1 | refine below_set ?_ GE209.out | refine below_set ?_ GE210.out) | exact HB.out)⟩
      · replace c12 := Bool.eq_false_iff.mpr c12
        subst c12
        have H1 : ((packet_Bytes.f kj2 a0_0 a0_1 a0_2 a0_3 a0_4).bind fun bt211 => ((packet_Bytes.f kj2 a1_0 a1_1 a1_2 a1_3 a1_4).bind fun bt215 => (if bt211.2 = 0 then (thalweglaw08_PacketApart.j1 kj2 bt211.1 bt215.1 (bt215.2 != 0) a0_0 a0_1 a0_2 a0_3 a0_4 a1_0 a1_1 a1_2 a1_3 a1_4) else (thalweglaw08_PacketApart.j1 kj2 bt211.1 bt215.1 true a0_0 a0_1 a0_2 a0_3 a0_4 a1_0 a1_1 a1_2 a1_3 a1_4)))) = some r := by rw [if_neg (show ¬ (false = true) by decide)] at H; exact H
        clear H
        have H := H1
        clear H1
        replace H := Option.bind_eq_some_iff.mp H
        obtain ⟨⟨t211, t214⟩, A130, H⟩ := H
        replace H : ((packet_Bytes.f kj2 a1_0 a1_1 a1_2 a1_3 a1_4).bind fun bt215 => (if t214 = 0 then (thalweglaw08_PacketApart.j1 kj2 t211 bt215.1 (bt215.2 != 0) a0_0 a0_1 a0_2 a0_3 a0_4 a1_0 a1_1 a1_2 a1_3 a1_4) else (thalweglaw08_PacketApart.j1 kj2 t211 bt215.1 true a0_0 a0_1 a0_2 a0_3 a0_4 a1_0 a1_1 a1_2 a1_3 a1_4))) = some r := H
        have A13 := Aside0.mk A130
        clear A130
        replace H := Option.bind_eq_some_iff.mp H
        obtain ⟨⟨t215, t218⟩, A140, H⟩ := H
        replace H : (if t214 = 0 then (thalweglaw08_PacketApart.j1 kj2 t211 t215 (t218 != 0) a0_0 a0_1 a0_2 a0_3 a0_4 a1_0 a1_1 a1_2 a1_3 a1_4) else (thalweglaw08_PacketApart.j1 kj2 t211 t215 true a0_0 a0_1 a0_2 a0_3 a0_4 a1_0 a1_1 a1_2 a1_3 a1_4)) = some r := H
        have A14 := Aside0.mk A140
        clear A140
        have HC15 := Aside0.mk H
        clear H
        have hnb16 := NB209_210.out
        have hnc16 := NB210_209.out
        have hcz17_0 : wc.cell? ⟨gb209, 0, none⟩ = some (.int .i64 a0_0) := (blk_cell BK209.out 0).trans rfl
        have hcz17_1 : wc.cell? ⟨gb209, 1, none⟩ = some (.int .i64 a0_1) := (blk_cell BK209.out 1).trans rfl
        have hcz17_2 : wc.cell? ⟨gb209, 2, none⟩ = some (.int .i64 a0_2) := (blk_cell BK209.out 2).trans rfl
        have hcz17_3 : wc.cell? ⟨gb209, 3, none⟩ = some (.int .i64 a0_3) := (blk_cell BK209.out 3).trans rfl
        have hcz17_4 : wc.cell? ⟨gb209, 4, none⟩ = some (.string a0_4) := (blk_cell BK209.out 4).trans rfl
        have hfz17_0 := blk_frozen BK209.out 0
        have hfz17_1 := blk_frozen BK209.out 1
        have hfz17_2 := blk_frozen BK209.out 2
        have hfz17_3 := blk_frozen BK209.out 3
        have hfz17_4 := blk_frozen BK209.out 4
        go_upto_region 5 with (first | ((with_reducible refine gate_callee (f := 8) rfl ?_); refine goesL_ (some 22) rfl rfl Try.func8 (by kernel_rfl) rfl #[.agg #[.int .i64 a0_0, .int .i64 a0_1, .int .i64 a0_2, .int .i64 a0_3, .string a0_4]] rfl (by (try simp only [List.map_toArray, List.map_cons, List.map_nil]); first | done | rfl | (simp only [List.length_drop, List.length_take]; rfl)) ?_; (with_reducible refine (packet_Bytes.calls kj2 a0_0 a0_1 a0_2 a0_3 a0_4 t211 t214 _ A13.out).mono ?_); rintro e w18 ⟨v212, rfl, ho0, hb⟩; refine ⟨_, rfl, ?_⟩; have n0_ := Aside0.mk (Kd.R_lower ho0 (below_size (by repeat (first | (with_reducible first | exact HB.out | apply below_alloc | apply pw_below_drewN | apply below_drew1 | refine below_set ?_ GE209.out | refine below_set ?_ GE210.out) | exact HB.out)))); have n1_ := Aside0.mk (blk_below (g := gb209) (o := .cells #[.int .i64 a0_0, .int .i64 a0_1, .int .i64 a0_2, .int .i64 a0_3, .string a0_4] 23 (0, 0)) (by (with_reducible repeat (first | refine blk_drewN ?_ _ | refine blk_drew ?_ | refine blk_alloc ?_ _)); exact BK209.out) hb); have n2_ := Aside0.mk (blk_below (g := gb210) (o := .cells #[.int .i64 a1_0, .int .i64 a1_1, .int .i64 a1_2, .int .i64 a1_3, .string a1_4] 23 (0, 0)) (by (with_reducible repeat (first | refine blk_drewN ?_ _ | refine blk_drew ?_ | refine blk_alloc ?_ _)); exact BK210.out) hb); have n3_ := Aside0.mk (below_step (by repeat (first | (with_reducible first | exact HB.out | apply below_alloc | apply pw_below_drewN | apply below_drew1 | refine below_set ?_ GE209.out | refine below_set ?_ GE210.out) | exact HB.out)) hb); clear BK209; clear BK210; clear HB; have HO213 := n0_; have BK209 := n1_; have BK210 := n2_; have HB := n3_; clear n0_ n1_ n2_ n3_; (try clear hb); (try clear hb2); (try clear hk); (try clear hi); (try clear ho0); have hcz19_0 : w18.cell? ⟨gb210, 0, none⟩ = some (.int .i64 a1_0) := (blk_cell BK210.out 0).trans rfl; have hcz19_1 : w18.cell? ⟨gb210, 1, none⟩ = some (.int .i64 a1_1) := (blk_cell BK210.out 1).trans rfl; have hcz19_2 : w18.cell? ⟨gb210, 2, none⟩ = some (.int .i64 a1_2) := (blk_cell BK210.out 2).trans rfl; have hcz19_3 : w18.cell? ⟨gb210, 3, none⟩ = some (.int .i64 a1_3) := (blk_cell BK210.out 3).trans rfl; have hcz19_4 : w18.cell? ⟨gb210, 4, none⟩ = some (.string a1_4) := (blk_cell BK210.out 4).trans rfl; have hfz19_0 := blk_frozen BK210.out 0; have hfz19_1 := blk_frozen BK210.out 1; have hfz19_2 := blk_frozen BK210.out 2; have hfz19_3 := blk_frozen BK210.out 3; have hfz19_4 := blk_frozen BK210.out 4) | ((with_reducible refine gate_callee (f := 8) rfl ?_); refine goesL_ (some 27) rfl rfl Try.func8 (by kernel_rfl) rfl #[.agg #[.int .i64 a1_0, .int .i64 a1_1, .int .i64 a1_2, .int .i64 a1_3, .string a1_4]] rfl (by (try simp only [List.map_toArray, List.map_cons, List.map_nil]); first | done | rfl | (simp only [List.length_drop, List.length_take]; rfl)) ?_; (with_reducible refine (packet_Bytes.calls kj2 a1_0 a1_1 a1_2 a1_3 a1_4 t215 t218 _ A14.out).mono ?_); rintro e w20 ⟨v216, rfl, ho0, hb⟩; refine ⟨_, rfl, ?_⟩; have n0_ := Aside0.mk (Kd.R_elder' (by (with_reducible repeat (first | apply Kd.R_alloc | apply Kd.R_drewN | apply Kd.R_drew)); exact HO213.out) (Kd.R_base ho0) hb); have n1_ := Aside0.mk (Kd.R_lower (Kd.R_new' ho0 (Kd.R_lt (by (with_reducible repeat (first | apply Kd.R_alloc | apply Kd.R_drewN | apply Kd.R_drew)); exact HO213.out))) (below_size (by repeat (first | (with_reducible first | exact HB.out | apply below_alloc | apply pw_below_drewN | apply below_drew1 | refine below_set ?_ GE209.out | refine below_set ?_ GE210.out) | exact HB.out)))); have n2_ := Aside0.mk (blk_below (g := gb209) (o := .cells #[.int .i64 a0_0, .int .i64 a0_1, .int .i64 a0_2, .int .i64 a0_3, .string a0_4] 23 (0, 0)) (by (with_reducible repeat (first | refine blk_drewN ?_ _ | refine blk_drew ?_ | refine blk_alloc ?_ _)); exact BK209.out) hb); have n3_ := Aside0.mk (blk_below (g := gb210) (o := .cells #[.int .i64 a1_0, .int .i64 a1_1, .int .i64 a1_2, .int .i64 a1_3, .string a1_4] 23 (0, 0)) (by (with_reducible repeat (first | refine blk_drewN ?_ _ | refine blk_drew ?_ | refine blk_alloc ?_ _)); exact BK210.out) hb); have n4_ := Aside0.mk (below_step (by repeat (first | (with_reducible first | exact HB.out | apply below_alloc | apply pw_below_drewN | apply below_drew1 | refine below_set ?_ GE209.out | refine below_set ?_ GE210.out) | exact HB.out)) hb); clear HO213; clear BK209; clear BK210; clear HB; have HO213 := n0_; have HO217 := n1_; have BK209 := n2_; have BK210 := n3_; have HB := n4_; clear n0_ n1_ n2_ n3_ n4_; (try clear hb); (try clear hb2); (try clear hk); (try clear hi); (try clear ho0)))
        (try simp only [Act.put, List.setIfInBounds_toArray, List.set_cons_zero, List.set_cons_succ])
        go_cut [35] (fun v35 wc => ∃ (kq : Nat) (x35_14 : Bool), v35 = .bool x35_14 ∧ Aside0 (thalweglaw08_PacketApart.j1 kq t211 t215 x35_14 a0_0 a0_1 a0_2 a0_3 a0_4 a1_0 a1_1 a1_2 a1_3 a1_4 = some r) ∧ Aside0 (kq ≤ kj2) ∧ Aside0 (Kd.R (Kd.int .u8) 5 wc w.heap.size (fun k_ => some k_ ≠ (v216 : Value).ownBlock) v212 t211) ∧ Aside0 (Kd.R (Kd.int .u8) 5 wc w.heap.size (fun k_ => some k_ ≠ (v212 : Value).ownBlock) v216 t215) ∧ Aside0 (wc.heap[gb209]? = some (.cells #[.int .i64 a0_0, .int .i64 a0_1, .int .i64 a0_2, .int .i64 a0_3, .string a0_4] 23 (0, 0))) ∧ Aside0 (wc.heap[gb210]? = some (.cells #[.int .i64 a1_0, .int .i64 a1_1, .int .i64 a1_2, .int .i64 a1_3, .string a1_4] 23 (0, 0))) ∧ Aside0 (Below w.heap.size w wc))
        case first =>
          have H := HC15.out
          clear HC15
          by_cases c21 : t214 = 0
          · rw [if_pos c21] at H
            have c21b0 : (t214 == 0) = true := beq_iff_eq.mpr c21
            have c21b1 : (t214 != 0) = false := bne_eq_false_iff_eq.mpr c21
            clear c21
            (first | rw [c21b0] | (simp only [i64_w, i32_w]; rw [c21b0]) | skip)
            have H' := Aside0.mk H
            clear H
            go_wp2
            go_meet
            case rel => exact ⟨_, ((t218 != 0)), (by first | rfl | (simp; done) | (simp [*]; done)), H', ⟨by have := HJ2.out; first | omega | exact Nat.le_refl _⟩, ⟨by (with_reducible repeat (first | apply Kd.R_alloc | apply Kd.R_drewN | apply Kd.R_drew)); exact Kd.R_mono HO213.out (fun _ hk => by first | exact hk.2 | exact trivial | (simp [hk]; done) | simp_all)⟩, ⟨by (with_reducible repeat (first | apply Kd.R_alloc | apply Kd.R_drewN | apply Kd.R_drew)); exact Kd.R_mono HO217.out (fun _ hk => by first | exact hk.2 | exact trivial | (simp [hk]; done) | simp_all)⟩, ⟨by (with_reducible repeat (first | refine blk_drewN ?_ _ | refine blk_drew ?_ | refine blk_alloc ?_ _)); exact BK209.out⟩, ⟨by (with_reducible repeat (first | refine blk_drewN ?_ _ | refine blk_drew ?_ | refine blk_alloc ?_ _)); exact BK210.out⟩, ⟨by repeat (first | (with_reducible first | exact HB.out | apply below_alloc | apply pw_below_drewN | apply below_drew1 | refine below_set ?_ GE209.out | refine below_set ?_ GE210.out) | exact HB.out)⟩⟩
          · rw [if_neg c21] at H
            have c21b0 : (t214 == 0) = false := beq_eq_false_iff_ne.mpr c21
            have c21b1 : (t214 != 0) = true := bne_iff_ne.mpr c21
            (first | rw [c21b0] | (simp only [i64_w, i32_w]; rw [c21b0]) | skip)
            have H' := Aside0.mk H
            clear H
            go_wp2
            go_meet
            case rel => exact ⟨_, (true), (by first | rfl | (simp; done) | (simp [*]; done)), H', ⟨by have := HJ2.out; first | omega | exact Nat.le_refl _⟩, ⟨by (with_reducible repeat (first | apply Kd.R_alloc | apply Kd.R_drewN | apply Kd.R_drew)); exact Kd.R_mono HO213.out (fun _ hk => by first | exact hk.2 | exact trivial | (simp [hk]; done) | simp_all)⟩, ⟨by (with_reducible repeat (first | apply Kd.R_alloc | apply Kd.R_drewN | apply Kd.R_drew)); exact Kd.R_mono HO217.out (fun _ hk => by first | exact hk.2 | exact trivial | (simp [hk]; done) | simp_all)⟩, ⟨by (with_reducible repeat (first | refine blk_drewN ?_ _ | refine blk_drew ?_ | refine blk_alloc ?_ _)); exact BK209.out⟩, ⟨by (with_reducible repeat (first | refine blk_drewN ?_ _ | refine blk_drew ?_ | refine blk_alloc ?_ _)); exact BK210.out⟩, ⟨by repeat (first | (with_reducible first | exact HB.out | apply below_alloc | apply pw_below_drewN | apply below_drew1 | refine below_set ?_ GE209.out | refine below_set ?_ GE210.out) | exact HB.out)⟩⟩
        case rest =>
          clear HC15
          try clear c1
          try clear c2
          try clear p2
          try clear c5
          try clear c6
          try clear c6b0
          try clear c6b1
          try clear c7
          try clear c8
          try clear c9
          try clear c12
          try clear c16
          try clear c21
          try clear c21b0
          try clear c21b1
          try clear hcz10_0
          try clear hcz10_1
          try clear hcz10_2
          try clear hcz10_3
          try clear hcz10_4
          try clear hcz11_0
          try clear hcz11_1
          try clear hcz11_2
          try clear hcz11_3
          try clear hcz11_4
          try clear hcz17_0
          try clear hcz17_1
          try clear hcz17_2
          try clear hcz17_3
          try clear hcz17_4
          try clear hcz19_0
          try clear hcz19_1
          try clear hcz19_2
          try clear hcz19_3
          try clear hcz19_4
          try clear hcz8_0
          try clear hcz8_1
          try clear hcz8_2
          try clear hcz8_3
          try clear hcz8_4
          try clear hfz10_0
          try clear hfz10_1
          try clear hfz10_2
          try clear hfz10_3
          try clear hfz10_4
          try clear hfz11_0
          try clear hfz11_1
          try clear hfz11_2
          try clear hfz11_3
          try clear hfz11_4
          try clear hfz17_0
          try clear hfz17_1
          try clear hfz17_2
          try clear hfz17_3
          try clear hfz17_4
          try clear hfz19_0
          try clear hfz19_1
          try clear hfz19_2
          try clear hfz19_3
          try clear hfz19_4
          try clear hfz8_0
          try clear hfz8_1
          try clear hfz8_2
          try clear hfz8_3
          try clear hfz8_4
          try clear p2
          obtain ⟨kq, x35_14, rfl, HA, HJ14, HO_5, HO_7, BK209, BK210, HB⟩ := hcut
          cases kq with
          | zero => exact absurd HA.out (by simp [thalweglaw08_PacketApart.j1])
          | succ kj14 =>
            have H := HA.out
            clear HA
            simp only [thalweglaw08_PacketApart.j1] at H
            by_cases c22 : x35_14 = true
            · subst c22
              have H1 : ((thalweglaw08_awake.f kj14).bind fun t219 => (some t219)) = some r := by rw [if_pos rfl] at H; exact H
              clear H
              have H := H1
              clear H1
              replace H := Option.bind_eq_some_iff.mp H
              obtain ⟨t219, A230, H⟩ := H
              replace H : (some t219) = some r := H
              have A23 := Aside0.mk A230
              clear A230
              obtain rfl := Option.some.inj H
              go_wp2_with (first | ((with_reducible refine gate_callee (f := 12) rfl ?_); refine goesL_ (some 36) rfl rfl Try.func12 (by kernel_rfl) rfl #[] rfl (by (try simp only [List.map_toArray, List.map_cons, List.map_nil]); first | done | rfl | (simp only [List.length_drop, List.length_take]; rfl)) ?_; (with_reducible refine (thalweglaw08_awake.calls kj14  t219 _ A23.out).mono ?_); rintro e w24 ⟨rfl, hb⟩; refine ⟨_, rfl, ?_⟩; have n0_ := Aside0.mk (Kd.R_below (by (with_reducible repeat (first | apply Kd.R_alloc | apply Kd.R_drewN | apply Kd.R_drew)); exact HO_5.out) hb); have n1_ := Aside0.mk (Kd.R_below (by (with_reducible repeat (first | apply Kd.R_alloc | apply Kd.R_drewN | apply Kd.R_drew)); exact HO_7.out) hb); have n2_ := Aside0.mk (blk_below (g := gb209) (o := .cells #[.int .i64 a0_0, .int .i64 a0_1, .int .i64 a0_2, .int .i64 a0_3, .string a0_4] 23 (0, 0)) (by (with_reducible repeat (first | refine blk_drewN ?_ _ | refine blk_drew ?_ | refine blk_alloc ?_ _)); exact BK209.out) hb); have n3_ := Aside0.mk (blk_below (g := gb210) (o := .cells #[.int .i64 a1_0, .int .i64 a1_1, .int .i64 a1_2, .int .i64 a1_3, .string a1_4] 23 (0, 0)) (by (with_reducible repeat (first | refine blk_drewN ?_ _ | refine blk_drew ?_ | refine blk_alloc ?_ _)); exact BK210.out) hb); have n4_ := Aside0.mk (below_step (by repeat (first | (with_reducible first | exact HB.out | apply below_alloc | apply pw_below_drewN | apply below_drew1 | refine below_set ?_ GE209.out | refine below_set ?_ GE210.out) | exact HB.out)) hb); clear HO_5; clear HO_7; clear BK209; clear BK210; clear HB; have HO_5 := n0_; have HO_7 := n1_; have BK209 := n2_; have BK210 := n3_; have HB := n4_; clear n0_ n1_ n2_ n3_ n4_; (try clear hb); (try clear hb2); (try clear hk); (try clear hi)))
              go_ret
              exact ⟨by first | rfl | (simp [errW_none, errW_some] <;> rfl) | (simp [*, errW_none, errW_some] <;> rfl), by repeat (first | (with_reducible first | exact HB.out | apply below_alloc | apply pw_below_drewN | apply below_drew1 | refine below_set ?_ GE209.out | refine below_set ?_ GE210.out) | exact HB.out)⟩
            · replace c22 := Bool.eq_false_iff.mpr c22
              subst c22
              have H1 : ((thalweglaw08_awake.f kj14).bind fun t220 => (if t220 = true then (if 0 ≤ (mn (t211.length : Int) (t215.length : Int)) then (if (mn (t211.length : Int) (t215.length : Int)) ≤ (t211.length : Int) then (if (mn (t211.length : Int) (t215.length : Int)) ≤ (t215.length : Int) then (some (((strOfNums (t211.take ((mn (t211.length : Int) (t215.length : Int)) : Int).toNat)).toList == (strOfNums (t215.take ((mn (t211.length : Int) (t215.length : Int)) : Int).toNat)).toList) == (a0_0 == a1_0 && (a0_1 == a1_1 && (a0_2 == a1_2 && (a0_3 == a1_3 && (a0_4.toList == a1_4.toList))))))) else (none)) else (none)) else (none)) else (none))) = some r := by rw [if_neg (show ¬ (false = true) by decide)] at H; exact H
              clear H
              have H := H1
              clear H1
              obtain ⟨ji25, hji25⟩ : ∃ j_ : Int, (mn (t211.length : Int) (t215.length : Int)) = j_ := ⟨_, rfl⟩
              replace H : ((thalweglaw08_awake.f kj14).bind fun t220 => (if t220 = true then (if 0 ≤ (ji25) then (if (ji25) ≤ (t211.length : Int) then (if (ji25) ≤ (t215.length : Int) then (some (((strOfNums (t211.take ((ji25) : Int).toNat)).toList == (strOfNums (t215.take ((ji25) : Int).toNat)).toList) == (a0_0 == a1_0 && (a0_1 == a1_1 && (a0_2 == a1_2 && (a0_3 == a1_3 && (a0_4.toList == a1_4.toList))))))) else (none)) else (none)) else (none)) else (none))) = some r := by first | (rw [hji25] at H; exact H) | (simp only [hji25] at H ⊢; exact H)
              have hji25_ : (if (t215.length : Int) < (t211.length : Int) then (t215.length : Int) else (t211.length : Int)) = ji25 := hji25
              have hji25n_ : (if t215.length < t211.length then (t215.length : Int) else (t211.length : Int)) = ji25 := (by rw [← hji25]; simp only [mn]; split <;> split <;> omega)
              replace H := Option.bind_eq_some_iff.mp H
              obtain ⟨t220, A260, H⟩ := H
              replace H : (if t220 = true then (if 0 ≤ (ji25) then (if (ji25) ≤ (t211.length : Int) then (if (ji25) ≤ (t215.length : Int) then (some (((strOfNums (t211.take ((ji25) : Int).toNat)).toList == (strOfNums (t215.take ((ji25) : Int).toNat)).toList) == (a0_0 == a1_0 && (a0_1 == a1_1 && (a0_2 == a1_2 && (a0_3 == a1_3 && (a0_4.toList == a1_4.toList))))))) else (none)) else (none)) else (none)) else (none)) = some r := H
              have A26 := Aside0.mk A260
              clear A260
              by_cases c27 : t220 = true
              · subst c27
                have H1 : (if 0 ≤ (ji25) then (if (ji25) ≤ (t211.length : Int) then (if (ji25) ≤ (t215.length : Int) then (some (((strOfNums (t211.take ((ji25) : Int).toNat)).toList == (strOfNums (t215.take ((ji25) : Int).toNat)).toList) == (a0_0 == a1_0 && (a0_1 == a1_1 && (a0_2 == a1_2 && (a0_3 == a1_3 && (a0_4.toList == a1_4.toList))))))) else (none)) else (none)) else (none)) = some r := by rw [if_pos rfl] at H; exact H
                clear H
                have H := H1
                clear H1
                by_cases c28 : 0 ≤ (ji25)
                rotate_left
                · rw [if_neg c28] at H
                  exact absurd H (by simp)
                rw [if_pos c28] at H
                have c28b0 := eq_true c28
                have c28b1 : decide (0 ≤ (ji25)) = true := decide_eq_true c28
                clear c28
                by_cases c29 : (ji25) ≤ (t211.length : Int)
                rotate_left
                · rw [if_neg c29] at H
                  exact absurd H (by simp)
                rw [if_pos c29] at H
                have c29b0 := eq_true c29
                have c29b1 : decide ((ji25) ≤ (t211.length : Int)) = true := decide_eq_true c29
                clear c29
                obtain ⟨y221, hy221⟩ : ∃ y_ : List Int, y_ = (t211.take ((ji25) : Int).toNat) := ⟨_, rfl⟩
                replace H : (if (ji25) ≤ (t215.length : Int) then (some (((strOfNums y221).toList == (strOfNums (t215.take ((ji25) : Int).toNat)).toList) == (a0_0 == a1_0 && (a0_1 == a1_1 && (a0_2 == a1_2 && (a0_3 == a1_3 && (a0_4.toList == a1_4.toList))))))) else (none)) = some r := by first | (rw [hy221]; with_reducible exact H) | (have H2_ := (Option.bind_some _ _).symm.trans H; rw [hy221]; with_reducible exact H2_) | (have H2_ := (Option.bind_some _ _).symm.trans H; with_reducible exact H2_) | with_reducible exact H | (rw [hy221]; exact H) | exact H
                have Ny221 := Aside0.mk hy221
                clear hy221
                have c30b0 := eq_true (of_decide_eq_true (by first | (with_reducible assumption) | assumption) : 0 ≤ (ji25))
                by_cases c31 : (ji25) ≤ (t215.length : Int)
                rotate_left
                · rw [if_neg c31] at H
                  exact absurd H (by simp)
                rw [if_pos c31] at H
                have c31b0 := eq_true c31
                have c31b1 : decide ((ji25) ≤ (t215.length : Int)) = true := decide_eq_true c31
                clear c31
                obtain ⟨y225, hy225⟩ : ∃ y_ : List Int, y_ = (t215.take ((ji25) : Int).toNat) := ⟨_, rfl⟩
                replace H : (some (((strOfNums y221).toList == (strOfNums y225).toList) == (a0_0 == a1_0 && (a0_1 == a1_1 && (a0_2 == a1_2 && (a0_3 == a1_3 && (a0_4.toList == a1_4.toList))))))) = some r := by first | (rw [hy225]; with_reducible exact H) | (have H2_ := (Option.bind_some _ _).symm.trans H; rw [hy225]; with_reducible exact H2_) | (have H2_ := (Option.bind_some _ _).symm.trans H; with_reducible exact H2_) | with_reducible exact H | (rw [hy225]; exact H) | exact H
                have Ny225 := Aside0.mk hy225
                clear hy225
                obtain rfl := Option.some.inj H
                obtain ⟨Ao32, co32, eo32⟩ := Kd.R_slice HO_5.out
                subst eo32
                obtain ⟨Ao33, co33, eo33⟩ := Kd.R_slice HO_7.out
                subst eo33
                try go_wp2
                have n0_ := Aside0.mk (Kd.R_drew HO_5.out)
                have n1_ := Aside0.mk (Kd.R_drew HO_7.out)
                have n2_ := Aside0.mk (blk_drew BK209.out)
                have n3_ := Aside0.mk (blk_drew BK210.out)
                have n4_ := Aside0.mk (below_drew1 HB.out)
                clear HO_5
                clear HO_7
                clear BK209
                clear BK210
                clear HB
                have HO_5 := n0_
                have HO_7 := n1_
                have BK209 := n2_
                have BK210 := n3_
                have HB := n4_
                clear n0_ n1_ n2_ n3_ n4_
                have q36 : ((ji25) : Int) ≤ ((t211.length : Int) : Int) := of_decide_eq_true (by first | (with_reducible assumption) | assumption)
                obtain ⟨i036, hi036, _, hsz36, _⟩ := info_parts info5
                have hroom36 : t211.length ≤ co32 := (Kd.R_reads' HO_5.out).2.1
                have hC36 : Kd.C (Kd.int .u8) _ Ao32 t211.length t211 := (Kd.R_reads' HO_5.out).2.2
                have hcut36 := cut_to (P := Try.prog) 24 5 .i64 Try.underlying24 hi036 Ao32 t211.length co32 (ji25) (of_decide_eq_true (by first | (with_reducible assumption) | assumption)) q36 hroom36
                have hr36 := Kd.C_take (m := ((ji25) : Int).toNat) hC36 (by omega)
                have hy36 : y221.length = ((ji25) : Int).toNat := (by rw [Ny221.out, List.length_take]; omega)
                rw [← Ny221.out] at hr36
                rw [← hy36] at hcut36
                have HR224 := Aside0.mk hr36
                have HC224 := Aside0.mk (show y221.length ≤ co32 from by omega)
                clear hr36 hC36 hroom36 hi036 hsz36
                have KY36 := Aside0.mk hy36
                clear hy36
                have KL36 := Aside0.mk (show ((ji25) : Int).toNat ≤ t211.length from by omega)
                replace q36 := eq_true q36
                have q38 : ((ji25) : Int) ≤ ((t215.length : Int) : Int) := of_decide_eq_true (by first | (with_reducible assumption) | assumption)
                obtain ⟨i038, hi038, _, hsz38, _⟩ := info_parts info5
                have hroom38 : t215.length ≤ co33 := (Kd.R_reads' HO_7.out).2.1
                have hC38 : Kd.C (Kd.int .u8) _ Ao33 t215.length t215 := (Kd.R_reads' HO_7.out).2.2
                have hcut38 := cut_to (P := Try.prog) 24 5 .i64 Try.underlying24 hi038 Ao33 t215.length co33 (ji25) (of_decide_eq_true (by first | (with_reducible assumption) | assumption)) q38 hroom38
                have hr38 := Kd.C_take (m := ((ji25) : Int).toNat) hC38 (by omega)
                have hy38 : y225.length = ((ji25) : Int).toNat := (by rw [Ny225.out, List.length_take]; omega)
                rw [← Ny225.out] at hr38
                rw [← hy38] at hcut38
                have HR228 := Aside0.mk hr38
                have HC228 := Aside0.mk (show y225.length ≤ co33 from by omega)
                clear hr38 hC38 hroom38 hi038 hsz38
                have KY38 := Aside0.mk hy38
                clear hy38
                have KL38 := Aside0.mk (show ((ji25) : Int).toNat ≤ t215.length from by omega)
                replace q38 := eq_true q38
                refine start_ (n := 17) (S := fun w' => w'.cell? ⟨gb209, 0, none⟩ = some (.int .i64 a0_0) ∧ w'.cell? ⟨gb209, 1, none⟩ = some (.int .i64 a0_1) ∧ w'.cell? ⟨gb209, 2, none⟩ = some (.int .i64 a0_2) ∧ w'.cell? ⟨gb209, 3, none⟩ = some (.int .i64 a0_3) ∧ w'.cell? ⟨gb209, 4, none⟩ = some (.string a0_4) ∧ w'.cell? ⟨gb210, 0, none⟩ = some (.int .i64 a1_0) ∧ w'.cell? ⟨gb210, 1, none⟩ = some (.int .i64 a1_1) ∧ w'.cell? ⟨gb210, 2, none⟩ = some (.int .i64 a1_2) ∧ w'.cell? ⟨gb210, 3, none⟩ = some (.int .i64 a1_3) ∧ w'.cell? ⟨gb210, 4, none⟩ = some (.string a1_4) ∧ (convert 24 9 (.slice Ao32 _ co32)).run Try.prog w' = .ok (.string (strOfNums y221)) w' ∧ (convert 24 9 (.slice Ao33 _ co33)).run Try.prog w' = .ok (.string (strOfNums y225)) w') (ds := []) #[false, false, false, false, false, false, false, false, false, false, false, false, false, false, false, false, false] (by kernel_rfl) rfl rfl ⟨(blk_cell BK209.out 0).trans rfl, (blk_cell BK209.out 1).trans rfl, (blk_cell BK209.out 2).trans rfl, (blk_cell BK209.out 3).trans rfl, (blk_cell BK209.out 4).trans rfl, (blk_cell BK210.out 0).trans rfl, (blk_cell BK210.out 1).trans rfl, (blk_cell BK210.out 2).trans rfl, (blk_cell BK210.out 3).trans rfl, (blk_cell BK210.out 4).trans rfl, (Kd.C_string (P := Try.prog) (A := Ao32) (c := co32) Try.underlying24 Try.underlying5 Try.underlying9 (by repeat (first | (with_reducible exact HR224.out) | (with_reducible refine Kd.C_alloc ?_ _) | (with_reducible refine Kd.C_drewN ?_ _) | (with_reducible refine Kd.C_drew ?_) | exact HR224.out))), (Kd.C_string (P := Try.prog) (A := Ao33) (c := co33) Try.underlying24 Try.underlying5 Try.underlying9 (by repeat (first | (with_reducible exact HR228.out) | (with_reducible refine Kd.C_alloc ?_ _) | (with_reducible refine Kd.C_drewN ?_ _) | (with_reducible refine Kd.C_drew ?_) | exact HR228.out)))⟩ (fun hHeld => ?_); refine with_tabW thalweglaw08_PacketApart.tab8 thalweglaw08_PacketApart.bits8 (fun HT_ HW_ => ?_)
                generalize wc.drew = w34 at HO_5 HO_7 BK209 BK210 HB hHeld ⊢
                refine one_ (i := 0) (N := some 42) #[true, false, false, false, false, false, false, false, false, false, false, false, false, false, false, false, false] rfl rfl (one_of HT_.out (by kernel_rfl)) (by decide) (fun K hK => ?_)
                refine goes_ Try.func12 (by kernel_rfl) rfl #[] (by rfl) rfl rfl (by (try simp only [List.map_toArray, List.map_cons, List.map_nil]); first | done | rfl | (simp only [List.length_drop, List.length_take]; rfl)) ?_
                with_reducible refine (thalweglaw08_awake.calls kj14  true _ A26.out).mono ?_
                rintro e w35 ⟨rfl, hb⟩
                refine ⟨_, rfl, ?_⟩
                have n0_ := Aside0.mk (Kd.R_below (by (with_reducible repeat (first | apply Kd.R_alloc | apply Kd.R_drewN | apply Kd.R_drew)); exact HO_5.out) hb)
                have n1_ := Aside0.mk (Kd.R_below (by (with_reducible repeat (first | apply Kd.R_alloc | apply Kd.R_drewN | apply Kd.R_drew)); exact HO_7.out) hb)
                have n2_ := Aside0.mk (blk_below (g := gb209) (o := .cells #[.int .i64 a0_0, .int .i64 a0_1, .int .i64 a0_2, .int .i64 a0_3, .string a0_4] 23 (0, 0)) (by (with_reducible repeat (first | refine blk_drewN ?_ _ | refine blk_drew ?_ | refine blk_alloc ?_ _)); exact BK209.out) hb)
                have n3_ := Aside0.mk (blk_below (g := gb210) (o := .cells #[.int .i64 a1_0, .int .i64 a1_1, .int .i64 a1_2, .int .i64 a1_3, .string a1_4] 23 (0, 0)) (by (with_reducible repeat (first | refine blk_drewN ?_ _ | refine blk_drew ?_ | refine blk_alloc ?_ _)); exact BK210.out) hb)
                have n4_ := Aside0.mk (below_step (by repeat (first | (with_reducible first | exact HB.out | apply below_alloc | apply pw_below_drewN | apply below_drew1 | refine below_set ?_ GE209.out | refine below_set ?_ GE210.out) | exact HB.out)) hb)
                clear HO_5
                clear HO_7
                clear BK209
                clear BK210
                clear HB
                have HO_5 := n0_
                have HO_7 := n1_
                have BK209 := n2_
                have BK210 := n3_
                have HB := n4_
                clear n0_ n1_ n2_ n3_ n4_
                (try clear hb)
                (try clear hb2)
                (try clear hk)
                (try clear hi)
                have q36 : ((ji25) : Int) ≤ ((t211.length : Int) : Int) := of_decide_eq_true (by first | (with_reducible assumption) | assumption)
                obtain ⟨i036, hi036, _, hsz36, _⟩ := info_parts info5
                have hroom36 : t211.length ≤ co32 := (Kd.R_reads' HO_5.out).2.1
                have hC36 : Kd.C (Kd.int .u8) _ Ao32 t211.length t211 := (Kd.R_reads' HO_5.out).2.2
                have hcut36 := cut_to (P := Try.prog) 24 5 .i64 Try.underlying24 hi036 Ao32 t211.length co32 (ji25) (of_decide_eq_true (by first | (with_reducible assumption) | assumption)) q36 hroom36
                have hr36 := Kd.C_take (m := ((ji25) : Int).toNat) hC36 (by omega)
                have hy36 : y221.length = ((ji25) : Int).toNat := (by rw [Ny221.out, List.length_take]; omega)
                rw [← Ny221.out] at hr36
                rw [← hy36] at hcut36
                have HR224 := Aside0.mk hr36
                have HC224 := Aside0.mk (show y221.length ≤ co32 from by omega)
                clear hr36 hC36 hroom36 hi036 hsz36
                have KY36 := Aside0.mk hy36
                clear hy36
                have KL36 := Aside0.mk (show ((ji25) : Int).toNat ≤ t211.length from by omega)
                replace q36 := eq_true q36
                have q38 : ((ji25) : Int) ≤ ((t215.length : Int) : Int) := of_decide_eq_true (by first | (with_reducible assumption) | assumption)
                obtain ⟨i038, hi038, _, hsz38, _⟩ := info_parts info5
                have hroom38 : t215.length ≤ co33 := (Kd.R_reads' HO_7.out).2.1
                have hC38 : Kd.C (Kd.int .u8) _ Ao33 t215.length t215 := (Kd.R_reads' HO_7.out).2.2
                have hcut38 := cut_to (P := Try.prog) 24 5 .i64 Try.underlying24 hi038 Ao33 t215.length co33 (ji25) (of_decide_eq_true (by first | (with_reducible assumption) | assumption)) q38 hroom38
                have hr38 := Kd.C_take (m := ((ji25) : Int).toNat) hC38 (by omega)
                have hy38 : y225.length = ((ji25) : Int).toNat := (by rw [Ny225.out, List.length_take]; omega)
                rw [← Ny225.out] at hr38
                rw [← hy38] at hcut38
                have HR228 := Aside0.mk hr38
                have HC228 := Aside0.mk (show y225.length ≤ co33 from by omega)
                clear hr38 hC38 hroom38 hi038 hsz38
                have KY38 := Aside0.mk hy38
                clear hy38
                have KL38 := Aside0.mk (show ((ji25) : Int).toNat ≤ t215.length from by omega)
                replace q38 := eq_true q38
                refine hK.out _ _ ⟨(blk_cell BK209.out 0).trans rfl, (blk_cell BK209.out 1).trans rfl, (blk_cell BK209.out 2).trans rfl, (blk_cell BK209.out 3).trans rfl, (blk_cell BK209.out 4).trans rfl, (blk_cell BK210.out 0).trans rfl, (blk_cell BK210.out 1).trans rfl, (blk_cell BK210.out 2).trans rfl, (blk_cell BK210.out 3).trans rfl, (blk_cell BK210.out 4).trans rfl, (Kd.C_string (P := Try.prog) (A := Ao32) (c := co32) Try.underlying24 Try.underlying5 Try.underlying9 (by repeat (first | (with_reducible exact HR224.out) | (with_reducible refine Kd.C_alloc ?_ _) | (with_reducible refine Kd.C_drewN ?_ _) | (with_reducible refine Kd.C_drew ?_) | exact HR224.out))), (Kd.C_string (P := Try.prog) (A := Ao33) (c := co33) Try.underlying24 Try.underlying5 Try.underlying9 (by repeat (first | (with_reducible exact HR228.out) | (with_reducible refine Kd.C_alloc ?_ _) | (with_reducible refine Kd.C_drewN ?_ _) | (with_reducible refine Kd.C_drew ?_) | exact HR228.out)))⟩ (fun hHeld => ?_)
                clear hK K
                refine norm_ (a' := ?_) ?_ ?_
                rotate_left
                · show Act.put _ (some 42) _ = _
                  simp only [Act.put, List.setIfInBounds_toArray, List.set_cons_zero, List.set_cons_succ, i64_w, i32_w]
                  rfl
                refine pure_ (i := 1) (N := some 43) (v := ?_) (a' := ?_) #[true, true, false, false, false, false, false, false, false, false, false, false, false, false, false, false, false] rfl rfl (any_of HT_.out (by kernel_rfl)) (fun _ _ _ h => h) (Or.inl ⟨by rfl, ?_⟩) ?_ ?_
                rotate_left
                · intro w'
                  first | (go_simp; with_reducible rfl) | (have hj_ : (t215.length : Int) = ji25 := (by rw [← hji25]; simp only [mn]; split <;> omega); go_simp; with_reducible rfl) | (have hj_ : (t211.length : Int) = ji25 := (by rw [← hji25]; simp only [mn]; split <;> omega); go_simp; with_reducible rfl)
                rotate_left
                · simp only [Act.put, List.setIfInBounds_toArray, List.set_cons_zero, List.set_cons_succ, i64_w, i32_w]
                  rfl
                refine pure_ (i := 2) (N := some 44) (v := ?_) (a' := ?_) #[true, true, true, false, false, false, false, false, false, false, false, false, false, false, false, false, false] rfl rfl (any_of HT_.out (by kernel_rfl)) (fun _ _ _ h => h) (Or.inl ⟨by rfl, ?_⟩) ?_ ?_
                rotate_left
                · intro w'
                  first | (go_simp; with_reducible rfl) | (have hj_ : (t215.length : Int) = ji25 := (by rw [← hji25]; simp only [mn]; split <;> omega); go_simp; with_reducible rfl) | (have hj_ : (t211.length : Int) = ji25 := (by rw [← hji25]; simp only [mn]; split <;> omega); go_simp; with_reducible rfl)
                rotate_left
                · simp only [Act.put, List.setIfInBounds_toArray, List.set_cons_zero, List.set_cons_succ, i64_w, i32_w]
                  rfl
                refine pure_ (i := 3) (N := some 45) (v := ?_) (a' := ?_) #[true, true, true, true, false, false, false, false, false, false, false, false, false, false, false, false, false] rfl rfl (any_of HT_.out (by kernel_rfl)) (fun _ _ _ h => h) (Or.inl ⟨by rfl, ?_⟩) ?_ ?_
                rotate_left
                · intro w'
                  first | (go_simp; with_reducible rfl) | (have hj_ : (t215.length : Int) = ji25 := (by rw [← hji25]; simp only [mn]; split <;> omega); go_simp; with_reducible rfl) | (have hj_ : (t211.length : Int) = ji25 := (by rw [← hji25]; simp only [mn]; split <;> omega); go_simp; with_reducible rfl)
                rotate_left
                · simp only [Act.put, List.setIfInBounds_toArray, List.set_cons_zero, List.set_cons_succ, i64_w, i32_w]
                  rfl
                refine pure_ (i := 4) (N := some 46) (v := ?_) (a' := ?_) #[true, true, true, true, true, false, false, false, false, false, false, false, false, false, false, false, false] rfl rfl (any_of HT_.out (by kernel_rfl)) (fun _ _ _ h => h) (Or.inl ⟨by rfl, ?_⟩) ?_ ?_
                rotate_left
                · intro w'
                  first | (go_simp; with_reducible rfl) | (have hj_ : (t215.length : Int) = ji25 := (by rw [← hji25]; simp only [mn]; split <;> omega); go_simp; with_reducible rfl) | (have hj_ : (t211.length : Int) = ji25 := (by rw [← hji25]; simp only [mn]; split <;> omega); go_simp; with_reducible rfl)
                rotate_left
                · simp only [Act.put, List.setIfInBounds_toArray, List.set_cons_zero, List.set_cons_succ, i64_w, i32_w]
                  rfl
                refine pure_ (i := 6) (N := some 48) (v := ?_) (a' := ?_) #[true, true, true, true, true, false, true, false, false, false, false, false, false, false, false, false, false] rfl rfl (any_of HT_.out (by kernel_rfl)) (fun _ _ _ h => h) (Or.inl ⟨by rfl, ?_⟩) ?_ ?_
                rotate_left
                · intro w'
                  first | (go_simp; with_reducible rfl) | (have hj_ : (t215.length : Int) = ji25 := (by rw [← hji25]; simp only [mn]; split <;> omega); go_simp; with_reducible rfl) | (have hj_ : (t211.length : Int) = ji25 := (by rw [← hji25]; simp only [mn]; split <;> omega); go_simp; with_reducible rfl)
                rotate_left
                · simp only [Act.put, List.setIfInBounds_toArray, List.set_cons_zero, List.set_cons_succ, i64_w, i32_w]
                  rfl
                refine pure_ (i := 7) (N := some 49) (v := ?_) (a' := ?_) #[true, true, true, true, true, false, true, true, false, false, false, false, false, false, false, false, false] rfl rfl (any_of HT_.out (by kernel_rfl)) (fun _ _ _ h => h) (Or.inl ⟨by rfl, ?_⟩) ?_ ?_
                rotate_left
                · intro w'
                  first | (go_simp; with_reducible rfl) | (have hj_ : (t215.length : Int) = ji25 := (by rw [← hji25]; simp only [mn]; split <;> omega); go_simp; with_reducible rfl) | (have hj_ : (t211.length : Int) = ji25 := (by rw [← hji25]; simp only [mn]; split <;> omega); go_simp; with_reducible rfl)
                rotate_left
                · simp only [Act.put, List.setIfInBounds_toArray, List.set_cons_zero, List.set_cons_succ, i64_w, i32_w]
                  rfl
                refine pure_ (i := 8) (N := some 50) (v := ?_) (a' := ?_) #[true, true, true, true, true, false, true, true, true, false, false, false, false, false, false, false, false] rfl rfl (any_of HT_.out (by kernel_rfl)) (fun _ _ _ h => h) (Or.inl ⟨by rfl, ?_⟩) ?_ ?_
                rotate_left
                · intro w'
                  first | (go_simp; with_reducible rfl) | (have hj_ : (t215.length : Int) = ji25 := (by rw [← hji25]; simp only [mn]; split <;> omega); go_simp; with_reducible rfl) | (have hj_ : (t211.length : Int) = ji25 := (by rw [← hji25]; simp only [mn]; split <;> omega); go_simp; with_reducible rfl)
                rotate_left
                · simp only [Act.put, List.setIfInBounds_toArray, List.set_cons_zero, List.set_cons_succ, i64_w, i32_w]
                  rfl
                refine take_ (i := 5) (N := some 47) (v := ?_) (a' := ?_) #[true, true, true, true, true, true, true, true, true, false, false, false, false, false, false, false, false] rfl rfl (take_ofW HT_.out HW_.out (by kernel_rfl)) (fun _ _ _ h => h) (Or.inl ⟨by rfl, ?_⟩) hHeld ?_ ?_
                rotate_left
                · rintro w' ⟨s0, s1, s2, s3, s4, s5, s6, s7, s8, s9, s10, s11⟩
                  first | (go_simp; with_reducible rfl) | ((try simp [*] at s10); (try simp [*] at s11); go_simp; with_reducible rfl)
                rotate_left
                · simp only [Act.put, List.setIfInBounds_toArray, List.set_cons_zero, List.set_cons_succ, i64_w, i32_w]
                  rfl
                refine take_ (i := 9) (N := some 51) (v := ?_) (a' := ?_) #[true, true, true, true, true, true, true, true, true, true, false, false, false, false, false, false, false] rfl rfl (take_ofW HT_.out HW_.out (by kernel_rfl)) (fun _ _ _ h => h) (Or.inl ⟨by rfl, ?_⟩) hHeld ?_ ?_
                rotate_left
                · rintro w' ⟨s0, s1, s2, s3, s4, s5, s6, s7, s8, s9, s10, s11⟩
                  first | (go_simp; with_reducible rfl) | ((try simp [*] at s10); (try simp [*] at s11); go_simp; with_reducible rfl)
                rotate_left
                · simp only [Act.put, List.setIfInBounds_toArray, List.set_cons_zero, List.set_cons_succ, i64_w, i32_w]
                  rfl
                refine pure_ (i := 10) (N := some 52) (v := ?_) (a' := ?_) #[true, true, true, true, true, true, true, true, true, true, true, false, false, false, false, false, false] rfl rfl (any_of HT_.out (by kernel_rfl)) (fun _ _ _ h => h) (Or.inl ⟨by rfl, ?_⟩) ?_ ?_
                rotate_left
                · intro w'
                  first | (go_simp; with_reducible rfl) | (have hj_ : (t215.length : Int) = ji25 := (by rw [← hji25]; simp only [mn]; split <;> omega); go_simp; with_reducible rfl) | (have hj_ : (t211.length : Int) = ji25 := (by rw [← hji25]; simp only [mn]; split <;> omega); go_simp; with_reducible rfl)
                rotate_left
                · simp only [Act.put, List.setIfInBounds_toArray, List.set_cons_zero, List.set_cons_succ, i64_w, i32_w]
                  rfl
                refine take_ (i := 11) (N := some 53) (v := ?_) (a' := ?_) #[true, true, true, true, true, true, true, true, true, true, true, true, false, false, false, false, false] rfl rfl (take_ofW HT_.out HW_.out (by kernel_rfl)) (fun _ _ _ h => h) (Or.inl ⟨by rfl, ?_⟩) hHeld ?_ ?_
                rotate_left
                · rintro w' ⟨s0, s1, s2, s3, s4, s5, s6, s7, s8, s9, s10, s11⟩
                  first | (go_simp; with_reducible rfl) | ((try simp [*] at s10); (try simp [*] at s11); go_simp; with_reducible rfl)
                rotate_left
                · simp only [Act.put, List.setIfInBounds_toArray, List.set_cons_zero, List.set_cons_succ, i64_w, i32_w]
                  rfl
                refine take_ (i := 12) (N := some 54) (v := ?_) (a' := ?_) #[true, true, true, true, true, true, true, true, true, true, true, true, true, false, false, false, false] rfl rfl (take_ofW HT_.out HW_.out (by kernel_rfl)) (fun _ _ _ h => h) (Or.inl ⟨by rfl, ?_⟩) hHeld ?_ ?_
                rotate_left
                · rintro w' ⟨s0, s1, s2, s3, s4, s5, s6, s7, s8, s9, s10, s11⟩
                  first | (go_simp; with_reducible rfl) | ((try simp [*] at s10); (try simp [*] at s11); go_simp; with_reducible rfl)
                rotate_left
                · simp only [Act.put, List.setIfInBounds_toArray, List.set_cons_zero, List.set_cons_succ, i64_w, i32_w]
                  rfl
                refine pure_ (i := 13) (N := some 55) (v := ?_) (a' := ?_) #[true, true, true, true, true, true, true, true, true, true, true, true, true, true, false, false, false] rfl rfl (any_of HT_.out (by kernel_rfl)) (fun _ _ _ h => h) (Or.inl ⟨by rfl, ?_⟩) ?_ ?_
                rotate_left
                · intro w'
                  first | (go_simp; with_reducible rfl) | (have hj_ : (t215.length : Int) = ji25 := (by rw [← hji25]; simp only [mn]; split <;> omega); go_simp; with_reducible rfl) | (have hj_ : (t211.length : Int) = ji25 := (by rw [← hji25]; simp only [mn]; split <;> omega); go_simp; with_reducible rfl)
                rotate_left
                · simp only [Act.put, List.setIfInBounds_toArray, List.set_cons_zero, List.set_cons_succ, i64_w, i32_w]
                  rfl
                refine pure_ (i := 14) (N := some 56) (v := ?_) (a' := ?_) #[true, true, true, true, true, true, true, true, true, true, true, true, true, true, true, false, false] rfl rfl (any_of HT_.out (by kernel_rfl)) (fun _ _ _ h => h) (Or.inl ⟨by rfl, ?_⟩) ?_ ?_
                rotate_left
                · intro w'
                  first | (go_simp; with_reducible rfl) | (have hj_ : (t215.length : Int) = ji25 := (by rw [← hji25]; simp only [mn]; split <;> omega); go_simp; with_reducible rfl) | (have hj_ : (t211.length : Int) = ji25 := (by rw [← hji25]; simp only [mn]; split <;> omega); go_simp; with_reducible rfl)
                rotate_left
                · simp only [Act.put, List.setIfInBounds_toArray, List.set_cons_zero, List.set_cons_succ, i64_w, i32_w]
                  rfl
                refine pure_ (i := 15) (N := some 57) (v := ?_) (a' := ?_) #[true, true, true, true, true, true, true, true, true, true, true, true, true, true, true, true, false] rfl rfl (any_of HT_.out (by kernel_rfl)) (fun _ _ _ h => h) (Or.inl ⟨by rfl, ?_⟩) ?_ ?_
                rotate_left
                · intro w'
                  first | (go_simp; with_reducible rfl) | (have hj_ : (t215.length : Int) = ji25 := (by rw [← hji25]; simp only [mn]; split <;> omega); go_simp; with_reducible rfl) | (have hj_ : (t211.length : Int) = ji25 := (by rw [← hji25]; simp only [mn]; split <;> omega); go_simp; with_reducible rfl)
                rotate_left
                · simp only [Act.put, List.setIfInBounds_toArray, List.set_cons_zero, List.set_cons_succ, i64_w, i32_w]
                  rfl
                refine pure_ (i := 16) (N := some 4) (v := ?_) (a' := ?_) #[true, true, true, true, true, true, true, true, true, true, true, true, true, true, true, true, true] rfl rfl (any_of HT_.out (by kernel_rfl)) (fun _ _ _ h => h) (Or.inl ⟨by rfl, ?_⟩) ?_ ?_
                rotate_left
                · intro w'
                  first | (go_simp; with_reducible rfl) | (have hj_ : (t215.length : Int) = ji25 := (by rw [← hji25]; simp only [mn]; split <;> omega); go_simp; with_reducible rfl) | (have hj_ : (t211.length : Int) = ji25 := (by rw [← hji25]; simp only [mn]; split <;> omega); go_simp; with_reducible rfl)
                rotate_left
                · simp only [Act.put, List.setIfInBounds_toArray, List.set_cons_zero, List.set_cons_succ, i64_w, i32_w]
                  rfl
                refine done_ (done_of HT_.out (by kernel_rfl)) ?_
                try go_wp2
                go_ret
                exact ⟨by first | rfl | (simp [errW_none, errW_some] <;> rfl) | (simp only [← hji25]; first | rfl | (simp [errW_none, errW_some] <;> rfl)) | (simp [*, errW_none, errW_some] <;> rfl), by repeat (first | (with_reducible first | exact HB.out | apply below_alloc | apply pw_below_drewN | apply below_drew1 | refine below_set ?_ GE209.out | refine below_set ?_ GE210.out) | exact HB.out)⟩
              · replace c27 := Bool.eq_false_iff.mpr c27
                subst c27
                have H1 : (none) = some r := by rw [if_neg (show ¬ (false = true) by decide)] at H; exact H
                clear H
                have H := H1
                clear H1
                exact absurd H (by simp)

end Go.Proofs.Ythfbnlimoagihaa.P
