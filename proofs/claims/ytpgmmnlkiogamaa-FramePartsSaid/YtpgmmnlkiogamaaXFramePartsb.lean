/- Walks. -/
import Derived.Test.YtpgmmnlkiogamaaXFramePartsa
set_option linter.unusedVariables false
set_option linter.unusedSimpArgs false
set_option maxHeartbeats 8000000
set_option maxRecDepth 100000
namespace Go.Proofs.Ytpgmmnlkiogamaa.P
open Go.RowKit YtpgmmnlkiogamaaW.PrintWords YtpgmmnlkiogamaaW.PrintLast YtpgmmnlkiogamaaW.PrintMore
attribute [local go_sem] max2_int min2_int max_two min_two max_three min_three max_four min_four
attribute [local go_sem high] eqA62
mutual
def object_Check.j0 : Nat → Bool → Int → Int → Bool → Int → Int → Int → Int → Int → Int → Int → Int → Int → Int → Int → Bool → Int → Int → Int → Int → Int → Int → Int → Int → Int → Option (Int)
 | 0, _, _, _, _, _, _, _, _, _, _, _, _, _, _, _, _, _, _, _, _, _, _, _, _, _ => none
 | k + 1, x4, x147000, x147001, x147002, x147003, x147004, x147005, x147006, x147007, x147008, x147009, x147010, x147011, x148000, x148001, x148002, x148003, x148004, x148005, x148006, x148007, x148008, x148009, x148010, x148011 => if x147000 = 1 then (if x4 = true then (if (!(x148000 == 0) || (!(x148001 == 0) || ((x148002 || (!(x148003 == 0) || (!(x148004 == 0) || (!(x148005 == 0) || (!(x148006 == 0) || (!(x148007 == 0))))))) || ((!(x148008 == 0) || (!(x148009 == 0) || (!(x148010 == 0)))) || (!(x148011 == 0)))))) = true then (some 1) else (some 0)) else (some 1)) else (if x147000 = 4 then (if x4 = true then (if x147002 = true then (object_Check.j1 k false x147000 x147001 true x147003 x147004 x147005 x147006 x147007 x147008 x147009 x147010 x147011 x148000 x148001 x148002 x148003 x148004 x148005 x148006 x148007 x148008 x148009 x148010 0) else (if x147011 ≥ 0 then (object_Check.j1 k (decide (x147011 ≤ 65535)) x147000 x147001 false x147003 x147004 x147005 x147006 x147007 x147008 x147009 x147010 x147011 x148000 x148001 x148002 x148003 x148004 x148005 x148006 x148007 x148008 x148009 x148010 0) else (object_Check.j1 k false x147000 x147001 false x147003 x147004 x147005 x147006 x147007 x147008 x147009 x147010 x147011 x148000 x148001 x148002 x148003 x148004 x148005 x148006 x148007 x148008 x148009 x148010 0))) else (object_Check.j1 k false x147000 x147001 x147002 x147003 x147004 x147005 x147006 x147007 x147008 x147009 x147010 x147011 x148000 x148001 x148002 x148003 x148004 x148005 x148006 x148007 x148008 x148009 x148010 0)) else (if x147000 = 2 then (object_Check.j1 k x4 x147000 x147001 x147002 x147003 x147004 x147005 x147006 x147007 x147008 x147009 x147010 x147011 x148000 x148001 x148002 x148003 x148004 x148005 x148006 x148007 x148008 x148009 x148010 x148011) else (if x147000 = 3 then ((height_At.f k x147008 x147009 x147010 0 0).bind fun bt148 => (if x4 = true then (if bt148.2.2.2.2.2.2 = 0 then (if (!(x148000 == 0) || (!(x148001 == 0) || ((x148002 || (!(x148003 == 0) || (!(x148004 == 0) || (!(x148005 == 0) || (!(x148006 == 0) || (!(x148007 == 0))))))) || (!(x148011 == 0))))) = true then (some 1) else (some 0)) else (some 1)) else (some 1))) else (some 1))))
def object_Check.j1 : Nat → Bool → Int → Int → Bool → Int → Int → Int → Int → Int → Int → Int → Int → Int → Int → Int → Bool → Int → Int → Int → Int → Int → Int → Int → Int → Int → Option (Int)
 | 0, _, _, _, _, _, _, _, _, _, _, _, _, _, _, _, _, _, _, _, _, _, _, _, _, _ => none
 | k + 1, x4, x147000, x147001, x147002, x147003, x147004, x147005, x147006, x147007, x147008, x147009, x147010, x147011, x148000, x148001, x148002, x148003, x148004, x148005, x148006, x148007, x148008, x148009, x148010, x148011 => if x4 = true then ((height_Check.f k x147002 x147003 x147004 x147005 x147006 x147007).bind fun t156 => (if t156 = 0 then (if (!(x148000 == 0) || (!(x148001 == 0) || ((!(x148008 == 0) || (!(x148009 == 0) || (!(x148010 == 0)))) || (!(x148011 == 0))))) = true then (some 1) else (some 0)) else (some 1))) else (some 1)
end
def object_Check.f (k : Nat) (a0_0 : Int) (a0_1 : Int) (a0_2 : Bool) (a0_3 : Int) (a0_4 : Int) (a0_5 : Int) (a0_6 : Int) (a0_7 : Int) (a0_8 : Int) (a0_9 : Int) (a0_10 : Int) (a0_11 : Int) : Option (Int) := if a0_1 ≥ 0 then (object_Check.j0 k (decide (a0_1 < 64)) a0_0 a0_1 a0_2 a0_3 a0_4 a0_5 a0_6 a0_7 a0_8 a0_9 a0_10 a0_11 0 0 a0_2 a0_3 a0_4 a0_5 a0_6 a0_7 a0_8 a0_9 a0_10 a0_11) else (object_Check.j0 k false a0_0 a0_1 a0_2 a0_3 a0_4 a0_5 a0_6 a0_7 a0_8 a0_9 a0_10 a0_11 0 0 a0_2 a0_3 a0_4 a0_5 a0_6 a0_7 a0_8 a0_9 a0_10 a0_11)
theorem object_Check.mono_l : ∀ k, (∀ y0 y1 y2 y3 y4 y5 y6 y7 y8 y9 y10 y11 y12 y13 y14 y15 y16 y17 y18 y19 y20 y21 y22 y23 y24, LeO (object_Check.j0 k y0 y1 y2 y3 y4 y5 y6 y7 y8 y9 y10 y11 y12 y13 y14 y15 y16 y17 y18 y19 y20 y21 y22 y23 y24) (object_Check.j0 (k + 1) y0 y1 y2 y3 y4 y5 y6 y7 y8 y9 y10 y11 y12 y13 y14 y15 y16 y17 y18 y19 y20 y21 y22 y23 y24)) ∧ (∀ y0 y1 y2 y3 y4 y5 y6 y7 y8 y9 y10 y11 y12 y13 y14 y15 y16 y17 y18 y19 y20 y21 y22 y23 y24, LeO (object_Check.j1 k y0 y1 y2 y3 y4 y5 y6 y7 y8 y9 y10 y11 y12 y13 y14 y15 y16 y17 y18 y19 y20 y21 y22 y23 y24) (object_Check.j1 (k + 1) y0 y1 y2 y3 y4 y5 y6 y7 y8 y9 y10 y11 y12 y13 y14 y15 y16 y17 y18 y19 y20 y21 y22 y23 y24))
 | 0 => ⟨fun _ _ _ _ _ _ _ _ _ _ _ _ _ _ _ _ _ _ _ _ _ _ _ _ _ r h => by simp [object_Check.j0] at h, fun _ _ _ _ _ _ _ _ _ _ _ _ _ _ _ _ _ _ _ _ _ _ _ _ _ r h => by simp [object_Check.j1] at h⟩
 | k + 1 => by
  obtain ⟨ih0, ih1⟩ := object_Check.mono_l k
  refine ⟨?_, ?_⟩
  ·intro y0 y1 y2 y3 y4 y5 y6 y7 y8 y9 y10 y11 y12 y13 y14 y15 y16 y17 y18 y19 y20 y21 y22 y23 y24
   unfold object_Check.j0
   repeat' first
   | (with_reducible exact ih0 _ _ _ _ _ _ _ _ _ _ _ _ _ _ _ _ _ _ _ _ _ _ _ _ _)
   | (with_reducible exact ih1 _ _ _ _ _ _ _ _ _ _ _ _ _ _ _ _ _ _ _ _ _ _ _ _ _)
   | (with_reducible exact height_At.mono _ _ _ _ _ _)
   | (with_reducible exact height_Check.mono _ _ _ _ _ _ _)
   | (with_reducible exact LeO.refl _)
   | (with_reducible exact LeO.none _)
   | (with_reducible refine LeO.ite ?_ ?_)
   | (with_reducible refine LeO.bind ?_ (fun _ => ?_))
   | exact ih0 _ _ _ _ _ _ _ _ _ _ _ _ _ _ _ _ _ _ _ _ _ _ _ _ _
   | exact ih1 _ _ _ _ _ _ _ _ _ _ _ _ _ _ _ _ _ _ _ _ _ _ _ _ _
   | exact height_At.mono _ _ _ _ _ _
   | exact height_Check.mono _ _ _ _ _ _ _
   | exact LeO.none _
   | refine LeO.ite ?_ ?_
   | refine LeO.bind ?_ (fun _ => ?_)
  intro y0 y1 y2 y3 y4 y5 y6 y7 y8 y9 y10 y11 y12 y13 y14 y15 y16 y17 y18 y19 y20 y21 y22 y23 y24
  unfold object_Check.j1
  repeat' first
  | (with_reducible exact ih0 _ _ _ _ _ _ _ _ _ _ _ _ _ _ _ _ _ _ _ _ _ _ _ _ _)
  | (with_reducible exact ih1 _ _ _ _ _ _ _ _ _ _ _ _ _ _ _ _ _ _ _ _ _ _ _ _ _)
  | (with_reducible exact height_At.mono _ _ _ _ _ _)
  | (with_reducible exact height_Check.mono _ _ _ _ _ _ _)
  | (with_reducible exact LeO.refl _)
  | (with_reducible exact LeO.none _)
  | (with_reducible refine LeO.ite ?_ ?_)
  | (with_reducible refine LeO.bind ?_ (fun _ => ?_))
  | exact ih0 _ _ _ _ _ _ _ _ _ _ _ _ _ _ _ _ _ _ _ _ _ _ _ _ _
  | exact ih1 _ _ _ _ _ _ _ _ _ _ _ _ _ _ _ _ _ _ _ _ _ _ _ _ _
  | exact height_At.mono _ _ _ _ _ _
  | exact height_Check.mono _ _ _ _ _ _ _
  | exact LeO.none _
  | refine LeO.ite ?_ ?_
  | refine LeO.bind ?_ (fun _ => ?_)
theorem object_Check.mono : ∀ a0 a1 a2 a3 a4 a5 a6 a7 a8 a9 a10 a11 k, LeO (object_Check.f k a0 a1 a2 a3 a4 a5 a6 a7 a8 a9 a10 a11) (object_Check.f (k + 1) a0 a1 a2 a3 a4 a5 a6 a7 a8 a9 a10 a11) := by
 intro a0 a1 a2 a3 a4 a5 a6 a7 a8 a9 a10 a11 k
 obtain ⟨ih0, ih1⟩ := object_Check.mono_l k
 unfold object_Check.f
 repeat' first
   | (with_reducible exact ih0 _ _ _ _ _ _ _ _ _ _ _ _ _ _ _ _ _ _ _ _ _ _ _ _ _)
   | (with_reducible exact ih1 _ _ _ _ _ _ _ _ _ _ _ _ _ _ _ _ _ _ _ _ _ _ _ _ _)
   | (with_reducible exact height_At.mono _ _ _ _ _ _)
   | (with_reducible exact height_Check.mono _ _ _ _ _ _ _)
   | (with_reducible exact LeO.refl _)
   | (with_reducible exact LeO.none _)
   | (with_reducible refine LeO.ite ?_ ?_)
   | (with_reducible refine LeO.bind ?_ (fun _ => ?_))
   | exact ih0 _ _ _ _ _ _ _ _ _ _ _ _ _ _ _ _ _ _ _ _ _ _ _ _ _
   | exact ih1 _ _ _ _ _ _ _ _ _ _ _ _ _ _ _ _ _ _ _ _ _ _ _ _ _
   | exact height_At.mono _ _ _ _ _ _
   | exact height_Check.mono _ _ _ _ _ _ _
   | exact LeO.none _
   | refine LeO.ite ?_ ?_
   | refine LeO.bind ?_ (fun _ => ?_)
theorem object_Check.calls (k : Nat) (a0_0 : Int) (a0_1 : Int) (a0_2 : Bool) (a0_3 : Int) (a0_4 : Int) (a0_5 : Int) (a0_6 : Int) (a0_7 : Int) (a0_8 : Int) (a0_9 : Int) (a0_10 : Int) (a0_11 : Int) (r : Int) (w : World) (h : object_Check.f k a0_0 a0_1 a0_2 a0_3 a0_4 a0_5 a0_6 a0_7 a0_8 a0_9 a0_10 a0_11 = some r) :
  Calls Try.prog 75 #[.agg #[.int .i64 a0_0, .int .i64 a0_1, .bool a0_2, .int .i64 a0_3, .int .i64 a0_4, .int .i64 a0_5, .int .i64 a0_6, .int .i64 a0_7, .int .i64 a0_8, .int .i64 a0_9, .int .i64 a0_10, .int .i64 a0_11]] w fun e w' => e = .returned (.int .i64 r) ∧ Below w.heap.size w w' := by
 have hu62 := Try.underlying62; have hu58 := Try.underlying58; have hu60 := Try.underlying60; have HB := Aside0.mk (Below.refl w.heap.size w)
 have H : (if a0_1 ≥ 0 then (object_Check.j0 k (decide (a0_1 < 64)) a0_0 a0_1 a0_2 a0_3 a0_4 a0_5 a0_6 a0_7 a0_8 a0_9 a0_10 a0_11 0 0 a0_2 a0_3 a0_4 a0_5 a0_6 a0_7 a0_8 a0_9 a0_10 a0_11) else (object_Check.j0 k false a0_0 a0_1 a0_2 a0_3 a0_4 a0_5 a0_6 a0_7 a0_8 a0_9 a0_10 a0_11 0 0 a0_2 a0_3 a0_4 a0_5 a0_6 a0_7 a0_8 a0_9 a0_10 a0_11)) = some r := h
 clear h; have HC2 := Aside0.mk H; clear H
 go_enter Try.func75, Try.ntmps75
 go_upto_region 3 with (first | ((with_reducible refine gate_dst (N := 1) rfl ?_); refine bx #[.int .i64 a0_0, .int .i64 a0_1, .bool a0_2, .int .i64 a0_3, .int .i64 a0_4, .int .i64 a0_5, .int .i64 a0_6, .int .i64 a0_7, .int .i64 a0_8, .int .i64 a0_9, .int .i64 a0_10, .int .i64 a0_11] 62 ?_; intro gb146 hg w3 hbox hb; have BK146 := Aside0.mk hbox; have GW146 := ge HB hg; have GE146 := ge HB hg; replace HB := bs HB hb; clear hb hbox hg; obtain ⟨q4_0, q4_1, q4_2, q4_3, q4_4, q4_5, q4_6, q4_7, q4_8, q4_9, q4_10, q4_11⟩ := cA12 BK146; obtain ⟨f4_0, f4_1, f4_2, f4_3, f4_4, f4_5, f4_6, f4_7, f4_8, f4_9, f4_10, f4_11⟩ := fA12 BK146) | ((with_reducible refine gate_dst (N := 3) rfl ?_); refine bx #[.int .i64 0, .int .i64 0, .bool false, .int .i64 0, .int .i64 0, .int .i64 0, .int .i64 0, .int .i64 0, .int .i64 0, .int .i64 0, .int .i64 0, .int .i64 0] 62 ?_; intro gb147 hg w5 hbox hb; have BK147 := Aside0.mk hbox; have GW147 := ge HB hg; have GE147 := ge HB hg; replace HB := bs HB hb; have NB146_147 := nL BK146 hg; have NB147_146 := nG BK146 hg; replace BK146 := kb BK146 hb; clear hb hbox hg; have hnb6 := NB147_146.out; have hnc6 := NB146_147.out; obtain ⟨q7_0, q7_1, q7_2, q7_3, q7_4, q7_5, q7_6, q7_7, q7_8, q7_9, q7_10, q7_11⟩ := cA12 BK147; obtain ⟨f7_0, f7_1, f7_2, f7_3, f7_4, f7_5, f7_6, f7_7, f7_8, f7_9, f7_10, f7_11⟩ := fA12 BK147))
 (try simp only [Act.put, List.setIfInBounds_toArray, List.set_cons_zero, List.set_cons_succ])
 go_cut [4] (fun v4 wc => ∃ (kq : Nat) (x4_1 : Bool), v4 = .bool x4_1 ∧ Aside0 (object_Check.j0 kq x4_1 a0_0 a0_1 a0_2 a0_3 a0_4 a0_5 a0_6 a0_7 a0_8 a0_9 a0_10 a0_11 0 0 a0_2 a0_3 a0_4 a0_5 a0_6 a0_7 a0_8 a0_9 a0_10 a0_11 = some r) ∧ Aside0 (kq ≤ k) ∧ Aside0 (wc.heap[gb146]? = some (.cells #[.int .i64 a0_0, .int .i64 a0_1, .bool a0_2, .int .i64 a0_3, .int .i64 a0_4, .int .i64 a0_5, .int .i64 a0_6, .int .i64 a0_7, .int .i64 a0_8, .int .i64 a0_9, .int .i64 a0_10, .int .i64 a0_11] 62 (0, 0))) ∧ Aside0 (wc.heap[gb147]? = some (.cells #[.int .i64 0, .int .i64 0, .bool a0_2, .int .i64 a0_3, .int .i64 a0_4, .int .i64 a0_5, .int .i64 a0_6, .int .i64 a0_7, .int .i64 a0_8, .int .i64 a0_9, .int .i64 a0_10, .int .i64 a0_11] 62 (0, 0))) ∧ Aside0 (Below w.heap.size w wc))
 case first =>
  have H := HC2.out
  clear HC2
  by_cases c8 : a0_1 ≥ 0
  ·rw [if_pos c8] at H
   have c8b0 : decide (0 ≤ a0_1) = true := decide_eq_true c8; clear c8
   (first | rw [c8b0] | (simp only [i64_w, i32_w]; rw [c8b0]) | rw [c8b1] | skip)
   have H' := Aside0.mk H
   clear H; have hnb9 := NB146_147.out; have hnc9 := NB147_146.out; obtain ⟨q10_0, q10_1, q10_2, q10_3, q10_4, q10_5, q10_6, q10_7, q10_8, q10_9, q10_10, q10_11⟩ := cA12 BK146; obtain ⟨f10_0, f10_1, f10_2, f10_3, f10_4, f10_5, f10_6, f10_7, f10_8, f10_9, f10_10, f10_11⟩ := fA12 BK146
   go_wp2
   go_meet
   case rel => exact ⟨_, (decide (a0_1 < 64)), gv, H', ⟨by first | omega | exact Nat.le_refl _⟩, ⟨by refine rK ?_; refine blk_far ?_ NB146_147.out _; refine rK ?_; refine blk_far ?_ NB146_147.out _; refine rK ?_; refine blk_far ?_ NB146_147.out _; refine rK ?_; refine blk_far ?_ NB146_147.out _; refine rK ?_; refine blk_far ?_ NB146_147.out _; refine rK ?_; refine blk_far ?_ NB146_147.out _; refine rK ?_; refine blk_far ?_ NB146_147.out _; refine rK ?_; refine blk_far ?_ NB146_147.out _; refine rK ?_; refine blk_far ?_ NB146_147.out _; refine rK ?_; refine blk_far ?_ NB146_147.out _; refine rK ?_; refine blk_far ?_ NB146_147.out _; refine rK ?_; refine blk_far ?_ NB146_147.out _; refine rK ?_; refine blk_far ?_ NB146_147.out _; refine rK ?_; refine blk_far ?_ NB146_147.out _; refine rK ?_; exact BK146.out⟩, ⟨by refine rK ?_; refine blk_put (cs := #[.int .i64 0, .int .i64 a0_1, .bool a0_2, .int .i64 a0_3, .int .i64 a0_4, .int .i64 a0_5, .int .i64 a0_6, .int .i64 a0_7, .int .i64 a0_8, .int .i64 a0_9, .int .i64 a0_10, .int .i64 a0_11]) ?_ 1 _ rfl; refine rK ?_; refine blk_put (cs := #[.int .i64 a0_0, .int .i64 a0_1, .bool a0_2, .int .i64 a0_3, .int .i64 a0_4, .int .i64 a0_5, .int .i64 a0_6, .int .i64 a0_7, .int .i64 a0_8, .int .i64 a0_9, .int .i64 a0_10, .int .i64 a0_11]) ?_ 0 _ rfl; refine rK ?_; refine blk_put (cs := #[.int .i64 a0_0, .int .i64 a0_1, .bool a0_2, .int .i64 a0_3, .int .i64 a0_4, .int .i64 a0_5, .int .i64 a0_6, .int .i64 a0_7, .int .i64 a0_8, .int .i64 a0_9, .int .i64 a0_10, .int .i64 0]) ?_ 11 _ rfl; refine rK ?_; refine blk_put (cs := #[.int .i64 a0_0, .int .i64 a0_1, .bool a0_2, .int .i64 a0_3, .int .i64 a0_4, .int .i64 a0_5, .int .i64 a0_6, .int .i64 a0_7, .int .i64 a0_8, .int .i64 a0_9, .int .i64 0, .int .i64 0]) ?_ 10 _ rfl; refine rK ?_; refine blk_put (cs := #[.int .i64 a0_0, .int .i64 a0_1, .bool a0_2, .int .i64 a0_3, .int .i64 a0_4, .int .i64 a0_5, .int .i64 a0_6, .int .i64 a0_7, .int .i64 a0_8, .int .i64 0, .int .i64 0, .int .i64 0]) ?_ 9 _ rfl; refine rK ?_; refine blk_put (cs := #[.int .i64 a0_0, .int .i64 a0_1, .bool a0_2, .int .i64 a0_3, .int .i64 a0_4, .int .i64 a0_5, .int .i64 a0_6, .int .i64 a0_7, .int .i64 0, .int .i64 0, .int .i64 0, .int .i64 0]) ?_ 8 _ rfl; refine rK ?_; refine blk_put (cs := #[.int .i64 a0_0, .int .i64 a0_1, .bool a0_2, .int .i64 a0_3, .int .i64 a0_4, .int .i64 a0_5, .int .i64 a0_6, .int .i64 0, .int .i64 0, .int .i64 0, .int .i64 0, .int .i64 0]) ?_ 7 _ rfl; refine rK ?_; refine blk_put (cs := #[.int .i64 a0_0, .int .i64 a0_1, .bool a0_2, .int .i64 a0_3, .int .i64 a0_4, .int .i64 a0_5, .int .i64 0, .int .i64 0, .int .i64 0, .int .i64 0, .int .i64 0, .int .i64 0]) ?_ 6 _ rfl; refine rK ?_; refine blk_put (cs := #[.int .i64 a0_0, .int .i64 a0_1, .bool a0_2, .int .i64 a0_3, .int .i64 a0_4, .int .i64 0, .int .i64 0, .int .i64 0, .int .i64 0, .int .i64 0, .int .i64 0, .int .i64 0]) ?_ 5 _ rfl; refine rK ?_; refine blk_put (cs := #[.int .i64 a0_0, .int .i64 a0_1, .bool a0_2, .int .i64 a0_3, .int .i64 0, .int .i64 0, .int .i64 0, .int .i64 0, .int .i64 0, .int .i64 0, .int .i64 0, .int .i64 0]) ?_ 4 _ rfl; refine rK ?_; refine blk_put (cs := #[.int .i64 a0_0, .int .i64 a0_1, .bool a0_2, .int .i64 0, .int .i64 0, .int .i64 0, .int .i64 0, .int .i64 0, .int .i64 0, .int .i64 0, .int .i64 0, .int .i64 0]) ?_ 3 _ rfl; refine rK ?_; refine blk_put (cs := #[.int .i64 a0_0, .int .i64 a0_1, .bool false, .int .i64 0, .int .i64 0, .int .i64 0, .int .i64 0, .int .i64 0, .int .i64 0, .int .i64 0, .int .i64 0, .int .i64 0]) ?_ 2 _ rfl; refine rK ?_; refine blk_put (cs := #[.int .i64 a0_0, .int .i64 0, .bool false, .int .i64 0, .int .i64 0, .int .i64 0, .int .i64 0, .int .i64 0, .int .i64 0, .int .i64 0, .int .i64 0, .int .i64 0]) ?_ 1 _ rfl; refine rK ?_; refine blk_put (cs := #[.int .i64 0, .int .i64 0, .bool false, .int .i64 0, .int .i64 0, .int .i64 0, .int .i64 0, .int .i64 0, .int .i64 0, .int .i64 0, .int .i64 0, .int .i64 0]) ?_ 0 _ rfl; refine rK ?_; exact BK147.out⟩, ⟨uB HB⟩⟩
  rw [if_neg c8] at H; have c8b0 : decide (0 ≤ a0_1) = false := decide_eq_false c8; clear c8
  (first | rw [c8b0] | (simp only [i64_w, i32_w]; rw [c8b0]) | rw [c8b1] | skip)
  have H' := Aside0.mk H
  clear H; have hnb11 := NB146_147.out; have hnc11 := NB147_146.out; obtain ⟨q12_0, q12_1, q12_2, q12_3, q12_4, q12_5, q12_6, q12_7, q12_8, q12_9, q12_10, q12_11⟩ := cA12 BK146; obtain ⟨f12_0, f12_1, f12_2, f12_3, f12_4, f12_5, f12_6, f12_7, f12_8, f12_9, f12_10, f12_11⟩ := fA12 BK146
  go_wp2
  go_meet
  case rel => exact ⟨_, (false), gv, H', ⟨by first | omega | exact Nat.le_refl _⟩, ⟨by refine rK ?_; refine blk_far ?_ NB146_147.out _; refine rK ?_; refine blk_far ?_ NB146_147.out _; refine rK ?_; refine blk_far ?_ NB146_147.out _; refine rK ?_; refine blk_far ?_ NB146_147.out _; refine rK ?_; refine blk_far ?_ NB146_147.out _; refine rK ?_; refine blk_far ?_ NB146_147.out _; refine rK ?_; refine blk_far ?_ NB146_147.out _; refine rK ?_; refine blk_far ?_ NB146_147.out _; refine rK ?_; refine blk_far ?_ NB146_147.out _; refine rK ?_; refine blk_far ?_ NB146_147.out _; refine rK ?_; refine blk_far ?_ NB146_147.out _; refine rK ?_; refine blk_far ?_ NB146_147.out _; refine rK ?_; refine blk_far ?_ NB146_147.out _; refine rK ?_; refine blk_far ?_ NB146_147.out _; refine rK ?_; exact BK146.out⟩, ⟨by refine rK ?_; refine blk_put (cs := #[.int .i64 0, .int .i64 a0_1, .bool a0_2, .int .i64 a0_3, .int .i64 a0_4, .int .i64 a0_5, .int .i64 a0_6, .int .i64 a0_7, .int .i64 a0_8, .int .i64 a0_9, .int .i64 a0_10, .int .i64 a0_11]) ?_ 1 _ rfl; refine rK ?_; refine blk_put (cs := #[.int .i64 a0_0, .int .i64 a0_1, .bool a0_2, .int .i64 a0_3, .int .i64 a0_4, .int .i64 a0_5, .int .i64 a0_6, .int .i64 a0_7, .int .i64 a0_8, .int .i64 a0_9, .int .i64 a0_10, .int .i64 a0_11]) ?_ 0 _ rfl; refine rK ?_; refine blk_put (cs := #[.int .i64 a0_0, .int .i64 a0_1, .bool a0_2, .int .i64 a0_3, .int .i64 a0_4, .int .i64 a0_5, .int .i64 a0_6, .int .i64 a0_7, .int .i64 a0_8, .int .i64 a0_9, .int .i64 a0_10, .int .i64 0]) ?_ 11 _ rfl; refine rK ?_; refine blk_put (cs := #[.int .i64 a0_0, .int .i64 a0_1, .bool a0_2, .int .i64 a0_3, .int .i64 a0_4, .int .i64 a0_5, .int .i64 a0_6, .int .i64 a0_7, .int .i64 a0_8, .int .i64 a0_9, .int .i64 0, .int .i64 0]) ?_ 10 _ rfl; refine rK ?_; refine blk_put (cs := #[.int .i64 a0_0, .int .i64 a0_1, .bool a0_2, .int .i64 a0_3, .int .i64 a0_4, .int .i64 a0_5, .int .i64 a0_6, .int .i64 a0_7, .int .i64 a0_8, .int .i64 0, .int .i64 0, .int .i64 0]) ?_ 9 _ rfl; refine rK ?_; refine blk_put (cs := #[.int .i64 a0_0, .int .i64 a0_1, .bool a0_2, .int .i64 a0_3, .int .i64 a0_4, .int .i64 a0_5, .int .i64 a0_6, .int .i64 a0_7, .int .i64 0, .int .i64 0, .int .i64 0, .int .i64 0]) ?_ 8 _ rfl; refine rK ?_; refine blk_put (cs := #[.int .i64 a0_0, .int .i64 a0_1, .bool a0_2, .int .i64 a0_3, .int .i64 a0_4, .int .i64 a0_5, .int .i64 a0_6, .int .i64 0, .int .i64 0, .int .i64 0, .int .i64 0, .int .i64 0]) ?_ 7 _ rfl; refine rK ?_; refine blk_put (cs := #[.int .i64 a0_0, .int .i64 a0_1, .bool a0_2, .int .i64 a0_3, .int .i64 a0_4, .int .i64 a0_5, .int .i64 0, .int .i64 0, .int .i64 0, .int .i64 0, .int .i64 0, .int .i64 0]) ?_ 6 _ rfl; refine rK ?_; refine blk_put (cs := #[.int .i64 a0_0, .int .i64 a0_1, .bool a0_2, .int .i64 a0_3, .int .i64 a0_4, .int .i64 0, .int .i64 0, .int .i64 0, .int .i64 0, .int .i64 0, .int .i64 0, .int .i64 0]) ?_ 5 _ rfl; refine rK ?_; refine blk_put (cs := #[.int .i64 a0_0, .int .i64 a0_1, .bool a0_2, .int .i64 a0_3, .int .i64 0, .int .i64 0, .int .i64 0, .int .i64 0, .int .i64 0, .int .i64 0, .int .i64 0, .int .i64 0]) ?_ 4 _ rfl; refine rK ?_; refine blk_put (cs := #[.int .i64 a0_0, .int .i64 a0_1, .bool a0_2, .int .i64 0, .int .i64 0, .int .i64 0, .int .i64 0, .int .i64 0, .int .i64 0, .int .i64 0, .int .i64 0, .int .i64 0]) ?_ 3 _ rfl; refine rK ?_; refine blk_put (cs := #[.int .i64 a0_0, .int .i64 a0_1, .bool false, .int .i64 0, .int .i64 0, .int .i64 0, .int .i64 0, .int .i64 0, .int .i64 0, .int .i64 0, .int .i64 0, .int .i64 0]) ?_ 2 _ rfl; refine rK ?_; refine blk_put (cs := #[.int .i64 a0_0, .int .i64 0, .bool false, .int .i64 0, .int .i64 0, .int .i64 0, .int .i64 0, .int .i64 0, .int .i64 0, .int .i64 0, .int .i64 0, .int .i64 0]) ?_ 1 _ rfl; refine rK ?_; refine blk_put (cs := #[.int .i64 0, .int .i64 0, .bool false, .int .i64 0, .int .i64 0, .int .i64 0, .int .i64 0, .int .i64 0, .int .i64 0, .int .i64 0, .int .i64 0, .int .i64 0]) ?_ 0 _ rfl; refine rK ?_; exact BK147.out⟩, ⟨uB HB⟩⟩
 case rest =>
  clear HC2; (try clear c1); (try clear p2); (try clear c6); (try clear c7); (try clear c8); (try clear c8b0); (try clear c9); (try clear c11); (try clear q10_0); (try clear q10_1); (try clear q10_10); (try clear q10_11); (try clear q10_2); (try clear q10_3); (try clear q10_4); (try clear q10_5); (try clear q10_6); (try clear q10_7); (try clear q10_8); (try clear q10_9); (try clear q12_0); (try clear q12_1); (try clear q12_10); (try clear q12_11); (try clear q12_2); (try clear q12_3); (try clear q12_4); (try clear q12_5); (try clear q12_6); (try clear q12_7); (try clear q12_8); (try clear q12_9); (try clear q4_0); (try clear q4_1); (try clear q4_10); (try clear q4_11); (try clear q4_2); (try clear q4_3); (try clear q4_4); (try clear q4_5); (try clear q4_6); (try clear q4_7); (try clear q4_8); (try clear q4_9); (try clear q7_0); (try clear q7_1); (try clear q7_10); (try clear q7_11); (try clear q7_2); (try clear q7_3); (try clear q7_4); (try clear q7_5); (try clear q7_6); (try clear q7_7); (try clear q7_8); (try clear q7_9); (try clear f10_0); (try clear f10_1); (try clear f10_10); (try clear f10_11); (try clear f10_2); (try clear f10_3); (try clear f10_4); (try clear f10_5); (try clear f10_6); (try clear f10_7); (try clear f10_8); (try clear f10_9); (try clear f12_0); (try clear f12_1); (try clear f12_10); (try clear f12_11); (try clear f12_2); (try clear f12_3); (try clear f12_4); (try clear f12_5); (try clear f12_6); (try clear f12_7); (try clear f12_8); (try clear f12_9); (try clear f4_0); (try clear f4_1); (try clear f4_10); (try clear f4_11); (try clear f4_2); (try clear f4_3); (try clear f4_4); (try clear f4_5); (try clear f4_6); (try clear f4_7); (try clear f4_8); (try clear f4_9); (try clear f7_0); (try clear f7_1); (try clear f7_10); (try clear f7_11); (try clear f7_2); (try clear f7_3); (try clear f7_4); (try clear f7_5); (try clear f7_6); (try clear f7_7); (try clear f7_8); (try clear f7_9); obtain ⟨kq, x4_1, rfl, HA, HJ1, BK146, BK147, HB⟩ := hcut
  cases kq with
  | zero => exact absurd HA.out (by simp [object_Check.j0])
  | succ kj1 =>
   have H := HA.out
   clear HA
   simp only [object_Check.j0] at H
   have HC13 := Aside0.mk H; clear H; have hnb14 := NB146_147.out; have hnc14 := NB147_146.out; obtain ⟨q15_0, q15_1, q15_2, q15_3, q15_4, q15_5, q15_6, q15_7, q15_8, q15_9, q15_10, q15_11⟩ := cA12 BK146; obtain ⟨f15_0, f15_1, f15_2, f15_3, f15_4, f15_5, f15_6, f15_7, f15_8, f15_9, f15_10, f15_11⟩ := fA12 BK146
   go_upto_block 3 with (fail)
   go_cut [4] (fun v4 wc => ∃ (kq : Nat) (x4_12 : Bool) (x148011_12 : Int), v4 = .bool x4_12 ∧ Aside0 (object_Check.j1 kq x4_12 a0_0 a0_1 a0_2 a0_3 a0_4 a0_5 a0_6 a0_7 a0_8 a0_9 a0_10 a0_11 0 0 a0_2 a0_3 a0_4 a0_5 a0_6 a0_7 a0_8 a0_9 a0_10 x148011_12 = some r) ∧ Aside0 (kq ≤ kj1) ∧ Aside0 (wc.heap[gb146]? = some (.cells #[.int .i64 a0_0, .int .i64 a0_1, .bool a0_2, .int .i64 a0_3, .int .i64 a0_4, .int .i64 a0_5, .int .i64 a0_6, .int .i64 a0_7, .int .i64 a0_8, .int .i64 a0_9, .int .i64 a0_10, .int .i64 a0_11] 62 (0, 0))) ∧ Aside0 (wc.heap[gb147]? = some (.cells #[.int .i64 0, .int .i64 0, .bool a0_2, .int .i64 a0_3, .int .i64 a0_4, .int .i64 a0_5, .int .i64 a0_6, .int .i64 a0_7, .int .i64 a0_8, .int .i64 a0_9, .int .i64 a0_10, .int .i64 x148011_12] 62 (0, 0))) ∧ Aside0 (Below w.heap.size w wc))
   case first =>
    have H := HC13.out
    clear HC13
    by_cases c16 : a0_0 = 1
    ·rw [if_pos c16] at H
     have c16b0 : (a0_0 == 1) = true := beq_iff_eq.mpr c16
     have c16b1 : (a0_0 != 1) = false := bne_eq_false_iff_eq.mpr c16
     clear c16
     (first | rw [c16b0] | (simp only [i64_w, i32_w]; rw [c16b0]) | rw [c16b1] | skip)
     by_cases c17 : x4_1 = true
     ·subst c17
      have H1 : (if (!(0 == 0) || (!(0 == 0) || ((a0_2 || (!(a0_3 == 0) || (!(a0_4 == 0) || (!(a0_5 == 0) || (!(a0_6 == 0) || (!(a0_7 == 0))))))) || ((!(a0_8 == 0) || (!(a0_9 == 0) || (!(a0_10 == 0)))) || (!(a0_11 == 0)))))) = true then (some 1) else (some 0)) = some r := by rw [if_pos rfl] at H; exact H
      clear H; have H := H1; clear H1
      by_cases c18 : (!(0 == 0) || (!(0 == 0) || ((a0_2 || (!(a0_3 == 0) || (!(a0_4 == 0) || (!(a0_5 == 0) || (!(a0_6 == 0) || (!(a0_7 == 0))))))) || ((!(a0_8 == 0) || (!(a0_9 == 0) || (!(a0_10 == 0)))) || (!(a0_11 == 0)))))) = true
      ·rw [if_pos c18] at H
       have c18b0 : (!(0 == 0) || (!(0 == 0) || ((a0_2 || (!(a0_3 == 0) || (!(a0_4 == 0) || (!(a0_5 == 0) || (!(a0_6 == 0) || (!(a0_7 == 0))))))) || ((!(a0_8 == 0) || (!(a0_9 == 0) || (!(a0_10 == 0)))) || (!(a0_11 == 0)))))) = true := c18
       have c18b9 := c18b0
       (try simp only [beq_self_eq_true, Bool.not_true, Bool.not_false, Bool.false_or, Bool.true_and, Bool.or_false, Bool.and_true] at c18b9)
       clear c18
       obtain rfl := Option.some.inj H
       have hnb19 := NB147_146.out; have hnc19 := NB146_147.out; obtain ⟨q20_0, q20_1, q20_2, q20_3, q20_4, q20_5, q20_6, q20_7, q20_8, q20_9, q20_10, q20_11⟩ := cA12 BK147; obtain ⟨f20_0, f20_1, f20_2, f20_3, f20_4, f20_5, f20_6, f20_7, f20_8, f20_9, f20_10, f20_11⟩ := fA12 BK147
       go_wp2
       go_ret
       exact ⟨gE, uB HB⟩
      rw [if_neg c18] at H
      have c18b0 : (!(0 == 0) || (!(0 == 0) || ((a0_2 || (!(a0_3 == 0) || (!(a0_4 == 0) || (!(a0_5 == 0) || (!(a0_6 == 0) || (!(a0_7 == 0))))))) || ((!(a0_8 == 0) || (!(a0_9 == 0) || (!(a0_10 == 0)))) || (!(a0_11 == 0)))))) = false := by simpa using c18
      have c18b9 := c18b0
      (try simp only [beq_self_eq_true, Bool.not_true, Bool.not_false, Bool.false_or, Bool.true_and, Bool.or_false, Bool.and_true] at c18b9)
      clear c18
      obtain rfl := Option.some.inj H
      have hnb21 := NB147_146.out; have hnc21 := NB146_147.out; obtain ⟨q22_0, q22_1, q22_2, q22_3, q22_4, q22_5, q22_6, q22_7, q22_8, q22_9, q22_10, q22_11⟩ := cA12 BK147; obtain ⟨f22_0, f22_1, f22_2, f22_3, f22_4, f22_5, f22_6, f22_7, f22_8, f22_9, f22_10, f22_11⟩ := fA12 BK147
      go_wp2
      go_ret
      exact ⟨gE, uB HB⟩
     replace c17 := Bool.eq_false_iff.mpr c17
     subst c17
     rw [if_neg (show ¬ (false = true) by decide)] at H
     obtain rfl := Option.some.inj H
     go_wp2
     go_ret
     exact ⟨gE, uB HB⟩
    rw [if_neg c16] at H
    have c16b0 : (a0_0 == 1) = false := beq_eq_false_iff_ne.mpr c16
    have c16b1 : (a0_0 != 1) = true := bne_iff_ne.mpr c16
    (first | rw [c16b0] | (simp only [i64_w, i32_w]; rw [c16b0]) | rw [c16b1] | skip)
    by_cases c23 : a0_0 = 4
    ·rw [if_pos c23] at H
     have c23b0 : (a0_0 == 4) = true := beq_iff_eq.mpr c23
     have c23b1 : (a0_0 != 4) = false := bne_eq_false_iff_eq.mpr c23
     clear c23
     by_cases c24 : x4_1 = true
     ·subst c24
      rw [if_pos rfl] at H
      by_cases c25 : a0_2 = true
      ·subst c25
       rw [if_pos rfl] at H
       have H' := Aside0.mk H
       clear H; have hnb26 := NB146_147.out; have hnc26 := NB147_146.out; obtain ⟨q27_0, q27_1, q27_2, q27_3, q27_4, q27_5, q27_6, q27_7, q27_8, q27_9, q27_10, q27_11⟩ := cA12 BK146; obtain ⟨f27_0, f27_1, f27_2, f27_3, f27_4, f27_5, f27_6, f27_7, f27_8, f27_9, f27_10, f27_11⟩ := fA12 BK146; obtain ⟨q28_0, q28_1, q28_2, q28_3, q28_4, q28_5, q28_6, q28_7, q28_8, q28_9, q28_10, q28_11⟩ := cA12 BK147; obtain ⟨f28_0, f28_1, f28_2, f28_3, f28_4, f28_5, f28_6, f28_7, f28_8, f28_9, f28_10, f28_11⟩ := fA12 BK147
       go_wp2
       go_meet
       case rel => exact ⟨_, (false), (0), gv, H', ⟨by have := HJ1.out; first | omega | exact Nat.le_refl _⟩, ⟨by refine rK ?_; refine blk_far ?_ NB146_147.out _; refine rK ?_; exact BK146.out⟩, ⟨by refine rK ?_; refine blk_put (cs := #[.int .i64 0, .int .i64 0, .bool true, .int .i64 a0_3, .int .i64 a0_4, .int .i64 a0_5, .int .i64 a0_6, .int .i64 a0_7, .int .i64 a0_8, .int .i64 a0_9, .int .i64 a0_10, .int .i64 a0_11]) ?_ 11 _ rfl; refine rK ?_; exact BK147.out⟩, ⟨uB HB⟩⟩
      replace c25 := Bool.eq_false_iff.mpr c25
      subst c25
      rw [if_neg (show ¬ (false = true) by decide)] at H
      by_cases c29 : a0_11 ≥ 0
      ·rw [if_pos c29] at H
       have c29b0 : decide (0 ≤ a0_11) = true := decide_eq_true c29; clear c29
       have H' := Aside0.mk H
       clear H; have hnb30 := NB146_147.out; have hnc30 := NB147_146.out; obtain ⟨q31_0, q31_1, q31_2, q31_3, q31_4, q31_5, q31_6, q31_7, q31_8, q31_9, q31_10, q31_11⟩ := cA12 BK146; obtain ⟨f31_0, f31_1, f31_2, f31_3, f31_4, f31_5, f31_6, f31_7, f31_8, f31_9, f31_10, f31_11⟩ := fA12 BK146; obtain ⟨q32_0, q32_1, q32_2, q32_3, q32_4, q32_5, q32_6, q32_7, q32_8, q32_9, q32_10, q32_11⟩ := cA12 BK147; obtain ⟨f32_0, f32_1, f32_2, f32_3, f32_4, f32_5, f32_6, f32_7, f32_8, f32_9, f32_10, f32_11⟩ := fA12 BK147
       go_wp2
       go_meet
       case rel => exact ⟨_, (decide (a0_11 ≤ 65535)), (0), gv, H', ⟨by have := HJ1.out; first | omega | exact Nat.le_refl _⟩, ⟨by refine rK ?_; refine blk_far ?_ NB146_147.out _; refine rK ?_; exact BK146.out⟩, ⟨by refine rK ?_; refine blk_put (cs := #[.int .i64 0, .int .i64 0, .bool false, .int .i64 a0_3, .int .i64 a0_4, .int .i64 a0_5, .int .i64 a0_6, .int .i64 a0_7, .int .i64 a0_8, .int .i64 a0_9, .int .i64 a0_10, .int .i64 a0_11]) ?_ 11 _ rfl; refine rK ?_; exact BK147.out⟩, ⟨uB HB⟩⟩
      rw [if_neg c29] at H; have c29b0 : decide (0 ≤ a0_11) = false := decide_eq_false c29; clear c29
      have H' := Aside0.mk H
      clear H; have hnb33 := NB146_147.out; have hnc33 := NB147_146.out; obtain ⟨q34_0, q34_1, q34_2, q34_3, q34_4, q34_5, q34_6, q34_7, q34_8, q34_9, q34_10, q34_11⟩ := cA12 BK146; obtain ⟨f34_0, f34_1, f34_2, f34_3, f34_4, f34_5, f34_6, f34_7, f34_8, f34_9, f34_10, f34_11⟩ := fA12 BK146; obtain ⟨q35_0, q35_1, q35_2, q35_3, q35_4, q35_5, q35_6, q35_7, q35_8, q35_9, q35_10, q35_11⟩ := cA12 BK147; obtain ⟨f35_0, f35_1, f35_2, f35_3, f35_4, f35_5, f35_6, f35_7, f35_8, f35_9, f35_10, f35_11⟩ := fA12 BK147
      go_wp2
      go_meet
      case rel => exact ⟨_, (false), (0), gv, H', ⟨by have := HJ1.out; first | omega | exact Nat.le_refl _⟩, ⟨by refine rK ?_; refine blk_far ?_ NB146_147.out _; refine rK ?_; exact BK146.out⟩, ⟨by refine rK ?_; refine blk_put (cs := #[.int .i64 0, .int .i64 0, .bool false, .int .i64 a0_3, .int .i64 a0_4, .int .i64 a0_5, .int .i64 a0_6, .int .i64 a0_7, .int .i64 a0_8, .int .i64 a0_9, .int .i64 a0_10, .int .i64 a0_11]) ?_ 11 _ rfl; refine rK ?_; exact BK147.out⟩, ⟨uB HB⟩⟩
     replace c24 := Bool.eq_false_iff.mpr c24
     subst c24
     rw [if_neg (show ¬ (false = true) by decide)] at H
     have H' := Aside0.mk H
     clear H; have hnb36 := NB147_146.out; have hnc36 := NB146_147.out; obtain ⟨q37_0, q37_1, q37_2, q37_3, q37_4, q37_5, q37_6, q37_7, q37_8, q37_9, q37_10, q37_11⟩ := cA12 BK147; obtain ⟨f37_0, f37_1, f37_2, f37_3, f37_4, f37_5, f37_6, f37_7, f37_8, f37_9, f37_10, f37_11⟩ := fA12 BK147
     go_wp2
     go_meet
     case rel => exact ⟨_, (false), (0), gv, H', ⟨by have := HJ1.out; first | omega | exact Nat.le_refl _⟩, ⟨by refine rK ?_; refine blk_far ?_ NB146_147.out _; refine rK ?_; exact BK146.out⟩, ⟨by refine rK ?_; refine blk_put (cs := #[.int .i64 0, .int .i64 0, .bool a0_2, .int .i64 a0_3, .int .i64 a0_4, .int .i64 a0_5, .int .i64 a0_6, .int .i64 a0_7, .int .i64 a0_8, .int .i64 a0_9, .int .i64 a0_10, .int .i64 a0_11]) ?_ 11 _ rfl; refine rK ?_; exact BK147.out⟩, ⟨uB HB⟩⟩
    rw [if_neg c23] at H
    have c23b0 : (a0_0 == 4) = false := beq_eq_false_iff_ne.mpr c23
    have c23b1 : (a0_0 != 4) = true := bne_iff_ne.mpr c23
    by_cases c38 : a0_0 = 2
    ·rw [if_pos c38] at H
     have c38b0 : (a0_0 == 2) = true := beq_iff_eq.mpr c38
     have c38b1 : (a0_0 != 2) = false := bne_eq_false_iff_eq.mpr c38
     clear c38
     have H' := Aside0.mk H
     clear H
     go_wp2
     go_meet
     case rel => exact ⟨_, (x4_1), (a0_11), gv, H', ⟨by have := HJ1.out; first | omega | exact Nat.le_refl _⟩, ⟨uK BK146⟩, ⟨uK BK147⟩, ⟨uB HB⟩⟩
    rw [if_neg c38] at H
    have c38b0 : (a0_0 == 2) = false := beq_eq_false_iff_ne.mpr c38
    have c38b1 : (a0_0 != 2) = true := bne_iff_ne.mpr c38
    by_cases c39 : a0_0 = 3
    ·rw [if_pos c39] at H
     have c39b0 : (a0_0 == 3) = true := beq_iff_eq.mpr c39
     have c39b1 : (a0_0 != 3) = false := bne_eq_false_iff_eq.mpr c39
     clear c39; replace H := Option.bind_eq_some_iff.mp H
     obtain ⟨⟨t148, t149, t150, t151, t152, t153, t154⟩, A400, H⟩ := H
     replace H : (if x4_1 = true then (if t154 = 0 then (if (!(0 == 0) || (!(0 == 0) || ((a0_2 || (!(a0_3 == 0) || (!(a0_4 == 0) || (!(a0_5 == 0) || (!(a0_6 == 0) || (!(a0_7 == 0))))))) || (!(a0_11 == 0))))) = true then (some 1) else (some 0)) else (some 1)) else (some 1)) = some r := H
     have A40 := Aside0.mk A400; clear A400
     by_cases c41 : x4_1 = true
     ·subst c41
      have H1 : (if t154 = 0 then (if (!(0 == 0) || (!(0 == 0) || ((a0_2 || (!(a0_3 == 0) || (!(a0_4 == 0) || (!(a0_5 == 0) || (!(a0_6 == 0) || (!(a0_7 == 0))))))) || (!(a0_11 == 0))))) = true then (some 1) else (some 0)) else (some 1)) = some r := by rw [if_pos rfl] at H; exact H
      clear H; have H := H1; clear H1
      by_cases c42 : t154 = 0
      ·rw [if_pos c42] at H
       have c42b0 : (t154 == 0) = true := beq_iff_eq.mpr c42
       have c42b1 : (t154 != 0) = false := bne_eq_false_iff_eq.mpr c42
       clear c42
       by_cases c43 : (!(0 == 0) || (!(0 == 0) || ((a0_2 || (!(a0_3 == 0) || (!(a0_4 == 0) || (!(a0_5 == 0) || (!(a0_6 == 0) || (!(a0_7 == 0))))))) || (!(a0_11 == 0))))) = true
       ·rw [if_pos c43] at H
        have c43b0 : (!(0 == 0) || (!(0 == 0) || ((a0_2 || (!(a0_3 == 0) || (!(a0_4 == 0) || (!(a0_5 == 0) || (!(a0_6 == 0) || (!(a0_7 == 0))))))) || (!(a0_11 == 0))))) = true := c43
        have c43b9 := c43b0
        (try simp only [beq_self_eq_true, Bool.not_true, Bool.not_false, Bool.false_or, Bool.true_and, Bool.or_false, Bool.and_true] at c43b9)
        clear c43
        obtain rfl := Option.some.inj H
        have hnb44 := NB146_147.out; have hnc44 := NB147_146.out; obtain ⟨q45_0, q45_1, q45_2, q45_3, q45_4, q45_5, q45_6, q45_7, q45_8, q45_9, q45_10, q45_11⟩ := cA12 BK146; obtain ⟨f45_0, f45_1, f45_2, f45_3, f45_4, f45_5, f45_6, f45_7, f45_8, f45_9, f45_10, f45_11⟩ := fA12 BK146
        go_wp2_with (first | ((with_reducible refine gate_callee (f := 92) rfl ?_); refine gL (some 58) Try.func92 #[.agg #[.int .i64 a0_8, .int .i64 a0_9, .int .i64 a0_10], .int .i64 0, .int .i64 0] ?_; (with_reducible refine (height_At.calls kj1 a0_8 a0_9 a0_10 0 0 t148 t149 t150 t151 t152 t153 t154 _ A40.out).mono ?_); rintro e w46 ⟨rfl, hb⟩; refine ⟨_, rfl, ?_⟩; replace BK146 := kb BK146 hb; replace BK147 := kb BK147 hb; replace HB := bs HB hb; (try clear hb); (try clear hb2); (try clear hk); (try clear hi)) | ((with_reducible refine gate_dst (N := 5) rfl ?_); refine bx #[.bool false, .int .i64 0, .int .i64 0, .int .i64 0, .int .i64 0, .int .i64 0] 58 ?_; intro gb155 hg w47 hbox hb; have BK155 := Aside0.mk hbox; have GW155 := ge HB hg; have GE155 := ge HB hg; replace HB := bs HB hb; have NB146_155 := nL BK146 hg; have NB155_146 := nG BK146 hg; replace BK146 := kb BK146 hb; have NB147_155 := nL BK147 hg; have NB155_147 := nG BK147 hg; replace BK147 := kb BK147 hb; clear hb hbox hg; have hnb48 := NB155_146.out; have hnc48 := NB146_155.out; have hnb49 := NB155_147.out; have hnc49 := NB147_155.out; obtain ⟨q50_0, q50_1, q50_2, q50_3, q50_4, q50_5⟩ := cA6 BK155; obtain ⟨f50_0, f50_1, f50_2, f50_3, f50_4, f50_5⟩ := fA6 BK155; obtain ⟨q51_0, q51_1, q51_2, q51_3, q51_4, q51_5, q51_6, q51_7, q51_8, q51_9, q51_10, q51_11⟩ := cA12 BK147; obtain ⟨f51_0, f51_1, f51_2, f51_3, f51_4, f51_5, f51_6, f51_7, f51_8, f51_9, f51_10, f51_11⟩ := fA12 BK147))
        go_ret
        exact ⟨gE, uB HB⟩
       rw [if_neg c43] at H
       have c43b0 : (!(0 == 0) || (!(0 == 0) || ((a0_2 || (!(a0_3 == 0) || (!(a0_4 == 0) || (!(a0_5 == 0) || (!(a0_6 == 0) || (!(a0_7 == 0))))))) || (!(a0_11 == 0))))) = false := by simpa using c43
       have c43b9 := c43b0
       (try simp only [beq_self_eq_true, Bool.not_true, Bool.not_false, Bool.false_or, Bool.true_and, Bool.or_false, Bool.and_true] at c43b9)
       clear c43
       obtain rfl := Option.some.inj H
       have hnb52 := NB146_147.out; have hnc52 := NB147_146.out; obtain ⟨q53_0, q53_1, q53_2, q53_3, q53_4, q53_5, q53_6, q53_7, q53_8, q53_9, q53_10, q53_11⟩ := cA12 BK146; obtain ⟨f53_0, f53_1, f53_2, f53_3, f53_4, f53_5, f53_6, f53_7, f53_8, f53_9, f53_10, f53_11⟩ := fA12 BK146
       go_wp2_with (first | ((with_reducible refine gate_callee (f := 92) rfl ?_); refine gL (some 58) Try.func92 #[.agg #[.int .i64 a0_8, .int .i64 a0_9, .int .i64 a0_10], .int .i64 0, .int .i64 0] ?_; (with_reducible refine (height_At.calls kj1 a0_8 a0_9 a0_10 0 0 t148 t149 t150 t151 t152 t153 t154 _ A40.out).mono ?_); rintro e w54 ⟨rfl, hb⟩; refine ⟨_, rfl, ?_⟩; replace BK146 := kb BK146 hb; replace BK147 := kb BK147 hb; replace HB := bs HB hb; (try clear hb); (try clear hb2); (try clear hk); (try clear hi)) | ((with_reducible refine gate_dst (N := 5) rfl ?_); refine bx #[.bool false, .int .i64 0, .int .i64 0, .int .i64 0, .int .i64 0, .int .i64 0] 58 ?_; intro gb155 hg w55 hbox hb; have BK155 := Aside0.mk hbox; have GW155 := ge HB hg; have GE155 := ge HB hg; replace HB := bs HB hb; have NB146_155 := nL BK146 hg; have NB155_146 := nG BK146 hg; replace BK146 := kb BK146 hb; have NB147_155 := nL BK147 hg; have NB155_147 := nG BK147 hg; replace BK147 := kb BK147 hb; clear hb hbox hg; have hnb56 := NB155_146.out; have hnc56 := NB146_155.out; have hnb57 := NB155_147.out; have hnc57 := NB147_155.out; obtain ⟨q58_0, q58_1, q58_2, q58_3, q58_4, q58_5⟩ := cA6 BK155; obtain ⟨f58_0, f58_1, f58_2, f58_3, f58_4, f58_5⟩ := fA6 BK155; obtain ⟨q59_0, q59_1, q59_2, q59_3, q59_4, q59_5, q59_6, q59_7, q59_8, q59_9, q59_10, q59_11⟩ := cA12 BK147; obtain ⟨f59_0, f59_1, f59_2, f59_3, f59_4, f59_5, f59_6, f59_7, f59_8, f59_9, f59_10, f59_11⟩ := fA12 BK147))
       go_ret
       exact ⟨gE, uB HB⟩
      rw [if_neg c42] at H
      have c42b0 : (t154 == 0) = false := beq_eq_false_iff_ne.mpr c42
      have c42b1 : (t154 != 0) = true := bne_iff_ne.mpr c42
      obtain rfl := Option.some.inj H
      have hnb60 := NB146_147.out; have hnc60 := NB147_146.out; obtain ⟨q61_0, q61_1, q61_2, q61_3, q61_4, q61_5, q61_6, q61_7, q61_8, q61_9, q61_10, q61_11⟩ := cA12 BK146; obtain ⟨f61_0, f61_1, f61_2, f61_3, f61_4, f61_5, f61_6, f61_7, f61_8, f61_9, f61_10, f61_11⟩ := fA12 BK146
      go_wp2_with (first | ((with_reducible refine gate_callee (f := 92) rfl ?_); refine gL (some 58) Try.func92 #[.agg #[.int .i64 a0_8, .int .i64 a0_9, .int .i64 a0_10], .int .i64 0, .int .i64 0] ?_; (with_reducible refine (height_At.calls kj1 a0_8 a0_9 a0_10 0 0 t148 t149 t150 t151 t152 t153 t154 _ A40.out).mono ?_); rintro e w62 ⟨rfl, hb⟩; refine ⟨_, rfl, ?_⟩; replace BK146 := kb BK146 hb; replace BK147 := kb BK147 hb; replace HB := bs HB hb; (try clear hb); (try clear hb2); (try clear hk); (try clear hi)) | ((with_reducible refine gate_dst (N := 5) rfl ?_); refine bx #[.bool false, .int .i64 0, .int .i64 0, .int .i64 0, .int .i64 0, .int .i64 0] 58 ?_; intro gb155 hg w63 hbox hb; have BK155 := Aside0.mk hbox; have GW155 := ge HB hg; have GE155 := ge HB hg; replace HB := bs HB hb; have NB146_155 := nL BK146 hg; have NB155_146 := nG BK146 hg; replace BK146 := kb BK146 hb; have NB147_155 := nL BK147 hg; have NB155_147 := nG BK147 hg; replace BK147 := kb BK147 hb; clear hb hbox hg; have hnb64 := NB155_146.out; have hnc64 := NB146_155.out; have hnb65 := NB155_147.out; have hnc65 := NB147_155.out; obtain ⟨q66_0, q66_1, q66_2, q66_3, q66_4, q66_5⟩ := cA6 BK155; obtain ⟨f66_0, f66_1, f66_2, f66_3, f66_4, f66_5⟩ := fA6 BK155; obtain ⟨q67_0, q67_1, q67_2, q67_3, q67_4, q67_5, q67_6, q67_7, q67_8, q67_9, q67_10, q67_11⟩ := cA12 BK147; obtain ⟨f67_0, f67_1, f67_2, f67_3, f67_4, f67_5, f67_6, f67_7, f67_8, f67_9, f67_10, f67_11⟩ := fA12 BK147))
      go_ret
      exact ⟨gE, uB HB⟩
     replace c41 := Bool.eq_false_iff.mpr c41
     subst c41
     rw [if_neg (show ¬ (false = true) by decide)] at H
     obtain rfl := Option.some.inj H
     have hnb68 := NB146_147.out; have hnc68 := NB147_146.out; obtain ⟨q69_0, q69_1, q69_2, q69_3, q69_4, q69_5, q69_6, q69_7, q69_8, q69_9, q69_10, q69_11⟩ := cA12 BK146; obtain ⟨f69_0, f69_1, f69_2, f69_3, f69_4, f69_5, f69_6, f69_7, f69_8, f69_9, f69_10, f69_11⟩ := fA12 BK146
     go_wp2_with (first | ((with_reducible refine gate_callee (f := 92) rfl ?_); refine gL (some 58) Try.func92 #[.agg #[.int .i64 a0_8, .int .i64 a0_9, .int .i64 a0_10], .int .i64 0, .int .i64 0] ?_; (with_reducible refine (height_At.calls kj1 a0_8 a0_9 a0_10 0 0 t148 t149 t150 t151 t152 t153 t154 _ A40.out).mono ?_); rintro e w70 ⟨rfl, hb⟩; refine ⟨_, rfl, ?_⟩; replace BK146 := kb BK146 hb; replace BK147 := kb BK147 hb; replace HB := bs HB hb; (try clear hb); (try clear hb2); (try clear hk); (try clear hi)) | ((with_reducible refine gate_dst (N := 5) rfl ?_); refine bx #[.bool false, .int .i64 0, .int .i64 0, .int .i64 0, .int .i64 0, .int .i64 0] 58 ?_; intro gb155 hg w71 hbox hb; have BK155 := Aside0.mk hbox; have GW155 := ge HB hg; have GE155 := ge HB hg; replace HB := bs HB hb; have NB146_155 := nL BK146 hg; have NB155_146 := nG BK146 hg; replace BK146 := kb BK146 hb; have NB147_155 := nL BK147 hg; have NB155_147 := nG BK147 hg; replace BK147 := kb BK147 hb; clear hb hbox hg; have hnb72 := NB155_146.out; have hnc72 := NB146_155.out; have hnb73 := NB155_147.out; have hnc73 := NB147_155.out; obtain ⟨q74_0, q74_1, q74_2, q74_3, q74_4, q74_5⟩ := cA6 BK155; obtain ⟨f74_0, f74_1, f74_2, f74_3, f74_4, f74_5⟩ := fA6 BK155; obtain ⟨q75_0, q75_1, q75_2, q75_3, q75_4, q75_5, q75_6, q75_7, q75_8, q75_9, q75_10, q75_11⟩ := cA12 BK147; obtain ⟨f75_0, f75_1, f75_2, f75_3, f75_4, f75_5, f75_6, f75_7, f75_8, f75_9, f75_10, f75_11⟩ := fA12 BK147))
     go_ret
     exact ⟨gE, uB HB⟩
    rw [if_neg c39] at H
    have c39b0 : (a0_0 == 3) = false := beq_eq_false_iff_ne.mpr c39
    have c39b1 : (a0_0 != 3) = true := bne_iff_ne.mpr c39
    obtain rfl := Option.some.inj H
    go_wp2
    go_ret
    exact ⟨gE, uB HB⟩
   case rest =>
    clear HC13; (try clear c1); (try clear c2); (try clear p2); (try clear c3); (try clear c4); (try clear c5); (try clear c6); (try clear c7); (try clear c9); (try clear c14); (try clear c16); (try clear c16b0); (try clear c16b1); (try clear c17); (try clear c18); (try clear c18b0); (try clear c19); (try clear c21); (try clear c23); (try clear c23b0); (try clear c23b1); (try clear c24); (try clear c25); (try clear c26); (try clear c29); (try clear c29b0); (try clear c30); (try clear c33); (try clear c36); (try clear c38); (try clear c38b0); (try clear c38b1); (try clear c39); (try clear c39b0); (try clear c39b1); (try clear c41); (try clear c42); (try clear c42b0); (try clear c42b1); (try clear c43); (try clear c43b0); (try clear c44); (try clear c48); (try clear c49); (try clear c52); (try clear c56); (try clear c57); (try clear c60); (try clear c64); (try clear c65); (try clear c68); (try clear c72); (try clear c73); (try clear q15_0); (try clear q15_1); (try clear q15_10); (try clear q15_11); (try clear q15_2); (try clear q15_3); (try clear q15_4); (try clear q15_5); (try clear q15_6); (try clear q15_7); (try clear q15_8); (try clear q15_9); (try clear q20_0); (try clear q20_1); (try clear q20_10); (try clear q20_11); (try clear q20_2); (try clear q20_3); (try clear q20_4); (try clear q20_5); (try clear q20_6); (try clear q20_7); (try clear q20_8); (try clear q20_9); (try clear q22_0); (try clear q22_1); (try clear q22_10); (try clear q22_11); (try clear q22_2); (try clear q22_3); (try clear q22_4); (try clear q22_5); (try clear q22_6); (try clear q22_7); (try clear q22_8); (try clear q22_9); (try clear q27_0); (try clear q27_1); (try clear q27_10); (try clear q27_11); (try clear q27_2); (try clear q27_3); (try clear q27_4); (try clear q27_5); (try clear q27_6); (try clear q27_7); (try clear q27_8); (try clear q27_9); (try clear q28_0); (try clear q28_1); (try clear q28_10); (try clear q28_11); (try clear q28_2); (try clear q28_3); (try clear q28_4); (try clear q28_5); (try clear q28_6); (try clear q28_7); (try clear q28_8); (try clear q28_9); (try clear q31_0); (try clear q31_1); (try clear q31_10); (try clear q31_11); (try clear q31_2); (try clear q31_3); (try clear q31_4); (try clear q31_5); (try clear q31_6); (try clear q31_7); (try clear q31_8); (try clear q31_9); (try clear q32_0); (try clear q32_1); (try clear q32_10); (try clear q32_11); (try clear q32_2); (try clear q32_3); (try clear q32_4); (try clear q32_5); (try clear q32_6); (try clear q32_7); (try clear q32_8); (try clear q32_9); (try clear q34_0); (try clear q34_1); (try clear q34_10); (try clear q34_11); (try clear q34_2); (try clear q34_3); (try clear q34_4); (try clear q34_5); (try clear q34_6); (try clear q34_7); (try clear q34_8); (try clear q34_9); (try clear q35_0); (try clear q35_1); (try clear q35_10); (try clear q35_11); (try clear q35_2); (try clear q35_3); (try clear q35_4); (try clear q35_5); (try clear q35_6); (try clear q35_7); (try clear q35_8); (try clear q35_9); (try clear q37_0); (try clear q37_1); (try clear q37_10); (try clear q37_11); (try clear q37_2); (try clear q37_3); (try clear q37_4); (try clear q37_5); (try clear q37_6); (try clear q37_7); (try clear q37_8); (try clear q37_9); (try clear q45_0); (try clear q45_1); (try clear q45_10); (try clear q45_11); (try clear q45_2); (try clear q45_3); (try clear q45_4); (try clear q45_5); (try clear q45_6); (try clear q45_7); (try clear q45_8); (try clear q45_9); (try clear q50_0); (try clear q50_1); (try clear q50_2); (try clear q50_3); (try clear q50_4); (try clear q50_5); (try clear q51_0); (try clear q51_1); (try clear q51_10); (try clear q51_11); (try clear q51_2); (try clear q51_3); (try clear q51_4)
    (try clear q51_5); (try clear q51_6); (try clear q51_7); (try clear q51_8); (try clear q51_9); (try clear q53_0); (try clear q53_1); (try clear q53_10); (try clear q53_11); (try clear q53_2); (try clear q53_3); (try clear q53_4); (try clear q53_5); (try clear q53_6); (try clear q53_7); (try clear q53_8); (try clear q53_9); (try clear q58_0); (try clear q58_1); (try clear q58_2); (try clear q58_3); (try clear q58_4); (try clear q58_5); (try clear q59_0); (try clear q59_1); (try clear q59_10); (try clear q59_11); (try clear q59_2); (try clear q59_3); (try clear q59_4); (try clear q59_5); (try clear q59_6); (try clear q59_7); (try clear q59_8); (try clear q59_9); (try clear q61_0); (try clear q61_1); (try clear q61_10); (try clear q61_11); (try clear q61_2); (try clear q61_3); (try clear q61_4); (try clear q61_5); (try clear q61_6); (try clear q61_7); (try clear q61_8); (try clear q61_9); (try clear q66_0); (try clear q66_1); (try clear q66_2); (try clear q66_3); (try clear q66_4); (try clear q66_5); (try clear q67_0); (try clear q67_1); (try clear q67_10); (try clear q67_11); (try clear q67_2); (try clear q67_3); (try clear q67_4); (try clear q67_5); (try clear q67_6); (try clear q67_7); (try clear q67_8); (try clear q67_9); (try clear q69_0); (try clear q69_1); (try clear q69_10); (try clear q69_11); (try clear q69_2); (try clear q69_3); (try clear q69_4); (try clear q69_5); (try clear q69_6); (try clear q69_7); (try clear q69_8); (try clear q69_9); (try clear q74_0); (try clear q74_1); (try clear q74_2); (try clear q74_3); (try clear q74_4); (try clear q74_5); (try clear q75_0); (try clear q75_1); (try clear q75_10); (try clear q75_11); (try clear q75_2); (try clear q75_3); (try clear q75_4); (try clear q75_5); (try clear q75_6); (try clear q75_7); (try clear q75_8); (try clear q75_9); (try clear q7_5); (try clear q7_6); (try clear q7_7); (try clear q7_8); (try clear q7_9); (try clear f10_0); (try clear f10_1); (try clear f10_10); (try clear f10_11); (try clear f10_2); (try clear f10_3); (try clear f10_4); (try clear f10_5); (try clear f10_6); (try clear f10_7); (try clear f10_8); (try clear f10_9); (try clear f12_0); (try clear f12_1); (try clear f12_10); (try clear f12_11); (try clear f12_2); (try clear f12_3); (try clear f12_4); (try clear f12_5); (try clear f12_6); (try clear f12_7); (try clear f12_8); (try clear f12_9); (try clear f15_0); (try clear f15_1); (try clear f15_10); (try clear f15_11); (try clear f15_2); (try clear f15_3); (try clear f15_4); (try clear f15_5); (try clear f15_6); (try clear f15_7); (try clear f15_8); (try clear f15_9); (try clear f20_0); (try clear f20_1); (try clear f20_10); (try clear f20_11); (try clear f20_2); (try clear f20_3); (try clear f20_4); (try clear f20_5); (try clear f20_6); (try clear f20_7); (try clear f20_8); (try clear f20_9); (try clear f22_0); (try clear f22_1); (try clear f22_10); (try clear f22_11); (try clear f22_2); (try clear f22_3); (try clear f22_4); (try clear f22_5); (try clear f22_6); (try clear f22_7); (try clear f22_8); (try clear f22_9); (try clear f27_0); (try clear f27_1); (try clear f27_10); (try clear f27_11); (try clear f27_2); (try clear f27_3); (try clear f27_4); (try clear f27_5); (try clear f27_6); (try clear f27_7); (try clear f27_8); (try clear f27_9); (try clear f28_0); (try clear f28_1); (try clear f28_10); (try clear f28_11); (try clear f28_2); (try clear f28_3); (try clear f28_4); (try clear f28_5); (try clear f28_6); (try clear f28_7); (try clear f28_8); (try clear f28_9); (try clear f31_0); (try clear f31_1); (try clear f31_10); (try clear f31_11); (try clear f31_2); (try clear f31_3)
    (try clear f31_4); (try clear f31_5); (try clear f31_6); (try clear f31_7); (try clear f31_8); (try clear f31_9); (try clear f32_0); (try clear f32_1); (try clear f32_10); (try clear f32_11); (try clear f32_2); (try clear f32_3); (try clear f32_4); (try clear f32_5); (try clear f32_6); (try clear f32_7); (try clear f32_8); (try clear f32_9); (try clear f34_0); (try clear f34_1); (try clear f34_10); (try clear f34_11); (try clear f34_2); (try clear f34_3); (try clear f34_4); (try clear f34_5); (try clear f34_6); (try clear f34_7); (try clear f34_8); (try clear f34_9); (try clear f35_0); (try clear f35_1); (try clear f35_10); (try clear f35_11); (try clear f35_2); (try clear f35_3); (try clear f35_4); (try clear f35_5); (try clear f35_6); (try clear f35_7); (try clear f35_8); (try clear f35_9); (try clear f37_0); (try clear f37_1); (try clear f37_10); (try clear f37_11); (try clear f37_2); (try clear f37_3); (try clear f37_4); (try clear f37_5); (try clear f37_6); (try clear f37_7); (try clear f37_8); (try clear f37_9); (try clear f45_0); (try clear f45_1); (try clear f45_10); (try clear f45_11); (try clear f45_2); (try clear f45_3); (try clear f45_4); (try clear f45_5); (try clear f45_6); (try clear f45_7); (try clear f45_8); (try clear f45_9); (try clear f4_0); (try clear f4_1); (try clear f4_10); (try clear f4_11); (try clear f4_2); (try clear f4_3); (try clear f4_4); (try clear f4_5); (try clear f4_6); (try clear f4_7); (try clear f4_8); (try clear f4_9); (try clear f50_0); (try clear f50_1); (try clear f50_2); (try clear f50_3); (try clear f50_4); (try clear f50_5); (try clear f51_0); (try clear f51_1); (try clear f51_10); (try clear f51_11); (try clear f51_2); (try clear f51_3); (try clear f51_4); (try clear f51_5); (try clear f51_6); (try clear f51_7); (try clear f51_8); (try clear f51_9); (try clear f53_0); (try clear f53_1); (try clear f53_10); (try clear f53_11); (try clear f53_2); (try clear f53_3); (try clear f53_4); (try clear f53_5); (try clear f53_6); (try clear f53_7); (try clear f53_8); (try clear f53_9); (try clear f58_0); (try clear f58_1); (try clear f58_2); (try clear f58_3); (try clear f58_4); (try clear f58_5); (try clear f59_0); (try clear f59_1); (try clear f59_10); (try clear f59_11); (try clear f59_2); (try clear f59_3); (try clear f59_4); (try clear f59_5); (try clear f59_6); (try clear f59_7); (try clear f59_8); (try clear f59_9); (try clear f61_0); (try clear f61_1); (try clear f61_10); (try clear f61_11); (try clear f61_2); (try clear f61_3); (try clear f61_4); (try clear f61_5); (try clear f61_6); (try clear f61_7); (try clear f61_8); (try clear f61_9); (try clear f66_0); (try clear f66_1); (try clear f66_2); (try clear f66_3); (try clear f66_4); (try clear f66_5); (try clear f67_0); (try clear f67_1); (try clear f67_10); (try clear f67_11); (try clear f67_2); (try clear f67_3); (try clear f67_4); (try clear f67_5); (try clear f67_6); (try clear f67_7); (try clear f67_8); (try clear f67_9); (try clear f69_0); (try clear f69_1); (try clear f69_10); (try clear f69_11); (try clear f69_2); (try clear f69_3); (try clear f69_4); (try clear f69_5); (try clear f69_6); (try clear f69_7); (try clear f69_8); (try clear f69_9); (try clear f74_0); (try clear f74_1); (try clear f74_2); (try clear f74_3); (try clear f74_4); (try clear f74_5); (try clear f75_0); (try clear f75_1); (try clear f75_10); (try clear f75_11); (try clear f75_2); (try clear f75_3); (try clear f75_4); (try clear f75_5); (try clear f75_6); (try clear f75_7); (try clear f75_8); (try clear f75_9); (try clear f7_0); (try clear f7_1); (try clear f7_10); (try clear f7_11)
    (try clear f7_2); (try clear f7_3); (try clear f7_4); (try clear f7_5); (try clear f7_6); (try clear f7_7); (try clear f7_8); (try clear f7_9); obtain ⟨kq, x4_12, x148011_12, rfl, HA, HJ12, BK146, BK147, HB⟩ := hcut
    cases kq with
    | zero => exact absurd HA.out (by simp [object_Check.j1])
    | succ kj12 =>
     have H := HA.out
     clear HA
     simp only [object_Check.j1] at H
     by_cases c76 : x4_12 = true
     ·subst c76
      have H1 : ((height_Check.f kj12 a0_2 a0_3 a0_4 a0_5 a0_6 a0_7).bind fun t156 => (if t156 = 0 then (if (!(0 == 0) || (!(0 == 0) || ((!(a0_8 == 0) || (!(a0_9 == 0) || (!(a0_10 == 0)))) || (!(x148011_12 == 0))))) = true then (some 1) else (some 0)) else (some 1))) = some r := by rw [if_pos rfl] at H; exact H
      clear H; have H := H1; clear H1; replace H := Option.bind_eq_some_iff.mp H; obtain ⟨t156, A770, H⟩ := H
      replace H : (if t156 = 0 then (if (!(0 == 0) || (!(0 == 0) || ((!(a0_8 == 0) || (!(a0_9 == 0) || (!(a0_10 == 0)))) || (!(x148011_12 == 0))))) = true then (some 1) else (some 0)) else (some 1)) = some r := H
      have A77 := Aside0.mk A770; clear A770
      by_cases c78 : t156 = 0
      ·rw [if_pos c78] at H
       have c78b0 : (t156 == 0) = true := beq_iff_eq.mpr c78
       have c78b1 : (t156 != 0) = false := bne_eq_false_iff_eq.mpr c78
       clear c78
       by_cases c79 : (!(0 == 0) || (!(0 == 0) || ((!(a0_8 == 0) || (!(a0_9 == 0) || (!(a0_10 == 0)))) || (!(x148011_12 == 0))))) = true
       ·rw [if_pos c79] at H
        have c79b0 : (!(0 == 0) || (!(0 == 0) || ((!(a0_8 == 0) || (!(a0_9 == 0) || (!(a0_10 == 0)))) || (!(x148011_12 == 0))))) = true := c79
        have c79b9 := c79b0
        (try simp only [beq_self_eq_true, Bool.not_true, Bool.not_false, Bool.false_or, Bool.true_and, Bool.or_false, Bool.and_true] at c79b9)
        clear c79
        obtain rfl := Option.some.inj H
        have hnb80 := NB146_147.out; have hnc80 := NB147_146.out; obtain ⟨q81_0, q81_1, q81_2, q81_3, q81_4, q81_5, q81_6, q81_7, q81_8, q81_9, q81_10, q81_11⟩ := cA12 BK146; obtain ⟨f81_0, f81_1, f81_2, f81_3, f81_4, f81_5, f81_6, f81_7, f81_8, f81_9, f81_10, f81_11⟩ := fA12 BK146
        go_wp2_with (first | (go_at_call 91; (with_reducible refine (height_Check.calls kj12 a0_2 a0_3 a0_4 a0_5 a0_6 a0_7 t156 _ A77.out).mono ?_); rintro e w82 ⟨rfl, hb⟩; replace BK146 := kb BK146 hb; replace BK147 := kb BK147 hb; replace HB := bs HB hb; (try clear hb); (try clear hb2); (try clear hk); (try clear hi); obtain ⟨q83_0, q83_1, q83_2, q83_3, q83_4, q83_5, q83_6, q83_7, q83_8, q83_9, q83_10, q83_11⟩ := cA12 BK147; obtain ⟨f83_0, f83_1, f83_2, f83_3, f83_4, f83_5, f83_6, f83_7, f83_8, f83_9, f83_10, f83_11⟩ := fA12 BK147))
        go_ret
        exact ⟨gE, uB HB⟩
       rw [if_neg c79] at H
       have c79b0 : (!(0 == 0) || (!(0 == 0) || ((!(a0_8 == 0) || (!(a0_9 == 0) || (!(a0_10 == 0)))) || (!(x148011_12 == 0))))) = false := by simpa using c79
       have c79b9 := c79b0
       (try simp only [beq_self_eq_true, Bool.not_true, Bool.not_false, Bool.false_or, Bool.true_and, Bool.or_false, Bool.and_true] at c79b9)
       clear c79
       obtain rfl := Option.some.inj H
       have hnb84 := NB146_147.out; have hnc84 := NB147_146.out; obtain ⟨q85_0, q85_1, q85_2, q85_3, q85_4, q85_5, q85_6, q85_7, q85_8, q85_9, q85_10, q85_11⟩ := cA12 BK146; obtain ⟨f85_0, f85_1, f85_2, f85_3, f85_4, f85_5, f85_6, f85_7, f85_8, f85_9, f85_10, f85_11⟩ := fA12 BK146
       go_wp2_with (first | (go_at_call 91; (with_reducible refine (height_Check.calls kj12 a0_2 a0_3 a0_4 a0_5 a0_6 a0_7 t156 _ A77.out).mono ?_); rintro e w86 ⟨rfl, hb⟩; replace BK146 := kb BK146 hb; replace BK147 := kb BK147 hb; replace HB := bs HB hb; (try clear hb); (try clear hb2); (try clear hk); (try clear hi); obtain ⟨q87_0, q87_1, q87_2, q87_3, q87_4, q87_5, q87_6, q87_7, q87_8, q87_9, q87_10, q87_11⟩ := cA12 BK147; obtain ⟨f87_0, f87_1, f87_2, f87_3, f87_4, f87_5, f87_6, f87_7, f87_8, f87_9, f87_10, f87_11⟩ := fA12 BK147))
       go_ret
       exact ⟨gE, uB HB⟩
      rw [if_neg c78] at H
      have c78b0 : (t156 == 0) = false := beq_eq_false_iff_ne.mpr c78
      have c78b1 : (t156 != 0) = true := bne_iff_ne.mpr c78
      obtain rfl := Option.some.inj H
      have hnb88 := NB146_147.out; have hnc88 := NB147_146.out; obtain ⟨q89_0, q89_1, q89_2, q89_3, q89_4, q89_5, q89_6, q89_7, q89_8, q89_9, q89_10, q89_11⟩ := cA12 BK146; obtain ⟨f89_0, f89_1, f89_2, f89_3, f89_4, f89_5, f89_6, f89_7, f89_8, f89_9, f89_10, f89_11⟩ := fA12 BK146
      go_wp2_with (first | (go_at_call 91; (with_reducible refine (height_Check.calls kj12 a0_2 a0_3 a0_4 a0_5 a0_6 a0_7 t156 _ A77.out).mono ?_); rintro e w90 ⟨rfl, hb⟩; replace BK146 := kb BK146 hb; replace BK147 := kb BK147 hb; replace HB := bs HB hb; (try clear hb); (try clear hb2); (try clear hk); (try clear hi); obtain ⟨q91_0, q91_1, q91_2, q91_3, q91_4, q91_5, q91_6, q91_7, q91_8, q91_9, q91_10, q91_11⟩ := cA12 BK147; obtain ⟨f91_0, f91_1, f91_2, f91_3, f91_4, f91_5, f91_6, f91_7, f91_8, f91_9, f91_10, f91_11⟩ := fA12 BK147))
      go_ret
      exact ⟨gE, uB HB⟩
     replace c76 := Bool.eq_false_iff.mpr c76
     subst c76
     rw [if_neg (show ¬ (false = true) by decide)] at H
     obtain rfl := Option.some.inj H
     have hnb92 := NB147_146.out; have hnc92 := NB146_147.out; obtain ⟨q93_0, q93_1, q93_2, q93_3, q93_4, q93_5, q93_6, q93_7, q93_8, q93_9, q93_10, q93_11⟩ := cA12 BK147; obtain ⟨f93_0, f93_1, f93_2, f93_3, f93_4, f93_5, f93_6, f93_7, f93_8, f93_9, f93_10, f93_11⟩ := fA12 BK147
     go_wp2
     go_ret
     exact ⟨gE, uB HB⟩
end Go.Proofs.Ytpgmmnlkiogamaa.P
namespace Go.Proofs.Ytpgmmnlkiogamaa.P
open Go.RowKit YtpgmmnlkiogamaaW.PrintWords YtpgmmnlkiogamaaW.PrintLast YtpgmmnlkiogamaaW.PrintMore
attribute [local go_sem] max2_int min2_int max_two min_two max_three min_three max_four min_four
def batch_wrong.f (k : Nat) (a0_0 : Int) (a0_1 : Int) (a0_2 : Bool) (a0_3 : Int) (a0_4 : Int) (a0_5 : Int) (a0_6 : Int) (a0_7 : Int) (a0_8 : Int) (a0_9 : Int) (a0_10 : Int) (a0_11 : Int) : Option (Bool) := (object_Check.f k a0_0 a0_1 a0_2 a0_3 a0_4 a0_5 a0_6 a0_7 a0_8 a0_9 a0_10 a0_11).bind fun t158 => (some (t158 != 0))
theorem batch_wrong.mono : ∀ a0 a1 a2 a3 a4 a5 a6 a7 a8 a9 a10 a11 k, LeO (batch_wrong.f k a0 a1 a2 a3 a4 a5 a6 a7 a8 a9 a10 a11) (batch_wrong.f (k + 1) a0 a1 a2 a3 a4 a5 a6 a7 a8 a9 a10 a11) := by
 intro a0 a1 a2 a3 a4 a5 a6 a7 a8 a9 a10 a11 k
 unfold batch_wrong.f
 repeat' first
   | (with_reducible exact object_Check.mono _ _ _ _ _ _ _ _ _ _ _ _ _)
   | (with_reducible exact LeO.refl _)
   | (with_reducible exact LeO.none _)
   | (with_reducible refine LeO.ite ?_ ?_)
   | (with_reducible refine LeO.bind ?_ (fun _ => ?_))
   | exact object_Check.mono _ _ _ _ _ _ _ _ _ _ _ _ _
   | exact LeO.none _
   | refine LeO.ite ?_ ?_
   | refine LeO.bind ?_ (fun _ => ?_)
theorem batch_wrong.calls (k : Nat) (a0_0 : Int) (a0_1 : Int) (a0_2 : Bool) (a0_3 : Int) (a0_4 : Int) (a0_5 : Int) (a0_6 : Int) (a0_7 : Int) (a0_8 : Int) (a0_9 : Int) (a0_10 : Int) (a0_11 : Int) (r : Bool) (w : World) (h : batch_wrong.f k a0_0 a0_1 a0_2 a0_3 a0_4 a0_5 a0_6 a0_7 a0_8 a0_9 a0_10 a0_11 = some r) :
  Calls Try.prog 73 #[.agg #[.int .i64 a0_0, .int .i64 a0_1, .bool a0_2, .int .i64 a0_3, .int .i64 a0_4, .int .i64 a0_5, .int .i64 a0_6, .int .i64 a0_7, .int .i64 a0_8, .int .i64 a0_9, .int .i64 a0_10, .int .i64 a0_11]] w fun e w' => e = .returned (.bool r) ∧ Below w.heap.size w w' := by
 have hu62 := Try.underlying62; have HB := Aside0.mk (Below.refl w.heap.size w)
 have H : ((object_Check.f k a0_0 a0_1 a0_2 a0_3 a0_4 a0_5 a0_6 a0_7 a0_8 a0_9 a0_10 a0_11).bind fun t158 => (some (t158 != 0))) = some r := h
 clear h; replace H := Option.bind_eq_some_iff.mp H; obtain ⟨t158, A20, H⟩ := H
 replace H : (some (t158 != 0)) = some r := H
 have A2 := Aside0.mk A20; clear A20
 obtain rfl := Option.some.inj H
 go_enter Try.func73, Try.ntmps73
 go_wp2_with (first | ((with_reducible refine gate_dst (N := 1) rfl ?_); refine bx #[.int .i64 a0_0, .int .i64 a0_1, .bool a0_2, .int .i64 a0_3, .int .i64 a0_4, .int .i64 a0_5, .int .i64 a0_6, .int .i64 a0_7, .int .i64 a0_8, .int .i64 a0_9, .int .i64 a0_10, .int .i64 a0_11] 62 ?_; intro gb157 hg w3 hbox hb; have BK157 := Aside0.mk hbox; have GW157 := ge HB hg; have GE157 := ge HB hg; replace HB := bs HB hb; clear hb hbox hg; obtain ⟨q4_0, q4_1, q4_2, q4_3, q4_4, q4_5, q4_6, q4_7, q4_8, q4_9, q4_10, q4_11⟩ := cA12 BK157; obtain ⟨f4_0, f4_1, f4_2, f4_3, f4_4, f4_5, f4_6, f4_7, f4_8, f4_9, f4_10, f4_11⟩ := fA12 BK157) | ((with_reducible refine gate_callee (f := 75) rfl ?_); refine gL (some 4) Try.func75 #[.agg #[.int .i64 a0_0, .int .i64 a0_1, .bool a0_2, .int .i64 a0_3, .int .i64 a0_4, .int .i64 a0_5, .int .i64 a0_6, .int .i64 a0_7, .int .i64 a0_8, .int .i64 a0_9, .int .i64 a0_10, .int .i64 a0_11]] ?_; (with_reducible refine (object_Check.calls k a0_0 a0_1 a0_2 a0_3 a0_4 a0_5 a0_6 a0_7 a0_8 a0_9 a0_10 a0_11 t158 _ A2.out).mono ?_); rintro e w5 ⟨rfl, hb⟩; refine ⟨_, rfl, ?_⟩; replace BK157 := kb BK157 hb; replace HB := bs HB hb; (try clear hb); (try clear hb2); (try clear hk); (try clear hi)))
 go_ret
 exact ⟨gE, uB HB⟩
def api_Object_89.l0 : Nat → List (S62) → Int → Int → Option (Int)
 | 0, _, _, _ => none
 | k + 1, x0, x7, x8 => if x8 < x7 then (if 0 ≤ x8 then (if x8 < (x0.length : Int) then ((batch_wrong.f k ((rd_T62 x0 x8).f0) ((rd_T62 x0 x8).f1) ((rd_T62 x0 x8).f2.f0) ((rd_T62 x0 x8).f2.f1) ((rd_T62 x0 x8).f2.f2) ((rd_T62 x0 x8).f2.f3) ((rd_T62 x0 x8).f2.f4) ((rd_T62 x0 x8).f2.f5) ((rd_T62 x0 x8).f3.f0) ((rd_T62 x0 x8).f3.f1) ((rd_T62 x0 x8).f3.f2) ((rd_T62 x0 x8).f4)).bind fun t160 => (if t160 = true then (some x8) else (api_Object_89.l0 k x0 x7 (wrap64 (x8 + 1))))) else (none)) else (none)) else (some (-1))
def api_Object_89.f (k : Nat) (l0 : List (S62))  : Option (Int) := api_Object_89.l0 k l0 (l0.length : Int) 0
theorem api_Object_89.mono_l : ∀ k, (∀ y0 y1 y2, LeO (api_Object_89.l0 k y0 y1 y2) (api_Object_89.l0 (k + 1) y0 y1 y2))
 | 0 => fun _ _ _ r h => by simp [api_Object_89.l0] at h
 | k + 1 => by
  have ih0 := api_Object_89.mono_l k
  ·intro y0 y1 y2
   unfold api_Object_89.l0
   repeat' first
   | (with_reducible exact ih0 _ _ _)
   | (with_reducible exact batch_wrong.mono _ _ _ _ _ _ _ _ _ _ _ _ _)
   | (with_reducible exact LeO.refl _)
   | (with_reducible exact LeO.none _)
   | (with_reducible refine LeO.ite ?_ ?_)
   | (with_reducible refine LeO.bind ?_ (fun _ => ?_))
   | exact ih0 _ _ _
   | exact batch_wrong.mono _ _ _ _ _ _ _ _ _ _ _ _ _
   | exact LeO.none _
   | refine LeO.ite ?_ ?_
   | refine LeO.bind ?_ (fun _ => ?_)
theorem api_Object_89.mono : ∀ a0 k, LeO (api_Object_89.f k a0) (api_Object_89.f (k + 1) a0) := by
 intro a0 k
 have ih0 := api_Object_89.mono_l k
 unfold api_Object_89.f
 repeat' first
   | (with_reducible exact ih0 _ _ _)
   | (with_reducible exact batch_wrong.mono _ _ _ _ _ _ _ _ _ _ _ _ _)
   | (with_reducible exact LeO.refl _)
   | (with_reducible exact LeO.none _)
   | (with_reducible refine LeO.ite ?_ ?_)
   | (with_reducible refine LeO.bind ?_ (fun _ => ?_))
   | exact ih0 _ _ _
   | exact batch_wrong.mono _ _ _ _ _ _ _ _ _ _ _ _ _
   | exact LeO.none _
   | refine LeO.ite ?_ ?_
   | refine LeO.bind ?_ (fun _ => ?_)
theorem api_Object_89.calls (k : Nat) (A0 : Option Addr) (c0 : Nat) (l0 : List (S62))  (r : Int) (w : World) (hr0 : Kd.C k62 w A0 l0.length l0) (hc0 : l0.length ≤ c0) (h : api_Object_89.f k l0 = some r) :
  Calls Try.prog 89 #[.slice A0 l0.length c0, .func (Fn.func 73) #[] #[]] w fun e w' => e = .returned (.int .i64 r) ∧ Below w.heap.size w w' := by
 have hu62 := Try.underlying62; have HR0 := Aside0.mk hr0; have HC0 := Aside0.mk hc0; clear hr0 hc0; have HB := Aside0.mk (Below.refl w.heap.size w)
 have H : (api_Object_89.l0 k l0 (l0.length : Int) 0) = some r := h
 clear h
 have H' := Aside0.mk H
 clear H
 go_enter Try.func89, Try.ntmps89
 go_wp2
 go_loopg [8] k (fun kq v8 w' => ∃ (x8_1 : Int), v8 = .int .i64 x8_1 ∧ Aside0 (api_Object_89.l0 kq l0 (l0.length : Int) x8_1 = some r) ∧ Aside0 (kq ≤ k) ∧ Aside0 (Below w.heap.size w w'))
 case atStart => exact ⟨(0), gv, H', ⟨Nat.le_refl _⟩, ⟨uB HB⟩⟩
 case round =>
  clear H'; (try clear p2); obtain ⟨x8_1, rfl, HA, HK1, HB⟩ := hrel
  cases gk with
  | zero => exact absurd HA.out (by simp [api_Object_89.l0])
  | succ k1 =>
   have H := HA.out
   clear HA
   simp only [api_Object_89.l0] at H
   by_cases c3 : x8_1 < (l0.length : Int)
   ·rw [if_pos c3] at H
    have c3b0 := decide_eq_true c3; clear c3
    by_cases c4 : 0 ≤ x8_1
    rotate_left
    ·rw [if_neg c4] at H
     exact absurd H (by simp)
    rw [if_pos c4] at H; have c4b0 : decide (0 ≤ x8_1) = true := decide_eq_true c4; clear c4
    by_cases c5 : x8_1 < (l0.length : Int)
    rotate_left
    ·rw [if_neg c5] at H
     exact absurd H (by simp)
    rw [if_pos c5] at H; have c5b0 := decide_eq_true c5; clear c5; replace H := Option.bind_eq_some_iff.mp H; obtain ⟨t160, A60, H⟩ := H
    replace H : (if t160 = true then (some x8_1) else (api_Object_89.l0 k1 l0 (l0.length : Int) (wrap64 (x8_1 + 1)))) = some r := H
    have A6 := Aside0.mk A60; clear A60
    by_cases c7 : t160 = true
    ·subst c7
     rw [if_pos rfl] at H
     obtain rfl := Option.some.inj H
     have p159 : 0 ≤ (x8_1 : Int) := of_decide_eq_true gA
     have q159 : x8_1 < (l0.length : Int) := of_decide_eq_true gA
     obtain ⟨ad159, e159, hx159_0, hx159_1, hx159_2, hx159_3, hx159_4, hx159_5, hx159_6, hx159_7, hx159_8, hx159_9, hx159_10, hx159_11⟩ := at_T62 HR0.out x8_1 p159 q159
     cases e159
     replace hx159_0 := bc HB hx159_0; replace hx159_1 := bc HB hx159_1; replace hx159_2 := bc HB hx159_2; replace hx159_3 := bc HB hx159_3; replace hx159_4 := bc HB hx159_4; replace hx159_5 := bc HB hx159_5; replace hx159_6 := bc HB hx159_6; replace hx159_7 := bc HB hx159_7; replace hx159_8 := bc HB hx159_8; replace hx159_9 := bc HB hx159_9; replace hx159_10 := bc HB hx159_10; replace hx159_11 := bc HB hx159_11; replace p159 := eq_true p159; replace q159 := eq_true q159
     go_wp2_with (first | (go_at_call 73; (with_reducible refine (batch_wrong.calls k1 ((rd_T62 l0 x8_1).f0) ((rd_T62 l0 x8_1).f1) ((rd_T62 l0 x8_1).f2.f0) ((rd_T62 l0 x8_1).f2.f1) ((rd_T62 l0 x8_1).f2.f2) ((rd_T62 l0 x8_1).f2.f3) ((rd_T62 l0 x8_1).f2.f4) ((rd_T62 l0 x8_1).f2.f5) ((rd_T62 l0 x8_1).f3.f0) ((rd_T62 l0 x8_1).f3.f1) ((rd_T62 l0 x8_1).f3.f2) ((rd_T62 l0 x8_1).f4) true _ A6.out).mono ?_); rintro e w8 ⟨rfl, hb⟩; replace HB := bs HB hb; (try clear hb); (try clear hb2); (try clear hk); (try clear hi)))
     go_ret
     exact ⟨gE, uB HB⟩
    replace c7 := Bool.eq_false_iff.mpr c7
    subst c7
    rw [if_neg (show ¬ (false = true) by decide)] at H
    have H' := Aside0.mk H
    clear H
    have p159 : 0 ≤ (x8_1 : Int) := of_decide_eq_true gA
    have q159 : x8_1 < (l0.length : Int) := of_decide_eq_true gA
    obtain ⟨ad159, e159, hx159_0, hx159_1, hx159_2, hx159_3, hx159_4, hx159_5, hx159_6, hx159_7, hx159_8, hx159_9, hx159_10, hx159_11⟩ := at_T62 HR0.out x8_1 p159 q159
    cases e159
    replace hx159_0 := bc HB hx159_0; replace hx159_1 := bc HB hx159_1; replace hx159_2 := bc HB hx159_2; replace hx159_3 := bc HB hx159_3; replace hx159_4 := bc HB hx159_4; replace hx159_5 := bc HB hx159_5; replace hx159_6 := bc HB hx159_6; replace hx159_7 := bc HB hx159_7; replace hx159_8 := bc HB hx159_8; replace hx159_9 := bc HB hx159_9; replace hx159_10 := bc HB hx159_10; replace hx159_11 := bc HB hx159_11; replace p159 := eq_true p159; replace q159 := eq_true q159
    go_wp2_with (first | (go_at_call 73; (with_reducible refine (batch_wrong.calls k1 ((rd_T62 l0 x8_1).f0) ((rd_T62 l0 x8_1).f1) ((rd_T62 l0 x8_1).f2.f0) ((rd_T62 l0 x8_1).f2.f1) ((rd_T62 l0 x8_1).f2.f2) ((rd_T62 l0 x8_1).f2.f3) ((rd_T62 l0 x8_1).f2.f4) ((rd_T62 l0 x8_1).f2.f5) ((rd_T62 l0 x8_1).f3.f0) ((rd_T62 l0 x8_1).f3.f1) ((rd_T62 l0 x8_1).f3.f2) ((rd_T62 l0 x8_1).f4) false _ A6.out).mono ?_); rintro e w9 ⟨rfl, hb⟩; replace HB := bs HB hb; (try clear hb); (try clear hb2); (try clear hk); (try clear hi)))
    go_roundg k1
    case measure => have := HK1.out; omega
    case rel => exact ⟨(wrap64 (x8_1 + 1)), gv, H', ⟨by have := HK1.out; omega⟩, ⟨uB HB⟩⟩
   rw [if_neg c3] at H
   have c3b0 : decide (x8_1 < (l0.length : Int)) = false := decide_eq_false c3
   clear c3
   obtain rfl := Option.some.inj H
   go_wp2
   go_ret
   exact ⟨gE, uB HB⟩
def api_Object_72.f (k : Nat) (l0 : List (S62))  : Option (Bool) := (api_Object_89.f k l0).bind fun t161 => (some (decide (t161 ≥ 0)))
theorem api_Object_72.mono : ∀ a0 k, LeO (api_Object_72.f k a0) (api_Object_72.f (k + 1) a0) := by
 intro a0 k
 unfold api_Object_72.f
 repeat' first
   | (with_reducible exact api_Object_89.mono _ _)
   | (with_reducible exact LeO.refl _)
   | (with_reducible exact LeO.none _)
   | (with_reducible refine LeO.ite ?_ ?_)
   | (with_reducible refine LeO.bind ?_ (fun _ => ?_))
   | exact api_Object_89.mono _ _
   | exact LeO.none _
   | refine LeO.ite ?_ ?_
   | refine LeO.bind ?_ (fun _ => ?_)
theorem api_Object_72.calls (k : Nat) (A0 : Option Addr) (c0 : Nat) (l0 : List (S62))  (r : Bool) (w : World) (hr0 : Kd.C k62 w A0 l0.length l0) (hc0 : l0.length ≤ c0) (h : api_Object_72.f k l0 = some r) :
  Calls Try.prog 72 #[.slice A0 l0.length c0, .func (Fn.func 73) #[] #[]] w fun e w' => e = .returned (.bool r) ∧ Below w.heap.size w w' := by
 have HR0 := Aside0.mk hr0; have HC0 := Aside0.mk hc0; clear hr0 hc0; have HB := Aside0.mk (Below.refl w.heap.size w)
 have H : ((api_Object_89.f k l0).bind fun t161 => (some (decide (t161 ≥ 0)))) = some r := h
 clear h; replace H := Option.bind_eq_some_iff.mp H; obtain ⟨t161, A30, H⟩ := H
 replace H : (some (decide (t161 ≥ 0))) = some r := H
 have A3 := Aside0.mk A30; clear A30
 obtain rfl := Option.some.inj H
 go_enter Try.func72, Try.ntmps72
 go_wp2_with (first | ((with_reducible refine gate_callee (f := 89) rfl ?_); refine gL (some 7) Try.func89 #[.slice A0 l0.length c0, .func (Fn.func 73) #[] #[]] ?_; (with_reducible refine (api_Object_89.calls k _ _ l0  t161 _ ?side1 ?side2 A3.out).mono ?_); (case side1 => repeat (first | exact HR0.out | (with_reducible refine Kd.C_alloc ?_ _) | (with_reducible refine Kd.C_drewN ?_ _) | (with_reducible refine Kd.C_drew ?_))); (case side2 => exact HC0.out); rintro e w4 ⟨rfl, hb⟩; refine ⟨_, rfl, ?_⟩; replace HB := bs HB hb; (try clear hb); (try clear hb2); (try clear hk); (try clear hi)))
 go_ret
 exact ⟨gE, uB HB⟩
def wire_Int.f (a0 : Int) : Option (List Int) := (wire_bytes.f (IntKind.u64.wrap (a0)) 8).bind fun t162 => (some t162)
theorem wire_Int.calls (a0 : Int) (r : List Int) (w : World) (h : wire_Int.f a0 = some r) :
  Calls Try.prog 77 #[.int .i64 a0] w fun e w' => ∃ v0_ : Value, e = .returned (v0_) ∧ Kd.R (Kd.int .u8) 5 w' w.heap.size (fun _ => True) v0_ r ∧ Below w.heap.size w w' := by
 have HB := Aside0.mk (Below.refl w.heap.size w)
 have H : ((wire_bytes.f (IntKind.u64.wrap (a0)) 8).bind fun t162 => (some t162)) = some r := h
 clear h; replace H := Option.bind_eq_some_iff.mp H; obtain ⟨t162, A20, H⟩ := H
 replace H : (some t162) = some r := H
 have A2 := Aside0.mk A20; clear A20
 obtain rfl := Option.some.inj H
 go_enter Try.func77, Try.ntmps77
 go_wp2_with (first | ((with_reducible refine gate_callee (f := 30) rfl ?_); refine gL (some 5) Try.func30 #[.int .u64 (IntKind.u64.wrap (a0)), .int .i64 8] ?_; (with_reducible refine (wire_bytes.calls (IntKind.u64.wrap (a0)) 8 t162 _ A2.out).mono ?_); rintro e w3 ⟨v163, rfl, ho0, hb⟩; refine ⟨_, rfl, ?_⟩; have HO164 := Aside0.mk (Kd.R_lower ho0 (below_size (uB HB))); replace HB := bs HB hb; (try clear hb); (try clear hb2); (try clear hk); (try clear hi); (try clear ho0)))
 go_ret
 exact ⟨_, gE, by refine rR ?_; exact HO164.out, uB HB⟩
def height_Bytes.f (k : Nat) (a0_0 : Bool) (a0_1 : Int) (a0_2 : Int) (a0_3 : Int) (a0_4 : Int) (a0_5 : Int) : Option (List Int × Int) := (height_Check.f k a0_0 a0_1 a0_2 a0_3 a0_4 a0_5).bind fun t166 => (if t166 = 0 then (if a0_0 = true then (if ([] : List Int).length < 140737488355328 then ((some (([] : List Int) ++ [0] : List Int)).bind fun y167 => (if y167.length < 140737488355328 then (some ((y167 ++ [(a0_5) % 256]), 0)) else (none))) else (none)) else (if ([] : List Int).length < 140737488355328 then ((some (([] : List Int) ++ [1] : List Int)).bind fun y173 => ((wire_Int.f a0_1).bind fun t176 => (if y173.length + t176.length < 140737488355328 then ((some (y173 ++ t176 : List Int)).bind fun y179 => ((some (([(a0_2) % 256, (a0_3) % 256] : List Int) : List Int)).bind fun y182 => (if y179.length + y182.length < 140737488355328 then ((some (y179 ++ y182 : List Int)).bind fun y185 => ((wire_Int.f a0_4).bind fun t188 => (if y185.length + t188.length < 140737488355328 then ((some (y185 ++ t188 : List Int)).bind fun y191 => (if y191.length < 140737488355328 then (some ((y191 ++ [(a0_5) % 256]), 0)) else (none))) else (none)))) else (none)))) else (none)))) else (none))) else (some (([] : List Int), t166)))
theorem height_Bytes.mono : ∀ a0 a1 a2 a3 a4 a5 k, LeO (height_Bytes.f k a0 a1 a2 a3 a4 a5) (height_Bytes.f (k + 1) a0 a1 a2 a3 a4 a5) := by
 intro a0 a1 a2 a3 a4 a5 k
 unfold height_Bytes.f
 repeat' first
   | (with_reducible exact height_Check.mono _ _ _ _ _ _ _)
   | (with_reducible exact LeO.refl _)
   | (with_reducible exact LeO.none _)
   | (with_reducible refine LeO.ite ?_ ?_)
   | (with_reducible refine LeO.bind ?_ (fun _ => ?_))
   | exact height_Check.mono _ _ _ _ _ _ _
   | exact LeO.none _
   | refine LeO.ite ?_ ?_
   | refine LeO.bind ?_ (fun _ => ?_)
def height_Bytes.T7 : Bool × List (List Nat × List Nat) := (true, [([], []), ([], []), ([0, 1], [0, 1]), ([], []), ([3], [3]), ([4, 2], [4]), ([2, 5, 5], [2, 5]), ([6, 6, 0, 1, 2, 3, 4, 5, 6], [0, 6])])
def height_Bytes.B7 : List Nat := [0, 0, 3, 0, 8, 31, 63, 127]
theorem height_Bytes.tab7 : rtab .any (opsOf Try.f76 7) = height_Bytes.T7 := by kernel_rfl
theorem height_Bytes.bits7 : waitsOk height_Bytes.T7.2 height_Bytes.B7 = true := by kernel_rfl
def height_Bytes.T8 : Bool × List (List Nat × List Nat) := (true, [([], []), ([], []), ([1], [1]), ([2], [2]), ([], []), ([4], [4]), ([5], [5]), ([3, 6], [3, 6]), ([0, 7], [0, 7]), ([], []), ([9], [9]), ([10, 8], [10]), ([8, 11, 11], [8, 11]), ([12, 12, 0, 1, 2, 3, 4, 5, 6, 7, 8, 9, 10, 11, 12], [0, 12])])
def height_Bytes.B8 : List Nat := [0, 0, 2, 6, 0, 16, 48, 126, 255, 0, 512, 2047, 4095, 8191]
theorem height_Bytes.tab8 : rtab .any (opsOf Try.f76 8) = height_Bytes.T8 := by kernel_rfl
theorem height_Bytes.bits8 : waitsOk height_Bytes.T8.2 height_Bytes.B8 = true := by kernel_rfl
theorem height_Bytes.calls (k : Nat) (a0_0 : Bool) (a0_1 : Int) (a0_2 : Int) (a0_3 : Int) (a0_4 : Int) (a0_5 : Int) (r1 : List Int) (r2 : Int) (w : World) (h : height_Bytes.f k a0_0 a0_1 a0_2 a0_3 a0_4 a0_5 = some (r1, r2)) :
  Calls Try.prog 76 #[.agg #[.bool a0_0, .int .i64 a0_1, .int .i64 a0_2, .int .i64 a0_3, .int .i64 a0_4, .int .i64 a0_5]] w fun e w' => ∃ v0_ : Value, e = .returned (.tuple #[v0_, .int .i64 r2]) ∧ Kd.R (Kd.int .u8) 5 w' w.heap.size (fun _ => True) v0_ r1 ∧ Below w.heap.size w w' := by
 have hu58 := Try.underlying58; have HB := Aside0.mk (Below.refl w.heap.size w)
 have H : ((height_Check.f k a0_0 a0_1 a0_2 a0_3 a0_4 a0_5).bind fun t166 => (if t166 = 0 then (if a0_0 = true then (if ([] : List Int).length < 140737488355328 then ((some (([] : List Int) ++ [0] : List Int)).bind fun y167 => (if y167.length < 140737488355328 then (some ((y167 ++ [(a0_5) % 256]), 0)) else (none))) else (none)) else (if ([] : List Int).length < 140737488355328 then ((some (([] : List Int) ++ [1] : List Int)).bind fun y173 => ((wire_Int.f a0_1).bind fun t176 => (if y173.length + t176.length < 140737488355328 then ((some (y173 ++ t176 : List Int)).bind fun y179 => ((some (([(a0_2) % 256, (a0_3) % 256] : List Int) : List Int)).bind fun y182 => (if y179.length + y182.length < 140737488355328 then ((some (y179 ++ y182 : List Int)).bind fun y185 => ((wire_Int.f a0_4).bind fun t188 => (if y185.length + t188.length < 140737488355328 then ((some (y185 ++ t188 : List Int)).bind fun y191 => (if y191.length < 140737488355328 then (some ((y191 ++ [(a0_5) % 256]), 0)) else (none))) else (none)))) else (none)))) else (none)))) else (none))) else (some (([] : List Int), t166)))) = some (r1, r2) := h
 clear h; replace H := Option.bind_eq_some_iff.mp H; obtain ⟨t166, A20, H⟩ := H
 replace H : (if t166 = 0 then (if a0_0 = true then (if ([] : List Int).length < 140737488355328 then ((some (([] : List Int) ++ [0] : List Int)).bind fun y167 => (if y167.length < 140737488355328 then (some ((y167 ++ [(a0_5) % 256]), 0)) else (none))) else (none)) else (if ([] : List Int).length < 140737488355328 then ((some (([] : List Int) ++ [1] : List Int)).bind fun y173 => ((wire_Int.f a0_1).bind fun t176 => (if y173.length + t176.length < 140737488355328 then ((some (y173 ++ t176 : List Int)).bind fun y179 => ((some (([(a0_2) % 256, (a0_3) % 256] : List Int) : List Int)).bind fun y182 => (if y179.length + y182.length < 140737488355328 then ((some (y179 ++ y182 : List Int)).bind fun y185 => ((wire_Int.f a0_4).bind fun t188 => (if y185.length + t188.length < 140737488355328 then ((some (y185 ++ t188 : List Int)).bind fun y191 => (if y191.length < 140737488355328 then (some ((y191 ++ [(a0_5) % 256]), 0)) else (none))) else (none)))) else (none)))) else (none)))) else (none))) else (some (([] : List Int), t166))) = some (r1, r2) := H
 have A2 := Aside0.mk A20; clear A20
 by_cases c3 : t166 = 0
 ·rw [if_pos c3] at H
  have c3b0 : (t166 == 0) = true := beq_iff_eq.mpr c3
  have c3b1 : (t166 != 0) = false := bne_eq_false_iff_eq.mpr c3
  clear c3
  by_cases c4 : a0_0 = true
  ·subst c4
   rw [if_pos rfl] at H
   by_cases c5 : ([] : List Int).length < 140737488355328
   rotate_left
   ·rw [if_neg c5] at H
    exact absurd H (by simp)
   rw [if_pos c5] at H; have LMc5 := Aside0.mk c5; clear c5
   obtain ⟨y167, hy167⟩ : ∃ y_ : List Int, y_ = (([] : List Int) ++ [0]) := ⟨_, rfl⟩
   replace H : (if y167.length < 140737488355328 then (some ((y167 ++ [(a0_5) % 256]), 0)) else (none)) = some (r1, r2) := by first | (rw [hy167]; with_reducible exact H) | (have H2_ := (Option.bind_some _ _).symm.trans H; rw [hy167]; with_reducible exact H2_) | (have H2_ := (Option.bind_some _ _).symm.trans H; with_reducible exact H2_) | with_reducible exact H | (rw [hy167]; exact H) | exact H
   have Ny167 := Aside0.mk hy167; clear hy167
   by_cases c6 : y167.length < 140737488355328
   rotate_left
   ·rw [if_neg c6] at H
    exact absurd H (by simp)
   rw [if_pos c6] at H; have LMc6 := Aside0.mk c6; clear c6
   obtain ⟨y170, hy170⟩ : ∃ y_ : List Int, y_ = (y167 ++ [(a0_5) % 256]) := ⟨_, rfl⟩
   replace H : (some (y170, 0)) = some (r1, r2) := by first | (rw [hy170]; with_reducible exact H) | (have H2_ := (Option.bind_some _ _).symm.trans H; rw [hy170]; with_reducible exact H2_) | (have H2_ := (Option.bind_some _ _).symm.trans H; with_reducible exact H2_) | with_reducible exact H | (rw [hy170]; exact H) | exact H
   have Ny170 := Aside0.mk hy170; clear hy170
   simp only [Option.some.injEq, Prod.mk.injEq] at H
   obtain ⟨rfl, rfl⟩ := H
   go_enter Try.func76, Try.ntmps76
   go_wp2_with (first | ((with_reducible refine gate_dst (N := 1) rfl ?_); refine bx #[.bool true, .int .i64 a0_1, .int .i64 a0_2, .int .i64 a0_3, .int .i64 a0_4, .int .i64 a0_5] 58 ?_; intro gb165 hg w7 hbox hb; have BK165 := Aside0.mk hbox; have GW165 := ge HB hg; have GE165 := ge HB hg; replace HB := bs HB hb; clear hb hbox hg; obtain ⟨q8_0, q8_1, q8_2, q8_3, q8_4, q8_5⟩ := cA6 BK165; obtain ⟨f8_0, f8_1, f8_2, f8_3, f8_4, f8_5⟩ := fA6 BK165) | ((with_reducible refine gate_callee (f := 91) rfl ?_); refine gL (some 7) Try.func91 #[.agg #[.bool true, .int .i64 a0_1, .int .i64 a0_2, .int .i64 a0_3, .int .i64 a0_4, .int .i64 a0_5]] ?_; (with_reducible refine (height_Check.calls k true a0_1 a0_2 a0_3 a0_4 a0_5 t166 _ A2.out).mono ?_); rintro e w9 ⟨rfl, hb⟩; refine ⟨_, rfl, ?_⟩; replace BK165 := kb BK165 hb; replace HB := bs HB hb; (try clear hb); (try clear hb2); (try clear hk); (try clear hi); obtain ⟨q10_0, q10_1, q10_2, q10_3, q10_4, q10_5⟩ := cA6 BK165; obtain ⟨f10_0, f10_1, f10_2, f10_3, f10_4, f10_5⟩ := fA6 BK165) | ((with_reducible refine gate_builtin (b := .append) (xs := #[.tmp 13, .tmp 14]) rfl ?_); at_builtin; refine Kd.R_append (Kd.int .u8) (w0 := w) w.heap.size rfl (.tmp 13) (.tmp 14) 26 5 (.int .u8 0) 1 rfl Try.underlying26 info5 rfl (by decide) (by omega) (.slice none 0 0) ([] : List Int) 0 [.int .u8 0] (fun _ => True) (fun _ => False) rfl rfl ?aP (fun _ hk => hk.elim) ?aF ?aO ?aB ?aS ?aL ?_; (case aP => exact rfl); (case aB => exact (uB HB)); (case aF => exact (fun _ _ => trivial)); (case aO => exact ((Kd.R_nil _ _ _ _ (fun _ => True)))); (case aS => exact (below_size (uB HB))); (case aL => have := LMc5.out; omega); intro v168 w11 ho hb hg hat; rw [← Ny167.out] at ho; replace BK165 := Aside0.mk (blk_grown (uK BK165) hg (by simp [Value.ownBlock])); replace HB := Aside0.mk hb; have HO169 := Aside0.mk ho; clear ho hb hg hat; obtain ⟨q12_0, q12_1, q12_2, q12_3, q12_4, q12_5⟩ := cA6 BK165; obtain ⟨f12_0, f12_1, f12_2, f12_3, f12_4, f12_5⟩ := fA6 BK165) | ((with_reducible refine gate_builtin (b := .append) (xs := #[.tmp 36, .tmp 40]) rfl ?_); at_builtin; refine Kd.R_append (Kd.int .u8) (w0 := w) w.heap.size rfl (.tmp 36) (.tmp 40) 26 5 (.int .u8 0) 1 rfl Try.underlying26 info5 rfl (by decide) (by omega) v168 y167 ((a0_5) % 256) [.int .u8 ((a0_5) % 256)] (fun _ => True) (fun _ => False) rfl rfl ?aP (fun _ hk => hk.elim) ?aF ?aO ?aB ?aS ?aL ?_; (case aP => exact rfl); (case aB => exact (uB HB)); (case aF => exact (fun _ _ => trivial)); (case aO => exact (uR HO169)); (case aS => exact (below_size (uB HB))); (case aL => have := LMc6.out; omega); intro v171 w13 ho hb hg hat; rw [← Ny170.out] at ho; have n0_ := Aside0.mk (blk_grown (uK BK165) hg (Kd.R_ne HO169.out BK165.out (by decide))); have n1_ := Aside0.mk (hb); have n2_ := Aside0.mk (ho); clear BK165; clear HB; clear HO169; have BK165 := n0_; have HB := n1_; have HO172 := n2_; clear n0_ n1_ n2_; clear ho hb hg hat))
   go_ret2
   exact ⟨_, gE, by refine rR ?_; exact HO172.out, uB HB⟩
  replace c4 := Bool.eq_false_iff.mpr c4
  subst c4
  rw [if_neg (show ¬ (false = true) by decide)] at H
  by_cases c14 : ([] : List Int).length < 140737488355328
  rotate_left
  ·rw [if_neg c14] at H
   exact absurd H (by simp)
  rw [if_pos c14] at H; have LMc14 := Aside0.mk c14; clear c14
  obtain ⟨y173, hy173⟩ : ∃ y_ : List Int, y_ = (([] : List Int) ++ [1]) := ⟨_, rfl⟩
  replace H : ((wire_Int.f a0_1).bind fun t176 => (if y173.length + t176.length < 140737488355328 then ((some (y173 ++ t176 : List Int)).bind fun y179 => ((some (([(a0_2) % 256, (a0_3) % 256] : List Int) : List Int)).bind fun y182 => (if y179.length + y182.length < 140737488355328 then ((some (y179 ++ y182 : List Int)).bind fun y185 => ((wire_Int.f a0_4).bind fun t188 => (if y185.length + t188.length < 140737488355328 then ((some (y185 ++ t188 : List Int)).bind fun y191 => (if y191.length < 140737488355328 then (some ((y191 ++ [(a0_5) % 256]), 0)) else (none))) else (none)))) else (none)))) else (none))) = some (r1, r2) := by first | (rw [hy173]; with_reducible exact H) | (have H2_ := (Option.bind_some _ _).symm.trans H; rw [hy173]; with_reducible exact H2_) | (have H2_ := (Option.bind_some _ _).symm.trans H; with_reducible exact H2_) | with_reducible exact H | (rw [hy173]; exact H) | exact H
  have Ny173 := Aside0.mk hy173; clear hy173; replace H := Option.bind_eq_some_iff.mp H; obtain ⟨t176, A150, H⟩ := H
  replace H : (if y173.length + t176.length < 140737488355328 then ((some (y173 ++ t176 : List Int)).bind fun y179 => ((some (([(a0_2) % 256, (a0_3) % 256] : List Int) : List Int)).bind fun y182 => (if y179.length + y182.length < 140737488355328 then ((some (y179 ++ y182 : List Int)).bind fun y185 => ((wire_Int.f a0_4).bind fun t188 => (if y185.length + t188.length < 140737488355328 then ((some (y185 ++ t188 : List Int)).bind fun y191 => (if y191.length < 140737488355328 then (some ((y191 ++ [(a0_5) % 256]), 0)) else (none))) else (none)))) else (none)))) else (none)) = some (r1, r2) := H
  have A15 := Aside0.mk A150; clear A150
  by_cases c16 : y173.length + t176.length < 140737488355328
  rotate_left
  ·rw [if_neg c16] at H
   exact absurd H (by simp)
  rw [if_pos c16] at H; have LMc16 := Aside0.mk c16; clear c16
  obtain ⟨y179, hy179⟩ : ∃ y_ : List Int, y_ = (y173 ++ t176) := ⟨_, rfl⟩
  replace H : ((some (([(a0_2) % 256, (a0_3) % 256] : List Int) : List Int)).bind fun y182 => (if y179.length + y182.length < 140737488355328 then ((some (y179 ++ y182 : List Int)).bind fun y185 => ((wire_Int.f a0_4).bind fun t188 => (if y185.length + t188.length < 140737488355328 then ((some (y185 ++ t188 : List Int)).bind fun y191 => (if y191.length < 140737488355328 then (some ((y191 ++ [(a0_5) % 256]), 0)) else (none))) else (none)))) else (none))) = some (r1, r2) := by first | (rw [hy179]; with_reducible exact H) | (have H2_ := (Option.bind_some _ _).symm.trans H; rw [hy179]; with_reducible exact H2_) | (have H2_ := (Option.bind_some _ _).symm.trans H; with_reducible exact H2_) | with_reducible exact H | (rw [hy179]; exact H) | exact H
  have Ny179 := Aside0.mk hy179; clear hy179
  obtain ⟨y182, hy182⟩ : ∃ y_ : List Int, y_ = (([(a0_2) % 256, (a0_3) % 256] : List Int)) := ⟨_, rfl⟩
  replace H : (if y179.length + y182.length < 140737488355328 then ((some (y179 ++ y182 : List Int)).bind fun y185 => ((wire_Int.f a0_4).bind fun t188 => (if y185.length + t188.length < 140737488355328 then ((some (y185 ++ t188 : List Int)).bind fun y191 => (if y191.length < 140737488355328 then (some ((y191 ++ [(a0_5) % 256]), 0)) else (none))) else (none)))) else (none)) = some (r1, r2) := by first | (rw [hy182]; with_reducible exact H) | (have H2_ := (Option.bind_some _ _).symm.trans H; rw [hy182]; with_reducible exact H2_) | (have H2_ := (Option.bind_some _ _).symm.trans H; with_reducible exact H2_) | with_reducible exact H | (rw [hy182]; exact H) | exact H
  have Ny182 := Aside0.mk hy182; clear hy182
  by_cases c17 : y179.length + y182.length < 140737488355328
  rotate_left
  ·rw [if_neg c17] at H
   exact absurd H (by simp)
  rw [if_pos c17] at H; have LMc17 := Aside0.mk c17; clear c17
  obtain ⟨y185, hy185⟩ : ∃ y_ : List Int, y_ = (y179 ++ y182) := ⟨_, rfl⟩
  replace H : ((wire_Int.f a0_4).bind fun t188 => (if y185.length + t188.length < 140737488355328 then ((some (y185 ++ t188 : List Int)).bind fun y191 => (if y191.length < 140737488355328 then (some ((y191 ++ [(a0_5) % 256]), 0)) else (none))) else (none))) = some (r1, r2) := by first | (rw [hy185]; with_reducible exact H) | (have H2_ := (Option.bind_some _ _).symm.trans H; rw [hy185]; with_reducible exact H2_) | (have H2_ := (Option.bind_some _ _).symm.trans H; with_reducible exact H2_) | with_reducible exact H | (rw [hy185]; exact H) | exact H
  have Ny185 := Aside0.mk hy185; clear hy185; replace H := Option.bind_eq_some_iff.mp H; obtain ⟨t188, A180, H⟩ := H
  replace H : (if y185.length + t188.length < 140737488355328 then ((some (y185 ++ t188 : List Int)).bind fun y191 => (if y191.length < 140737488355328 then (some ((y191 ++ [(a0_5) % 256]), 0)) else (none))) else (none)) = some (r1, r2) := H
  have A18 := Aside0.mk A180; clear A180
  by_cases c19 : y185.length + t188.length < 140737488355328
  rotate_left
  ·rw [if_neg c19] at H
   exact absurd H (by simp)
  rw [if_pos c19] at H; have LMc19 := Aside0.mk c19; clear c19
  obtain ⟨y191, hy191⟩ : ∃ y_ : List Int, y_ = (y185 ++ t188) := ⟨_, rfl⟩
  replace H : (if y191.length < 140737488355328 then (some ((y191 ++ [(a0_5) % 256]), 0)) else (none)) = some (r1, r2) := by first | (rw [hy191]; with_reducible exact H) | (have H2_ := (Option.bind_some _ _).symm.trans H; rw [hy191]; with_reducible exact H2_) | (have H2_ := (Option.bind_some _ _).symm.trans H; with_reducible exact H2_) | with_reducible exact H | (rw [hy191]; exact H) | exact H
  have Ny191 := Aside0.mk hy191; clear hy191
  by_cases c20 : y191.length < 140737488355328
  rotate_left
  ·rw [if_neg c20] at H
   exact absurd H (by simp)
  rw [if_pos c20] at H; have LMc20 := Aside0.mk c20; clear c20
  obtain ⟨y194, hy194⟩ : ∃ y_ : List Int, y_ = (y191 ++ [(a0_5) % 256]) := ⟨_, rfl⟩
  replace H : (some (y194, 0)) = some (r1, r2) := by first | (rw [hy194]; with_reducible exact H) | (have H2_ := (Option.bind_some _ _).symm.trans H; rw [hy194]; with_reducible exact H2_) | (have H2_ := (Option.bind_some _ _).symm.trans H; with_reducible exact H2_) | with_reducible exact H | (rw [hy194]; exact H) | exact H
  have Ny194 := Aside0.mk hy194; clear hy194
  simp only [Option.some.injEq, Prod.mk.injEq] at H
  obtain ⟨rfl, rfl⟩ := H
  go_enter Try.func76, Try.ntmps76
  try go_wp2_with (first | ((with_reducible refine gate_dst (N := 1) rfl ?_); refine bx #[.bool false, .int .i64 a0_1, .int .i64 a0_2, .int .i64 a0_3, .int .i64 a0_4, .int .i64 a0_5] 58 ?_; intro gb165 hg w21 hbox hb; have BK165 := Aside0.mk hbox; have GW165 := ge HB hg; have GE165 := ge HB hg; replace HB := bs HB hb; clear hb hbox hg; obtain ⟨q22_0, q22_1, q22_2, q22_3, q22_4, q22_5⟩ := cA6 BK165; obtain ⟨f22_0, f22_1, f22_2, f22_3, f22_4, f22_5⟩ := fA6 BK165) | ((with_reducible refine gate_callee (f := 91) rfl ?_); refine gL (some 7) Try.func91 #[.agg #[.bool false, .int .i64 a0_1, .int .i64 a0_2, .int .i64 a0_3, .int .i64 a0_4, .int .i64 a0_5]] ?_; (with_reducible refine (height_Check.calls k false a0_1 a0_2 a0_3 a0_4 a0_5 t166 _ A2.out).mono ?_); rintro e w23 ⟨rfl, hb⟩; refine ⟨_, rfl, ?_⟩; replace BK165 := kb BK165 hb; replace HB := bs HB hb; (try clear hb); (try clear hb2); (try clear hk); (try clear hi); obtain ⟨q24_0, q24_1, q24_2, q24_3, q24_4, q24_5⟩ := cA6 BK165; obtain ⟨f24_0, f24_1, f24_2, f24_3, f24_4, f24_5⟩ := fA6 BK165))
  replace BK165 := Aside0.mk (blk_drew BK165.out); replace HB := Aside0.mk (below_drew1 HB.out)
  refine start_ (n := 8) (S := fun w' => w'.cell? ⟨gb165, 0, none⟩ = some (.bool false) ∧ w'.cell? ⟨gb165, 1, none⟩ = some (.int .i64 a0_1) ∧ w'.cell? ⟨gb165, 2, none⟩ = some (.int .i64 a0_2) ∧ w'.cell? ⟨gb165, 3, none⟩ = some (.int .i64 a0_3) ∧ w'.cell? ⟨gb165, 4, none⟩ = some (.int .i64 a0_4) ∧ w'.cell? ⟨gb165, 5, none⟩ = some (.int .i64 a0_5)) (ds := []) #[false, false, false, false, false, false, false, false] (by kernel_rfl) rfl rfl (cA6 BK165) (fun hHeld => ?_)
  refine with_tabW height_Bytes.tab7 height_Bytes.bits7 (fun HT_ HW_ => ?_)
  generalize w23.drew = w25 at BK165 HB hHeld ⊢
  refine pA 0 (some 16) ?_; refine pA 3 (some 19) ?_; refine tA 4 (some 20) ?_
  refine oA 1 (some 17) (fun K hK => ?_)
  refine value_ (w1 := ?_) (v := ?_) (by rfl) rfl ?_ ?_
  rotate_left 2
  ·go_simp
   constructor
   ·rfl
   rfl
  refine hK.out _ _ ⟨(blk_cell (blk_alloc BK165.out _) 0).trans rfl, (blk_cell (blk_alloc BK165.out _) 1).trans rfl, (blk_cell (blk_alloc BK165.out _) 2).trans rfl, (blk_cell (blk_alloc BK165.out _) 3).trans rfl, (blk_cell (blk_alloc BK165.out _) 4).trans rfl, (blk_cell (blk_alloc BK165.out _) 5).trans rfl⟩ (fun hHeld => ?_)
  clear hK K; refine nA 17 ?_
  refine oA 2 (some 18) (fun K hK => ?_)
  refine Kd.R_append_step (Kd.int .u8) (w0 := w) w.heap.size (by rfl) (.tmp 16) (.tmp 17) 26 5 (.int .u8 0) 1 rfl Try.underlying26 info5 rfl (by decide) (by omega) (.slice none 0 0) ([] : List Int) 1 [.int .u8 1] (fun _ => True) (fun _ => False) rfl rfl ?aP (fun _ hk => hk.elim) ?aF ?aO ?aB ?aS ?aL ?_
  (case aP => exact rfl)
  (case aB => exact (uB HB))
  (case aF => exact (fun _ _ => trivial))
  (case aO => exact ((Kd.R_nil _ _ _ _ (fun _ => True))))
  (case aS => exact (below_size (uB HB)))
  (case aL => have := LMc14.out; omega)
  intro v174 w26 ho hb hg hat
  rw [← Ny173.out] at ho
  replace BK165 := Aside0.mk (blk_grown (uK BK165) hg (by simp [Value.ownBlock])); replace HB := Aside0.mk hb; have HO175 := Aside0.mk ho; clear ho hb hg hat
  refine hK.out _ _ (cA6 BK165) (fun hHeld => ?_)
  clear hK K; refine nA 18 ?_
  refine oA 5 (some 21) (fun K hK => ?_)
  refine gR Try.func77 #[.int .i64 a0_1] ?_
  with_reducible refine (wire_Int.calls a0_1 t176 _ A15.out).mono ?_
  rintro e w27 ⟨v177, rfl, ho0, hb⟩
  refine ⟨_, rfl, ?_⟩
  have HO178 := Aside0.mk (Kd.R_lower (Kd.R_new' ho0 (Kd.R_lt (uR HO175))) (below_size (uB HB))); replace HO175 := Aside0.mk (Kd.R_elder' (uR HO175) (Kd.R_base ho0) hb); replace BK165 := kb BK165 hb; replace HB := bs HB hb; (try clear hb); (try clear hb2); (try clear hk); (try clear hi); (try clear ho0); obtain ⟨Ao29, co29, eo29⟩ := Kd.R_slice HO178.out
  (first | subst eo29 | (injection eo29 with f1_ f2_ f3_; have f4_ := f1_.symm; have f5_ := f3_.symm; clear f1_ f2_ f3_; subst f4_; subst f5_))
  refine hK.out _ _ (cA6 BK165) (fun hHeld => ?_)
  clear hK K; refine nA 21 ?_
  refine oA 6 (some 22) (fun K hK => ?_)
  refine Kd.R_append_rows_step (Kd.int .u8) (w0 := w) w.heap.size (by rfl) (.tmp 18) (.tmp 21) 26 5 (.int .u8 0) 1 rfl Try.underlying26 info5 rfl (by decide) (by omega) v174 y173 t176 _ _ _ (fun k_ => some k_ ≠ (.slice Ao29 t176.length co29 : Value).ownBlock) (fun _ => False) rfl rfl ?aO ?aR (fun _ _ h => h) (fun _ h => h.elim) ?aF ?aB ?aS ?aL ?_
  (case aR => exact rC (Kd.R_reads' HO178.out).2.2)
  (case aB => exact (uB HB))
  (case aF => exact (fun k_ hk => Kd.fresh' (Kd.R_lt (uR HO178)) k_ hk))
  (case aO => exact (mR HO175))
  (case aS => exact (below_size (uB HB)))
  (case aL => have := LMc16.out; omega)
  intro v180 w28 ho hb hg hat
  rw [← Ny179.out] at ho
  have n0_ := Aside0.mk (blk_grown (uK BK165) hg (Kd.R_ne HO175.out BK165.out (by decide))); have n1_ := Aside0.mk (Kd.R_after (ok := (fun _ => True)) (uR HO178) hg hat); have n2_ := Aside0.mk (hb); have n3_ := Aside0.mk (ho); clear BK165; clear HO178; clear HB; clear HO175; have BK165 := n0_; have HO178 := n1_; have HB := n2_; have HO181 := n3_; clear n0_ n1_ n2_ n3_; clear ho hb hg hat
  refine hK.out _ _ (cA6 BK165) (fun hHeld => ?_)
  clear hK K; refine nA 22 ?_; refine pA 7 (some 5) ?_
  refine dA ?_
  try go_wp2
  replace HO178 := Aside0.mk (Kd.R_drew HO178.out); replace HO181 := Aside0.mk (Kd.R_drew HO181.out); replace BK165 := Aside0.mk (blk_drew BK165.out); replace HB := Aside0.mk (below_drew1 HB.out)
  refine start_ (n := 14) (S := fun w' => w'.cell? ⟨gb165, 0, none⟩ = some (.bool false) ∧ w'.cell? ⟨gb165, 1, none⟩ = some (.int .i64 a0_1) ∧ w'.cell? ⟨gb165, 2, none⟩ = some (.int .i64 a0_2) ∧ w'.cell? ⟨gb165, 3, none⟩ = some (.int .i64 a0_3) ∧ w'.cell? ⟨gb165, 4, none⟩ = some (.int .i64 a0_4) ∧ w'.cell? ⟨gb165, 5, none⟩ = some (.int .i64 a0_5)) (ds := []) #[false, false, false, false, false, false, false, false, false, false, false, false, false, false] (by kernel_rfl) rfl rfl (cA6 BK165) (fun hHeld => ?_)
  refine with_tabW height_Bytes.tab8 height_Bytes.bits8 (fun HT_ HW_ => ?_)
  generalize w28.drew = w30 at HO178 HO181 BK165 HB hHeld ⊢
  refine pA 0 (some 23) ?_; refine pA 1 (some 24) ?_; refine pA 4 (some 27) ?_; refine pA 9 (some 32) ?_; refine tA 2 (some 25) ?_; refine pA 3 (some 26) ?_; refine tA 5 (some 28) ?_; refine pA 6 (some 29) ?_; refine tA 10 (some 33) ?_
  refine oA 7 (some 30) (fun K hK => ?_)
  refine Kd.R_lit_step (Kd.int .u8) _ 5 ?hg (N := 30) ?hd (xs := ([(a0_2) % 256, (a0_3) % 256] : List Int)) (inner := [.int .u8 ((a0_2) % 256), .int .u8 ((a0_3) % 256)]) (ok := fun _ => True) (okp := fun _ => True) ?hr ?hp (fun _ hk => hk) trivial (Below.refl _ _) (Nat.le_refl _) (by simp) ?_
  (case hd => rfl)
  (case hg => rfl)
  (case hr => first | (go_simp; done) | (go_simp; rfl))
  (case hp => exact (Reps.one (show Kd.M (Kd.int .u8) _ _ _ ((a0_2) % 256) [.int .u8 ((a0_2) % 256)] from rfl) (Reps.one (show Kd.M (Kd.int .u8) _ _ _ ((a0_3) % 256) [.int .u8 ((a0_3) % 256)] from rfl) (Reps.none _ _))))
  intro v183 w31 ho32 hb hg_ hnew_
  clear hg_ hnew_
  (first | rw [← Ny182.out] at ho32 | (simp only [Int.reduceToNat] at ho32; rw [← Ny182.out] at ho32))
  have HO184 := Aside0.mk (Kd.R_lower (Kd.R_new' (Kd.R_new' ho32 (Kd.R_lt (uR HO178))) (Kd.R_lt (uR HO181))) (below_size (uB HB))); replace HO178 := Aside0.mk (Kd.R_elder' (uR HO178) (Kd.R_base ho32) hb); replace HO181 := Aside0.mk (Kd.R_elder' (uR HO181) (Kd.R_base ho32) hb); replace BK165 := kb BK165 hb; replace HB := bs HB hb; clear hb ho32; obtain ⟨Ao34, co34, eo34⟩ := Kd.R_slice HO184.out
  (first | subst eo34 | (injection eo34 with f1_ f2_ f3_; have f4_ := f1_.symm; have f5_ := f3_.symm; clear f1_ f2_ f3_; subst f4_; subst f5_))
  refine hK.out _ _ (cA6 BK165) (fun hHeld => ?_)
  clear hK K; refine nA 30 ?_
  refine oA 8 (some 31) (fun K hK => ?_)
  refine Kd.R_append_rows_step (Kd.int .u8) (w0 := w) w.heap.size (by rfl) (.tmp 23) (.tmp 30) 26 5 (.int .u8 0) 1 rfl Try.underlying26 info5 rfl (by decide) (by omega) v180 y179 y182 _ _ _ (fun k_ => some k_ ≠ (.slice Ao29 t176.length co29 : Value).ownBlock ∧ some k_ ≠ (.slice Ao34 y182.length co34 : Value).ownBlock) (fun _ => False) rfl rfl ?aO ?aR (fun _ _ h => h) (fun _ h => h.elim) ?aF ?aB ?aS ?aL ?_
  (case aR => exact rC (Kd.R_reads' HO184.out).2.2)
  (case aB => exact (uB HB))
  (case aF => exact (fun k_ hk => ⟨Kd.fresh' (Kd.R_lt (uR HO178)) k_ hk, Kd.fresh' (Kd.R_lt (uR HO184)) k_ hk⟩))
  (case aO => exact (uR HO181))
  (case aS => exact (below_size (uB HB)))
  (case aL => have := LMc17.out; omega)
  intro v186 w33 ho hb hg hat
  rw [← Ny185.out] at ho
  have n0_ := Aside0.mk (blk_grown (uK BK165) hg (Kd.R_ne HO181.out BK165.out (by decide))); have n1_ := Aside0.mk (Kd.R_after (ok := (fun k_ => some k_ ≠ (.slice Ao34 y182.length co34 : Value).ownBlock)) (mR HO178) hg hat); have n2_ := Aside0.mk (Kd.R_after (ok := (fun k_ => some k_ ≠ (.slice Ao29 t176.length co29 : Value).ownBlock)) (mR HO184) hg hat); have n3_ := Aside0.mk (hb); have n4_ := Aside0.mk (ho); clear BK165; clear HO178; clear HO184; clear HB; clear HO181; have BK165 := n0_; have HO178 := n1_; have HO184 := n2_; have HB := n3_; have HO187 := n4_; clear n0_ n1_ n2_ n3_ n4_; clear ho hb hg hat
  refine hK.out _ _ (cA6 BK165) (fun hHeld => ?_)
  clear hK K; refine nA 31 ?_
  refine oA 11 (some 34) (fun K hK => ?_)
  refine gR Try.func77 #[.int .i64 a0_4] ?_
  with_reducible refine (wire_Int.calls a0_4 t188 _ A18.out).mono ?_
  rintro e w35 ⟨v189, rfl, ho0, hb⟩
  refine ⟨_, rfl, ?_⟩
  have HO190 := Aside0.mk (Kd.R_lower (Kd.R_new' (Kd.R_new' (Kd.R_new' ho0 (Kd.R_lt (uR HO178))) (Kd.R_lt (uR HO184))) (Kd.R_lt (uR HO187))) (below_size (uB HB))); replace HO178 := Aside0.mk (Kd.R_elder' (uR HO178) (Kd.R_base ho0) hb); replace HO184 := Aside0.mk (Kd.R_elder' (uR HO184) (Kd.R_base ho0) hb); replace HO187 := Aside0.mk (Kd.R_elder' (uR HO187) (Kd.R_base ho0) hb); replace BK165 := kb BK165 hb; replace HB := bs HB hb; (try clear hb); (try clear hb2); (try clear hk); (try clear hi); (try clear ho0); obtain ⟨Ao37, co37, eo37⟩ := Kd.R_slice HO190.out
  (first | subst eo37 | (injection eo37 with f1_ f2_ f3_; have f4_ := f1_.symm; have f5_ := f3_.symm; clear f1_ f2_ f3_; subst f4_; subst f5_))
  refine hK.out _ _ (cA6 BK165) (fun hHeld => ?_)
  clear hK K; refine nA 34 ?_
  refine oA 12 (some 35) (fun K hK => ?_)
  refine Kd.R_append_rows_step (Kd.int .u8) (w0 := w) w.heap.size (by rfl) (.tmp 31) (.tmp 34) 26 5 (.int .u8 0) 1 rfl Try.underlying26 info5 rfl (by decide) (by omega) v186 y185 t188 _ _ _ (fun k_ => some k_ ≠ (.slice Ao29 t176.length co29 : Value).ownBlock ∧ some k_ ≠ (.slice Ao34 y182.length co34 : Value).ownBlock ∧ some k_ ≠ (.slice Ao37 t188.length co37 : Value).ownBlock) (fun _ => False) rfl rfl ?aO ?aR (fun _ _ h => h) (fun _ h => h.elim) ?aF ?aB ?aS ?aL ?_
  (case aR => exact rC (Kd.R_reads' HO190.out).2.2)
  (case aB => exact (uB HB))
  (case aF => exact (fun k_ hk => ⟨Kd.fresh' (Kd.R_lt (uR HO178)) k_ hk, Kd.fresh' (Kd.R_lt (uR HO184)) k_ hk, Kd.fresh' (Kd.R_lt (uR HO190)) k_ hk⟩))
  (case aO => exact (by refine rR ?_; exact Kd.R_mono HO187.out (fun _ hk => by first | exact ⟨hk.1.1, ⟨hk.1.2, hk.2⟩⟩ | exact trivial | (simp [hk]; done) | simp_all)))
  (case aS => exact (below_size (uB HB)))
  (case aL => have := LMc19.out; omega)
  intro v192 w36 ho hb hg hat
  rw [← Ny191.out] at ho
  have n0_ := Aside0.mk (blk_grown (uK BK165) hg (Kd.R_ne HO187.out BK165.out (by decide))); have n1_ := Aside0.mk (Kd.R_after (ok := (fun k_ => some k_ ≠ (.slice Ao34 y182.length co34 : Value).ownBlock ∧ some k_ ≠ (.slice Ao37 t188.length co37 : Value).ownBlock)) (by refine rR ?_; exact Kd.R_mono HO178.out (fun _ hk => by first | exact ⟨⟨hk.1.1, hk.2⟩, hk.1.2⟩ | exact trivial | (simp [hk]; done) | simp_all)) hg hat); have n2_ := Aside0.mk (Kd.R_after (ok := (fun k_ => some k_ ≠ (.slice Ao29 t176.length co29 : Value).ownBlock ∧ some k_ ≠ (.slice Ao37 t188.length co37 : Value).ownBlock)) (by refine rR ?_; exact Kd.R_mono HO184.out (fun _ hk => by first | exact ⟨⟨hk.1.1, hk.2⟩, hk.1.2⟩ | exact trivial | (simp [hk]; done) | simp_all)) hg hat); have n3_ := Aside0.mk (Kd.R_after (ok := (fun k_ => some k_ ≠ (.slice Ao29 t176.length co29 : Value).ownBlock ∧ some k_ ≠ (.slice Ao34 y182.length co34 : Value).ownBlock)) (by refine rR ?_; exact Kd.R_mono HO190.out (fun _ hk => by first | exact ⟨⟨hk.1.1.2, hk.1.2⟩, hk.2⟩ | exact trivial | (simp [hk]; done) | simp_all)) hg hat); have n4_ := Aside0.mk (hb); have n5_ := Aside0.mk (ho); clear BK165; clear HO178; clear HO184; clear HO190; clear HB; clear HO187; have BK165 := n0_; have HO178 := n1_; have HO184 := n2_; have HO190 := n3_; have HB := n4_; have HO193 := n5_; clear n0_ n1_ n2_ n3_ n4_ n5_; clear ho hb hg hat
  refine hK.out _ _ (cA6 BK165) (fun hHeld => ?_)
  clear hK K; refine nA 35 ?_; refine pA 13 (some 5) ?_
  refine dA ?_
  obtain ⟨q38_0, q38_1, q38_2, q38_3, q38_4, q38_5⟩ := cA6 BK165; obtain ⟨f38_0, f38_1, f38_2, f38_3, f38_4, f38_5⟩ := fA6 BK165
  try go_wp2_with (first | ((with_reducible refine gate_builtin (b := .append) (xs := #[.tmp 36, .tmp 40]) rfl ?_); at_builtin; refine Kd.R_append (Kd.int .u8) (w0 := w) w.heap.size rfl (.tmp 36) (.tmp 40) 26 5 (.int .u8 0) 1 rfl Try.underlying26 info5 rfl (by decide) (by omega) v192 y191 ((a0_5) % 256) [.int .u8 ((a0_5) % 256)] (fun k_ => some k_ ≠ (.slice Ao29 t176.length co29 : Value).ownBlock ∧ some k_ ≠ (.slice Ao34 y182.length co34 : Value).ownBlock ∧ some k_ ≠ (.slice Ao37 t188.length co37 : Value).ownBlock) (fun _ => False) rfl rfl ?aP (fun _ hk => hk.elim) ?aF ?aO ?aB ?aS ?aL ?_; (case aP => exact rfl); (case aB => exact (uB HB)); (case aF => exact (fun k_ hk => ⟨Kd.fresh' (Kd.R_lt (uR HO178)) k_ hk, Kd.fresh' (Kd.R_lt (uR HO184)) k_ hk, Kd.fresh' (Kd.R_lt (uR HO190)) k_ hk⟩)); (case aO => exact (uR HO193)); (case aS => exact (below_size (uB HB))); (case aL => have := LMc20.out; omega); intro v195 w39 ho hb hg hat; rw [← Ny194.out] at ho; have n0_ := Aside0.mk (blk_grown (uK BK165) hg (Kd.R_ne HO193.out BK165.out (by decide))); have n1_ := Aside0.mk (Kd.R_after (ok := (fun k_ => some k_ ≠ (.slice Ao34 y182.length co34 : Value).ownBlock ∧ some k_ ≠ (.slice Ao37 t188.length co37 : Value).ownBlock)) (uR HO178) hg hat); have n2_ := Aside0.mk (Kd.R_after (ok := (fun k_ => some k_ ≠ (.slice Ao29 t176.length co29 : Value).ownBlock ∧ some k_ ≠ (.slice Ao37 t188.length co37 : Value).ownBlock)) (uR HO184) hg hat); have n3_ := Aside0.mk (Kd.R_after (ok := (fun k_ => some k_ ≠ (.slice Ao29 t176.length co29 : Value).ownBlock ∧ some k_ ≠ (.slice Ao34 y182.length co34 : Value).ownBlock)) (uR HO190) hg hat); have n4_ := Aside0.mk (hb); have n5_ := Aside0.mk (ho); clear BK165; clear HO178; clear HO184; clear HO190; clear HB; clear HO193; have BK165 := n0_; have HO178 := n1_; have HO184 := n2_; have HO190 := n3_; have HB := n4_; have HO196 := n5_; clear n0_ n1_ n2_ n3_ n4_ n5_; clear ho hb hg hat))
  go_ret2
  exact ⟨_, gE, by refine rR ?_; exact Kd.R_mono HO196.out (fun _ hk => trivial), uB HB⟩
 rw [if_neg c3] at H
 have c3b0 : (t166 == 0) = false := beq_eq_false_iff_ne.mpr c3
 have c3b1 : (t166 != 0) = true := bne_iff_ne.mpr c3
 simp only [Option.some.injEq, Prod.mk.injEq] at H
 obtain ⟨rfl, rfl⟩ := H
 go_enter Try.func76, Try.ntmps76
 go_wp2_with (first | ((with_reducible refine gate_dst (N := 1) rfl ?_); refine bx #[.bool a0_0, .int .i64 a0_1, .int .i64 a0_2, .int .i64 a0_3, .int .i64 a0_4, .int .i64 a0_5] 58 ?_; intro gb165 hg w40 hbox hb; have BK165 := Aside0.mk hbox; have GW165 := ge HB hg; have GE165 := ge HB hg; replace HB := bs HB hb; clear hb hbox hg; obtain ⟨q41_0, q41_1, q41_2, q41_3, q41_4, q41_5⟩ := cA6 BK165; obtain ⟨f41_0, f41_1, f41_2, f41_3, f41_4, f41_5⟩ := fA6 BK165) | ((with_reducible refine gate_callee (f := 91) rfl ?_); refine gL (some 7) Try.func91 #[.agg #[.bool a0_0, .int .i64 a0_1, .int .i64 a0_2, .int .i64 a0_3, .int .i64 a0_4, .int .i64 a0_5]] ?_; (with_reducible refine (height_Check.calls k a0_0 a0_1 a0_2 a0_3 a0_4 a0_5 t166 _ A2.out).mono ?_); rintro e w42 ⟨rfl, hb⟩; refine ⟨_, rfl, ?_⟩; replace BK165 := kb BK165 hb; replace HB := bs HB hb; (try clear hb); (try clear hb2); (try clear hk); (try clear hi)))
 go_ret2
 exact ⟨_, gE, gO, uB HB⟩
def object_Bytes.j0 : Nat → List Int → Int → Bool → Int → Int → Bool → Int → Int → Int → Int → Int → Int → Int → Int → Int → Option (List Int × Int)
 | 0, _, _, _, _, _, _, _, _, _, _, _, _, _, _, _ => none
 | k + 1, x5, x21, x22, x198000, x198001, x198002, x198003, x198004, x198005, x198006, x198007, x198008, x198009, x198010, x198011 => if x22 = true then ((height_Bytes.f k x198002 x198003 x198004 x198005 x198006 x198007).bind fun bt202 => (if bt202.2 = 0 then (if x5.length + bt202.1.length < 140737488355328 then ((some (x5 ++ bt202.1 : List Int)).bind fun y206 => (if x198000 = 4 then ((some (([(x198011 / 256) % 256, (x198011) % 256] : List Int) : List Int)).bind fun y209 => (if y206.length + y209.length < 140737488355328 then (some ((y206 ++ y209), 0)) else (none))) else (some (y206, 0)))) else (none)) else (some (([] : List Int), bt202.2)))) else (if x21 = 3 then ((wire_Int.f x198008).bind fun t215 => (if x5.length + t215.length < 140737488355328 then ((some (x5 ++ t215 : List Int)).bind fun y218 => ((some (([(x198009) % 256, (x198010) % 256] : List Int) : List Int)).bind fun y221 => (if y218.length + y221.length < 140737488355328 then ((some (y218 ++ y221 : List Int)).bind fun y224 => (if x198000 = 4 then ((some (([(x198011 / 256) % 256, (x198011) % 256] : List Int) : List Int)).bind fun y227 => (if y224.length + y227.length < 140737488355328 then (some ((y224 ++ y227), 0)) else (none))) else (some (y224, 0)))) else (none)))) else (none))) else (if x198000 = 4 then ((some (([(x198011 / 256) % 256, (x198011) % 256] : List Int) : List Int)).bind fun y233 => (if x5.length + y233.length < 140737488355328 then (some ((x5 ++ y233), 0)) else (none))) else (some (x5, 0))))
def object_Bytes.f (k : Nat) (a0_0 : Int) (a0_1 : Int) (a0_2 : Bool) (a0_3 : Int) (a0_4 : Int) (a0_5 : Int) (a0_6 : Int) (a0_7 : Int) (a0_8 : Int) (a0_9 : Int) (a0_10 : Int) (a0_11 : Int) : Option (List Int × Int) := (object_Check.f k a0_0 a0_1 a0_2 a0_3 a0_4 a0_5 a0_6 a0_7 a0_8 a0_9 a0_10 a0_11).bind fun t198 => (if t198 = 0 then ((some (([(a0_0) % 256, (a0_1) % 256] : List Int) : List Int)).bind fun y199 => (if a0_0 = 2 then (object_Bytes.j0 k y199 a0_0 (a0_0 == 2) a0_0 a0_1 a0_2 a0_3 a0_4 a0_5 a0_6 a0_7 a0_8 a0_9 a0_10 a0_11) else (object_Bytes.j0 k y199 a0_0 (a0_0 == 4) a0_0 a0_1 a0_2 a0_3 a0_4 a0_5 a0_6 a0_7 a0_8 a0_9 a0_10 a0_11))) else (some (([] : List Int), t198)))
theorem object_Bytes.mono_l : ∀ k, (∀ y0 y1 y2 y3 y4 y5 y6 y7 y8 y9 y10 y11 y12 y13 y14, LeO (object_Bytes.j0 k y0 y1 y2 y3 y4 y5 y6 y7 y8 y9 y10 y11 y12 y13 y14) (object_Bytes.j0 (k + 1) y0 y1 y2 y3 y4 y5 y6 y7 y8 y9 y10 y11 y12 y13 y14))
 | 0 => fun _ _ _ _ _ _ _ _ _ _ _ _ _ _ _ r h => by simp [object_Bytes.j0] at h
 | k + 1 => by
  have ih0 := object_Bytes.mono_l k
  ·intro y0 y1 y2 y3 y4 y5 y6 y7 y8 y9 y10 y11 y12 y13 y14
   unfold object_Bytes.j0
   repeat' first
   | (with_reducible exact ih0 _ _ _ _ _ _ _ _ _ _ _ _ _ _ _)
   | (with_reducible exact height_Bytes.mono _ _ _ _ _ _ _)
   | (with_reducible exact object_Check.mono _ _ _ _ _ _ _ _ _ _ _ _ _)
   | (with_reducible exact LeO.refl _)
   | (with_reducible exact LeO.none _)
   | (with_reducible refine LeO.ite ?_ ?_)
   | (with_reducible refine LeO.bind ?_ (fun _ => ?_))
   | exact ih0 _ _ _ _ _ _ _ _ _ _ _ _ _ _ _
   | exact height_Bytes.mono _ _ _ _ _ _ _
   | exact object_Check.mono _ _ _ _ _ _ _ _ _ _ _ _ _
   | exact LeO.none _
   | refine LeO.ite ?_ ?_
   | refine LeO.bind ?_ (fun _ => ?_)
theorem object_Bytes.mono : ∀ a0 a1 a2 a3 a4 a5 a6 a7 a8 a9 a10 a11 k, LeO (object_Bytes.f k a0 a1 a2 a3 a4 a5 a6 a7 a8 a9 a10 a11) (object_Bytes.f (k + 1) a0 a1 a2 a3 a4 a5 a6 a7 a8 a9 a10 a11) := by
 intro a0 a1 a2 a3 a4 a5 a6 a7 a8 a9 a10 a11 k
 have ih0 := object_Bytes.mono_l k
 unfold object_Bytes.f
 repeat' first
   | (with_reducible exact ih0 _ _ _ _ _ _ _ _ _ _ _ _ _ _ _)
   | (with_reducible exact height_Bytes.mono _ _ _ _ _ _ _)
   | (with_reducible exact object_Check.mono _ _ _ _ _ _ _ _ _ _ _ _ _)
   | (with_reducible exact LeO.refl _)
   | (with_reducible exact LeO.none _)
   | (with_reducible refine LeO.ite ?_ ?_)
   | (with_reducible refine LeO.bind ?_ (fun _ => ?_))
   | exact ih0 _ _ _ _ _ _ _ _ _ _ _ _ _ _ _
   | exact height_Bytes.mono _ _ _ _ _ _ _
   | exact object_Check.mono _ _ _ _ _ _ _ _ _ _ _ _ _
   | exact LeO.none _
   | refine LeO.ite ?_ ?_
   | refine LeO.bind ?_ (fun _ => ?_)
def object_Bytes.T13 : Bool × List (List Nat × List Nat) := (true, [([], []), ([], []), ([1], [1]), ([2], [2]), ([3], [3]), ([0, 4, 4], [0, 4]), ([], []), ([6], [6]), ([7], [7]), ([8], [8]), ([], []), ([10], [10]), ([11], [11]), ([12], [12]), ([9, 13], [9, 13]), ([5, 14, 5], [5, 14]), ([15, 15, 0, 1, 2, 3, 4, 5, 6, 7, 8, 9, 10, 11, 12, 13, 14, 15], [0, 15])])
def object_Bytes.B13 : List Nat := [0, 0, 2, 6, 14, 31, 0, 64, 192, 448, 0, 1024, 3072, 7168, 16320, 32767, 65535]
theorem object_Bytes.tab13 : rtab .any (opsOf Try.f54 13) = object_Bytes.T13 := by kernel_rfl
theorem object_Bytes.bits13 : waitsOk object_Bytes.T13.2 object_Bytes.B13 = true := by kernel_rfl
theorem object_Bytes.calls (k : Nat) (a0_0 : Int) (a0_1 : Int) (a0_2 : Bool) (a0_3 : Int) (a0_4 : Int) (a0_5 : Int) (a0_6 : Int) (a0_7 : Int) (a0_8 : Int) (a0_9 : Int) (a0_10 : Int) (a0_11 : Int) (r1 : List Int) (r2 : Int) (w : World) (h : object_Bytes.f k a0_0 a0_1 a0_2 a0_3 a0_4 a0_5 a0_6 a0_7 a0_8 a0_9 a0_10 a0_11 = some (r1, r2)) :
  Calls Try.prog 54 #[.agg #[.int .i64 a0_0, .int .i64 a0_1, .bool a0_2, .int .i64 a0_3, .int .i64 a0_4, .int .i64 a0_5, .int .i64 a0_6, .int .i64 a0_7, .int .i64 a0_8, .int .i64 a0_9, .int .i64 a0_10, .int .i64 a0_11]] w fun e w' => ∃ v0_ : Value, e = .returned (.tuple #[v0_, .int .i64 r2]) ∧ Kd.R (Kd.int .u8) 5 w' w.heap.size (fun _ => True) v0_ r1 ∧ Below w.heap.size w w' := by
 have hu62 := Try.underlying62; have hu58 := Try.underlying58; have HB := Aside0.mk (Below.refl w.heap.size w)
 have H : ((object_Check.f k a0_0 a0_1 a0_2 a0_3 a0_4 a0_5 a0_6 a0_7 a0_8 a0_9 a0_10 a0_11).bind fun t198 => (if t198 = 0 then ((some (([(a0_0) % 256, (a0_1) % 256] : List Int) : List Int)).bind fun y199 => (if a0_0 = 2 then (object_Bytes.j0 k y199 a0_0 (a0_0 == 2) a0_0 a0_1 a0_2 a0_3 a0_4 a0_5 a0_6 a0_7 a0_8 a0_9 a0_10 a0_11) else (object_Bytes.j0 k y199 a0_0 (a0_0 == 4) a0_0 a0_1 a0_2 a0_3 a0_4 a0_5 a0_6 a0_7 a0_8 a0_9 a0_10 a0_11))) else (some (([] : List Int), t198)))) = some (r1, r2) := h
 clear h; replace H := Option.bind_eq_some_iff.mp H; obtain ⟨t198, A20, H⟩ := H
 replace H : (if t198 = 0 then ((some (([(a0_0) % 256, (a0_1) % 256] : List Int) : List Int)).bind fun y199 => (if a0_0 = 2 then (object_Bytes.j0 k y199 a0_0 (a0_0 == 2) a0_0 a0_1 a0_2 a0_3 a0_4 a0_5 a0_6 a0_7 a0_8 a0_9 a0_10 a0_11) else (object_Bytes.j0 k y199 a0_0 (a0_0 == 4) a0_0 a0_1 a0_2 a0_3 a0_4 a0_5 a0_6 a0_7 a0_8 a0_9 a0_10 a0_11))) else (some (([] : List Int), t198))) = some (r1, r2) := H
 have A2 := Aside0.mk A20; clear A20
 by_cases c3 : t198 = 0
 ·rw [if_pos c3] at H
  have c3b0 : (t198 == 0) = true := beq_iff_eq.mpr c3
  have c3b1 : (t198 != 0) = false := bne_eq_false_iff_eq.mpr c3
  clear c3
  obtain ⟨y199, hy199⟩ : ∃ y_ : List Int, y_ = (([(a0_0) % 256, (a0_1) % 256] : List Int)) := ⟨_, rfl⟩
  replace H : (if a0_0 = 2 then (object_Bytes.j0 k y199 a0_0 (a0_0 == 2) a0_0 a0_1 a0_2 a0_3 a0_4 a0_5 a0_6 a0_7 a0_8 a0_9 a0_10 a0_11) else (object_Bytes.j0 k y199 a0_0 (a0_0 == 4) a0_0 a0_1 a0_2 a0_3 a0_4 a0_5 a0_6 a0_7 a0_8 a0_9 a0_10 a0_11)) = some (r1, r2) := by first | (rw [hy199]; with_reducible exact H) | (have H2_ := (Option.bind_some _ _).symm.trans H; rw [hy199]; with_reducible exact H2_) | (have H2_ := (Option.bind_some _ _).symm.trans H; with_reducible exact H2_) | with_reducible exact H | (rw [hy199]; exact H) | exact H
  have Ny199 := Aside0.mk hy199; clear hy199; have HC4 := Aside0.mk H; clear H
  go_enter Try.func54, Try.ntmps54
  go_upto_if 22 with (first | ((with_reducible refine gate_dst (N := 1) rfl ?_); refine bx #[.int .i64 a0_0, .int .i64 a0_1, .bool a0_2, .int .i64 a0_3, .int .i64 a0_4, .int .i64 a0_5, .int .i64 a0_6, .int .i64 a0_7, .int .i64 a0_8, .int .i64 a0_9, .int .i64 a0_10, .int .i64 a0_11] 62 ?_; intro gb197 hg w5 hbox hb; have BK197 := Aside0.mk hbox; have GW197 := ge HB hg; have GE197 := ge HB hg; replace HB := bs HB hb; clear hb hbox hg; obtain ⟨q6_0, q6_1, q6_2, q6_3, q6_4, q6_5, q6_6, q6_7, q6_8, q6_9, q6_10, q6_11⟩ := cA12 BK197; obtain ⟨f6_0, f6_1, f6_2, f6_3, f6_4, f6_5, f6_6, f6_7, f6_8, f6_9, f6_10, f6_11⟩ := fA12 BK197) | ((with_reducible refine gate_callee (f := 75) rfl ?_); refine gL (some 9) Try.func75 #[.agg #[.int .i64 a0_0, .int .i64 a0_1, .bool a0_2, .int .i64 a0_3, .int .i64 a0_4, .int .i64 a0_5, .int .i64 a0_6, .int .i64 a0_7, .int .i64 a0_8, .int .i64 a0_9, .int .i64 a0_10, .int .i64 a0_11]] ?_; (with_reducible refine (object_Check.calls k a0_0 a0_1 a0_2 a0_3 a0_4 a0_5 a0_6 a0_7 a0_8 a0_9 a0_10 a0_11 t198 _ A2.out).mono ?_); rintro e w7 ⟨rfl, hb⟩; refine ⟨_, rfl, ?_⟩; replace BK197 := kb BK197 hb; replace HB := bs HB hb; (try clear hb); (try clear hb2); (try clear hk); (try clear hi); obtain ⟨q8_0, q8_1, q8_2, q8_3, q8_4, q8_5, q8_6, q8_7, q8_8, q8_9, q8_10, q8_11⟩ := cA12 BK197; obtain ⟨f8_0, f8_1, f8_2, f8_3, f8_4, f8_5, f8_6, f8_7, f8_8, f8_9, f8_10, f8_11⟩ := fA12 BK197) | ((with_reducible refine gate_dst (N := 19) rfl ?_); refine Kd.R_lit (Kd.int .u8) _ 5 ?hg (N := 19) ?hd (xs := ([(a0_0) % 256, (a0_1) % 256] : List Int)) (inner := [.int .u8 ((a0_0) % 256), .int .u8 ((a0_1) % 256)]) (ok := fun _ => True) (okp := fun _ => True) ?hr ?hp (fun _ hk => hk) trivial (Below.refl _ _) (Nat.le_refl _) (by simp) ?_; (case hd => rfl); (case hg => rfl); (case hr => first | (go_simp; done) | (go_simp; rfl)); (case hp => exact (Reps.one (show Kd.M (Kd.int .u8) _ _ _ ((a0_0) % 256) [.int .u8 ((a0_0) % 256)] from rfl) (Reps.one (show Kd.M (Kd.int .u8) _ _ _ ((a0_1) % 256) [.int .u8 ((a0_1) % 256)] from rfl) (Reps.none _ _)))); intro v200 w9 ho10 hb hg_ hnew_; clear hg_ hnew_; (first | rw [← Ny199.out] at ho10 | (simp only [Int.reduceToNat] at ho10; rw [← Ny199.out] at ho10)); have HO201 := Aside0.mk (Kd.R_lower ho10 (below_size (uB HB))); replace BK197 := kb BK197 hb; replace HB := bs HB hb; clear hb ho10; obtain ⟨q11_0, q11_1, q11_2, q11_3, q11_4, q11_5, q11_6, q11_7, q11_8, q11_9, q11_10, q11_11⟩ := cA12 BK197; obtain ⟨f11_0, f11_1, f11_2, f11_3, f11_4, f11_5, f11_6, f11_7, f11_8, f11_9, f11_10, f11_11⟩ := fA12 BK197))
  (try simp only [Act.put, List.setIfInBounds_toArray, List.set_cons_zero, List.set_cons_succ])
  go_cut [22] (fun v22 wc => ∃ (kq : Nat) (x22_3 : Bool), v22 = .bool x22_3 ∧ Aside0 (object_Bytes.j0 kq y199 a0_0 x22_3 a0_0 a0_1 a0_2 a0_3 a0_4 a0_5 a0_6 a0_7 a0_8 a0_9 a0_10 a0_11 = some (r1, r2)) ∧ Aside0 (kq ≤ k) ∧ Aside0 (Kd.R (Kd.int .u8) 5 wc w.heap.size (fun _ => True) v200 y199) ∧ Aside0 (wc.heap[gb197]? = some (.cells #[.int .i64 a0_0, .int .i64 a0_1, .bool a0_2, .int .i64 a0_3, .int .i64 a0_4, .int .i64 a0_5, .int .i64 a0_6, .int .i64 a0_7, .int .i64 a0_8, .int .i64 a0_9, .int .i64 a0_10, .int .i64 a0_11] 62 (0, 0))) ∧ Aside0 (Below w.heap.size w wc))
  case first =>
   have H := HC4.out
   clear HC4
   by_cases c12 : a0_0 = 2
   ·rw [if_pos c12] at H
    have c12b0 : (a0_0 == 2) = true := beq_iff_eq.mpr c12
    have c12b1 : (a0_0 != 2) = false := bne_eq_false_iff_eq.mpr c12
    clear c12
    (first | rw [c12b0] | (simp only [i64_w, i32_w]; rw [c12b0]) | rw [c12b1] | skip)
    have H' := Aside0.mk H
    clear H
    go_wp2
    go_meet
    case rel => exact ⟨_, ((a0_0 == 2)), gv, H', ⟨by first | omega | exact Nat.le_refl _⟩, ⟨uR HO201⟩, ⟨uK BK197⟩, ⟨uB HB⟩⟩
   rw [if_neg c12] at H
   have c12b0 : (a0_0 == 2) = false := beq_eq_false_iff_ne.mpr c12
   have c12b1 : (a0_0 != 2) = true := bne_iff_ne.mpr c12
   (first | rw [c12b0] | (simp only [i64_w, i32_w]; rw [c12b0]) | rw [c12b1] | skip)
   have H' := Aside0.mk H
   clear H
   go_wp2
   go_meet
   case rel => exact ⟨_, ((a0_0 == 4)), gv, H', ⟨by first | omega | exact Nat.le_refl _⟩, ⟨uR HO201⟩, ⟨uK BK197⟩, ⟨uB HB⟩⟩
  case rest =>
   clear HC4; (try clear c1); (try clear p2); (try clear c3); (try clear c3b0); (try clear c3b1); (try clear c5); (try clear c7); (try clear c12); (try clear c12b0); (try clear c12b1); (try clear q11_0); (try clear q11_1); (try clear q11_10); (try clear q11_11); (try clear q11_2); (try clear q11_3); (try clear q11_4); (try clear q11_5); (try clear q11_6); (try clear q11_7); (try clear q11_8); (try clear q11_9); (try clear q6_0); (try clear q6_1); (try clear q6_10); (try clear q6_11); (try clear q6_2); (try clear q6_3); (try clear q6_4); (try clear q6_5); (try clear q6_6); (try clear q6_7); (try clear q6_8); (try clear q6_9); (try clear q8_0); (try clear q8_1); (try clear q8_10); (try clear q8_11); (try clear q8_2); (try clear q8_3); (try clear q8_4); (try clear q8_5); (try clear q8_6); (try clear q8_7); (try clear q8_8); (try clear q8_9); (try clear f11_0); (try clear f11_1); (try clear f11_10); (try clear f11_11); (try clear f11_2); (try clear f11_3); (try clear f11_4); (try clear f11_5); (try clear f11_6); (try clear f11_7); (try clear f11_8); (try clear f11_9); (try clear f6_0); (try clear f6_1); (try clear f6_10); (try clear f6_11); (try clear f6_2); (try clear f6_3); (try clear f6_4); (try clear f6_5); (try clear f6_6); (try clear f6_7); (try clear f6_8); (try clear f6_9); (try clear f8_0); (try clear f8_1); (try clear f8_10); (try clear f8_11); (try clear f8_2); (try clear f8_3); (try clear f8_4); (try clear f8_5); (try clear f8_6); (try clear f8_7); (try clear f8_8); (try clear f8_9); obtain ⟨kq, x22_3, rfl, HA, HJ3, HO_5, BK197, HB⟩ := hcut
   cases kq with
   | zero => exact absurd HA.out (by simp [object_Bytes.j0])
   | succ kj3 =>
    have H := HA.out
    clear HA
    simp only [object_Bytes.j0] at H
    by_cases c13 : x22_3 = true
    ·subst c13
     have H1 : ((height_Bytes.f kj3 a0_2 a0_3 a0_4 a0_5 a0_6 a0_7).bind fun bt202 => (if bt202.2 = 0 then (if y199.length + bt202.1.length < 140737488355328 then ((some (y199 ++ bt202.1 : List Int)).bind fun y206 => (if a0_0 = 4 then ((some (([(a0_11 / 256) % 256, (a0_11) % 256] : List Int) : List Int)).bind fun y209 => (if y206.length + y209.length < 140737488355328 then (some ((y206 ++ y209), 0)) else (none))) else (some (y206, 0)))) else (none)) else (some (([] : List Int), bt202.2)))) = some (r1, r2) := by rw [if_pos rfl] at H; exact H
     clear H; have H := H1; clear H1; replace H := Option.bind_eq_some_iff.mp H
     obtain ⟨⟨t202, t205⟩, A140, H⟩ := H
     replace H : (if t205 = 0 then (if y199.length + t202.length < 140737488355328 then ((some (y199 ++ t202 : List Int)).bind fun y206 => (if a0_0 = 4 then ((some (([(a0_11 / 256) % 256, (a0_11) % 256] : List Int) : List Int)).bind fun y209 => (if y206.length + y209.length < 140737488355328 then (some ((y206 ++ y209), 0)) else (none))) else (some (y206, 0)))) else (none)) else (some (([] : List Int), t205))) = some (r1, r2) := H
     have A14 := Aside0.mk A140; clear A140
     by_cases c15 : t205 = 0
     ·rw [if_pos c15] at H
      have c15b0 : (t205 == 0) = true := beq_iff_eq.mpr c15
      have c15b1 : (t205 != 0) = false := bne_eq_false_iff_eq.mpr c15
      clear c15
      by_cases c16 : y199.length + t202.length < 140737488355328
      rotate_left
      ·rw [if_neg c16] at H
       exact absurd H (by simp)
      rw [if_pos c16] at H; have LMc16 := Aside0.mk c16; clear c16
      obtain ⟨y206, hy206⟩ : ∃ y_ : List Int, y_ = (y199 ++ t202) := ⟨_, rfl⟩
      replace H : (if a0_0 = 4 then ((some (([(a0_11 / 256) % 256, (a0_11) % 256] : List Int) : List Int)).bind fun y209 => (if y206.length + y209.length < 140737488355328 then (some ((y206 ++ y209), 0)) else (none))) else (some (y206, 0))) = some (r1, r2) := by first | (rw [hy206]; with_reducible exact H) | (have H2_ := (Option.bind_some _ _).symm.trans H; rw [hy206]; with_reducible exact H2_) | (have H2_ := (Option.bind_some _ _).symm.trans H; with_reducible exact H2_) | with_reducible exact H | (rw [hy206]; exact H) | exact H
      have Ny206 := Aside0.mk hy206; clear hy206
      by_cases c17 : a0_0 = 4
      ·rw [if_pos c17] at H
       have c17b0 : (a0_0 == 4) = true := beq_iff_eq.mpr c17
       have c17b1 : (a0_0 != 4) = false := bne_eq_false_iff_eq.mpr c17
       clear c17
       obtain ⟨y209, hy209⟩ : ∃ y_ : List Int, y_ = (([(a0_11 / 256) % 256, (a0_11) % 256] : List Int)) := ⟨_, rfl⟩
       replace H : (if y206.length + y209.length < 140737488355328 then (some ((y206 ++ y209), 0)) else (none)) = some (r1, r2) := by first | (rw [hy209]; with_reducible exact H) | (have H2_ := (Option.bind_some _ _).symm.trans H; rw [hy209]; with_reducible exact H2_) | (have H2_ := (Option.bind_some _ _).symm.trans H; with_reducible exact H2_) | with_reducible exact H | (rw [hy209]; exact H) | exact H
       have Ny209 := Aside0.mk hy209; clear hy209
       by_cases c18 : y206.length + y209.length < 140737488355328
       rotate_left
       ·rw [if_neg c18] at H
        exact absurd H (by simp)
       rw [if_pos c18] at H; have LMc18 := Aside0.mk c18; clear c18
       obtain ⟨y212, hy212⟩ : ∃ y_ : List Int, y_ = (y206 ++ y209) := ⟨_, rfl⟩
       replace H : (some (y212, 0)) = some (r1, r2) := by first | (rw [hy212]; with_reducible exact H) | (have H2_ := (Option.bind_some _ _).symm.trans H; rw [hy212]; with_reducible exact H2_) | (have H2_ := (Option.bind_some _ _).symm.trans H; with_reducible exact H2_) | with_reducible exact H | (rw [hy212]; exact H) | exact H
       have Ny212 := Aside0.mk hy212; clear hy212
       simp only [Option.some.injEq, Prod.mk.injEq] at H
       obtain ⟨rfl, rfl⟩ := H; obtain ⟨q19_0, q19_1, q19_2, q19_3, q19_4, q19_5, q19_6, q19_7, q19_8, q19_9, q19_10, q19_11⟩ := cA12 BK197; obtain ⟨f19_0, f19_1, f19_2, f19_3, f19_4, f19_5, f19_6, f19_7, f19_8, f19_9, f19_10, f19_11⟩ := fA12 BK197
       go_wp2_with (first | ((with_reducible refine gate_callee (f := 76) rfl ?_); refine gL (some 28) Try.func76 #[.agg #[.bool a0_2, .int .i64 a0_3, .int .i64 a0_4, .int .i64 a0_5, .int .i64 a0_6, .int .i64 a0_7]] ?_; (with_reducible refine (height_Bytes.calls kj3 a0_2 a0_3 a0_4 a0_5 a0_6 a0_7 t202 t205 _ A14.out).mono ?_); rintro e w20 ⟨v203, rfl, ho0, hb⟩; refine ⟨_, rfl, ?_⟩; have HO204 := Aside0.mk (Kd.R_lower (Kd.R_new' ho0 (Kd.R_lt (uR HO_5))) (below_size (uB HB))); replace HO_5 := Aside0.mk (Kd.R_elder' (uR HO_5) (Kd.R_base ho0) hb); replace BK197 := kb BK197 hb; replace HB := bs HB hb; (try clear hb); (try clear hb2); (try clear hk); (try clear hi); (try clear ho0); obtain ⟨Ao22, co22, eo22⟩ := Kd.R_slice HO204.out; subst eo22) | ((with_reducible refine gate_builtin (b := .append) (xs := #[.tmp 34, .tmp 35]) rfl ?_); at_builtin; refine Kd.R_append_rows (Kd.int .u8) (w0 := w) w.heap.size rfl (.tmp 34) (.tmp 35) 26 5 (.int .u8 0) 1 rfl Try.underlying26 info5 rfl (by decide) (by omega) v200 y199 t202 _ _ _ (fun k_ => some k_ ≠ (.slice Ao22 t202.length co22 : Value).ownBlock) (fun _ => False) rfl rfl ?aO ?aR (fun _ _ h => h) (fun _ h => h.elim) ?aF ?aB ?aS ?aL ?_; (case aR => exact rC (Kd.R_reads' HO204.out).2.2); (case aB => exact (uB HB)); (case aF => exact (fun k_ hk => Kd.fresh' (Kd.R_lt (uR HO204)) k_ hk)); (case aO => exact (mR HO_5)); (case aS => exact (below_size (uB HB))); (case aL => have := LMc16.out; omega); intro v207 w21 ho hb hg hat; rw [← Ny206.out] at ho; have n0_ := Aside0.mk (blk_grown (uK BK197) hg (Kd.R_ne HO_5.out BK197.out (by decide))); have n1_ := Aside0.mk (Kd.R_after (ok := (fun _ => True)) (uR HO204) hg hat); have n2_ := Aside0.mk (hb); have n3_ := Aside0.mk (ho); clear BK197; clear HO204; clear HB; clear HO_5; have BK197 := n0_; have HO204 := n1_; have HB := n2_; have HO208 := n3_; clear n0_ n1_ n2_ n3_; clear ho hb hg hat; obtain ⟨q23_0, q23_1, q23_2, q23_3, q23_4, q23_5, q23_6, q23_7, q23_8, q23_9, q23_10, q23_11⟩ := cA12 BK197; obtain ⟨f23_0, f23_1, f23_2, f23_3, f23_4, f23_5, f23_6, f23_7, f23_8, f23_9, f23_10, f23_11⟩ := fA12 BK197) | ((with_reducible refine gate_dst (N := 66) rfl ?_); refine Kd.R_lit (Kd.int .u8) _ 5 ?hg (N := 66) ?hd (xs := ([(a0_11 / 256) % 256, (a0_11) % 256] : List Int)) (inner := [.int .u8 ((a0_11 / 256) % 256), .int .u8 ((a0_11) % 256)]) (ok := fun _ => True) (okp := fun _ => True) ?hr ?hp (fun _ hk => hk) trivial (Below.refl _ _) (Nat.le_refl _) (by simp) ?_; (case hd => rfl); (case hg => rfl); (case hr => first | (go_simp; done) | (go_simp; rfl)); (case hp => exact (Reps.one (show Kd.M (Kd.int .u8) _ _ _ ((a0_11 / 256) % 256) [.int .u8 ((a0_11 / 256) % 256)] from rfl) (Reps.one (show Kd.M (Kd.int .u8) _ _ _ ((a0_11) % 256) [.int .u8 ((a0_11) % 256)] from rfl) (Reps.none _ _)))); intro v210 w24 ho25 hb hg_ hnew_; clear hg_ hnew_; (first | rw [← Ny209.out] at ho25 | (simp only [Int.reduceToNat] at ho25; rw [← Ny209.out] at ho25)); have HO211 := Aside0.mk (Kd.R_lower (Kd.R_new' (Kd.R_new' ho25 (Kd.R_lt (uR HO204))) (Kd.R_lt (uR HO208))) (below_size (uB HB))); replace HO204 := Aside0.mk (Kd.R_elder' (uR HO204) (Kd.R_base ho25) hb); replace HO208 := Aside0.mk (Kd.R_elder' (uR HO208) (Kd.R_base ho25) hb); replace BK197 := kb BK197 hb; replace HB := bs HB hb; clear hb ho25; obtain ⟨Ao27, co27, eo27⟩ := Kd.R_slice HO211.out; subst eo27) | ((with_reducible refine gate_builtin (b := .append) (xs := #[.tmp 58, .tmp 66]) rfl ?_); at_builtin; refine Kd.R_append_rows (Kd.int .u8) (w0 := w) w.heap.size rfl (.tmp 58) (.tmp 66) 26 5 (.int .u8 0) 1 rfl Try.underlying26 info5 rfl (by decide) (by omega) v207 y206 y209 _ _ _ (fun k_ => some k_ ≠ (.slice Ao22 t202.length co22 : Value).ownBlock ∧ some k_ ≠ (.slice Ao27 y209.length co27 : Value).ownBlock) (fun _ => False) rfl rfl ?aO ?aR (fun _ _ h => h) (fun _ h => h.elim) ?aF ?aB ?aS ?aL ?_; (case aR => exact rC (Kd.R_reads' HO211.out).2.2); (case aB => exact (uB HB)); (case aF => exact (fun k_ hk => ⟨Kd.fresh' (Kd.R_lt (uR HO204)) k_ hk, Kd.fresh' (Kd.R_lt (uR HO211)) k_ hk⟩)); (case aO => exact (uR HO208)); (case aS => exact (below_size (uB HB))); (case aL => have := LMc18.out; omega); intro v213 w26 ho hb hg hat; rw [← Ny212.out] at ho; have n0_ := Aside0.mk (blk_grown (uK BK197) hg (Kd.R_ne HO208.out BK197.out (by decide))); have n1_ := Aside0.mk (Kd.R_after (ok := (fun k_ => some k_ ≠ (.slice Ao27 y209.length co27 : Value).ownBlock)) (mR HO204) hg hat); have n2_ := Aside0.mk (Kd.R_after (ok := (fun k_ => some k_ ≠ (.slice Ao22 t202.length co22 : Value).ownBlock)) (mR HO211) hg hat); have n3_ := Aside0.mk (hb); have n4_ := Aside0.mk (ho); clear BK197; clear HO204; clear HO211; clear HB; clear HO208; have BK197 := n0_; have HO204 := n1_; have HO211 := n2_; have HB := n3_; have HO214 := n4_; clear n0_ n1_ n2_ n3_ n4_; clear ho hb hg hat))
       go_ret2
       exact ⟨_, gE, by refine rR ?_; exact Kd.R_mono HO214.out (fun _ hk => trivial), uB HB⟩
      rw [if_neg c17] at H
      have c17b0 : (a0_0 == 4) = false := beq_eq_false_iff_ne.mpr c17
      have c17b1 : (a0_0 != 4) = true := bne_iff_ne.mpr c17
      simp only [Option.some.injEq, Prod.mk.injEq] at H
      obtain ⟨rfl, rfl⟩ := H; obtain ⟨q28_0, q28_1, q28_2, q28_3, q28_4, q28_5, q28_6, q28_7, q28_8, q28_9, q28_10, q28_11⟩ := cA12 BK197; obtain ⟨f28_0, f28_1, f28_2, f28_3, f28_4, f28_5, f28_6, f28_7, f28_8, f28_9, f28_10, f28_11⟩ := fA12 BK197
      go_wp2_with (first | ((with_reducible refine gate_callee (f := 76) rfl ?_); refine gL (some 28) Try.func76 #[.agg #[.bool a0_2, .int .i64 a0_3, .int .i64 a0_4, .int .i64 a0_5, .int .i64 a0_6, .int .i64 a0_7]] ?_; (with_reducible refine (height_Bytes.calls kj3 a0_2 a0_3 a0_4 a0_5 a0_6 a0_7 t202 t205 _ A14.out).mono ?_); rintro e w29 ⟨v203, rfl, ho0, hb⟩; refine ⟨_, rfl, ?_⟩; have HO204 := Aside0.mk (Kd.R_lower (Kd.R_new' ho0 (Kd.R_lt (uR HO_5))) (below_size (uB HB))); replace HO_5 := Aside0.mk (Kd.R_elder' (uR HO_5) (Kd.R_base ho0) hb); replace BK197 := kb BK197 hb; replace HB := bs HB hb; (try clear hb); (try clear hb2); (try clear hk); (try clear hi); (try clear ho0); obtain ⟨Ao31, co31, eo31⟩ := Kd.R_slice HO204.out; subst eo31) | ((with_reducible refine gate_builtin (b := .append) (xs := #[.tmp 34, .tmp 35]) rfl ?_); at_builtin; refine Kd.R_append_rows (Kd.int .u8) (w0 := w) w.heap.size rfl (.tmp 34) (.tmp 35) 26 5 (.int .u8 0) 1 rfl Try.underlying26 info5 rfl (by decide) (by omega) v200 y199 t202 _ _ _ (fun k_ => some k_ ≠ (.slice Ao31 t202.length co31 : Value).ownBlock) (fun _ => False) rfl rfl ?aO ?aR (fun _ _ h => h) (fun _ h => h.elim) ?aF ?aB ?aS ?aL ?_; (case aR => exact rC (Kd.R_reads' HO204.out).2.2); (case aB => exact (uB HB)); (case aF => exact (fun k_ hk => Kd.fresh' (Kd.R_lt (uR HO204)) k_ hk)); (case aO => exact (mR HO_5)); (case aS => exact (below_size (uB HB))); (case aL => have := LMc16.out; omega); intro v207 w30 ho hb hg hat; rw [← Ny206.out] at ho; have n0_ := Aside0.mk (blk_grown (uK BK197) hg (Kd.R_ne HO_5.out BK197.out (by decide))); have n1_ := Aside0.mk (Kd.R_after (ok := (fun _ => True)) (uR HO204) hg hat); have n2_ := Aside0.mk (hb); have n3_ := Aside0.mk (ho); clear BK197; clear HO204; clear HB; clear HO_5; have BK197 := n0_; have HO204 := n1_; have HB := n2_; have HO208 := n3_; clear n0_ n1_ n2_ n3_; clear ho hb hg hat; obtain ⟨q32_0, q32_1, q32_2, q32_3, q32_4, q32_5, q32_6, q32_7, q32_8, q32_9, q32_10, q32_11⟩ := cA12 BK197; obtain ⟨f32_0, f32_1, f32_2, f32_3, f32_4, f32_5, f32_6, f32_7, f32_8, f32_9, f32_10, f32_11⟩ := fA12 BK197))
      go_ret2
      exact ⟨_, gE, by refine rR ?_; exact Kd.R_mono HO208.out (fun _ hk => trivial), uB HB⟩
     rw [if_neg c15] at H
     have c15b0 : (t205 == 0) = false := beq_eq_false_iff_ne.mpr c15
     have c15b1 : (t205 != 0) = true := bne_iff_ne.mpr c15
     simp only [Option.some.injEq, Prod.mk.injEq] at H
     obtain ⟨rfl, rfl⟩ := H; obtain ⟨q33_0, q33_1, q33_2, q33_3, q33_4, q33_5, q33_6, q33_7, q33_8, q33_9, q33_10, q33_11⟩ := cA12 BK197; obtain ⟨f33_0, f33_1, f33_2, f33_3, f33_4, f33_5, f33_6, f33_7, f33_8, f33_9, f33_10, f33_11⟩ := fA12 BK197
     go_wp2_with (first | ((with_reducible refine gate_callee (f := 76) rfl ?_); refine gL (some 28) Try.func76 #[.agg #[.bool a0_2, .int .i64 a0_3, .int .i64 a0_4, .int .i64 a0_5, .int .i64 a0_6, .int .i64 a0_7]] ?_; (with_reducible refine (height_Bytes.calls kj3 a0_2 a0_3 a0_4 a0_5 a0_6 a0_7 t202 t205 _ A14.out).mono ?_); rintro e w34 ⟨v203, rfl, ho0, hb⟩; refine ⟨_, rfl, ?_⟩; have HO204 := Aside0.mk (Kd.R_lower (Kd.R_new' ho0 (Kd.R_lt (uR HO_5))) (below_size (uB HB))); replace HO_5 := Aside0.mk (Kd.R_elder' (uR HO_5) (Kd.R_base ho0) hb); replace BK197 := kb BK197 hb; replace HB := bs HB hb; (try clear hb); (try clear hb2); (try clear hk); (try clear hi); (try clear ho0)))
     go_ret2
     exact ⟨_, gE, gO, uB HB⟩
    replace c13 := Bool.eq_false_iff.mpr c13
    subst c13
    rw [if_neg (show ¬ (false = true) by decide)] at H
    by_cases c35 : a0_0 = 3
    ·rw [if_pos c35] at H
     have c35b0 : (a0_0 == 3) = true := beq_iff_eq.mpr c35
     have c35b1 : (a0_0 != 3) = false := bne_eq_false_iff_eq.mpr c35
     clear c35; replace H := Option.bind_eq_some_iff.mp H; obtain ⟨t215, A360, H⟩ := H
     replace H : (if y199.length + t215.length < 140737488355328 then ((some (y199 ++ t215 : List Int)).bind fun y218 => ((some (([(a0_9) % 256, (a0_10) % 256] : List Int) : List Int)).bind fun y221 => (if y218.length + y221.length < 140737488355328 then ((some (y218 ++ y221 : List Int)).bind fun y224 => (if a0_0 = 4 then ((some (([(a0_11 / 256) % 256, (a0_11) % 256] : List Int) : List Int)).bind fun y227 => (if y224.length + y227.length < 140737488355328 then (some ((y224 ++ y227), 0)) else (none))) else (some (y224, 0)))) else (none)))) else (none)) = some (r1, r2) := H
     have A36 := Aside0.mk A360; clear A360
     by_cases c37 : y199.length + t215.length < 140737488355328
     rotate_left
     ·rw [if_neg c37] at H
      exact absurd H (by simp)
     rw [if_pos c37] at H; have LMc37 := Aside0.mk c37; clear c37
     obtain ⟨y218, hy218⟩ : ∃ y_ : List Int, y_ = (y199 ++ t215) := ⟨_, rfl⟩
     replace H : ((some (([(a0_9) % 256, (a0_10) % 256] : List Int) : List Int)).bind fun y221 => (if y218.length + y221.length < 140737488355328 then ((some (y218 ++ y221 : List Int)).bind fun y224 => (if a0_0 = 4 then ((some (([(a0_11 / 256) % 256, (a0_11) % 256] : List Int) : List Int)).bind fun y227 => (if y224.length + y227.length < 140737488355328 then (some ((y224 ++ y227), 0)) else (none))) else (some (y224, 0)))) else (none))) = some (r1, r2) := by first | (rw [hy218]; with_reducible exact H) | (have H2_ := (Option.bind_some _ _).symm.trans H; rw [hy218]; with_reducible exact H2_) | (have H2_ := (Option.bind_some _ _).symm.trans H; with_reducible exact H2_) | with_reducible exact H | (rw [hy218]; exact H) | exact H
     have Ny218 := Aside0.mk hy218; clear hy218
     obtain ⟨y221, hy221⟩ : ∃ y_ : List Int, y_ = (([(a0_9) % 256, (a0_10) % 256] : List Int)) := ⟨_, rfl⟩
     replace H : (if y218.length + y221.length < 140737488355328 then ((some (y218 ++ y221 : List Int)).bind fun y224 => (if a0_0 = 4 then ((some (([(a0_11 / 256) % 256, (a0_11) % 256] : List Int) : List Int)).bind fun y227 => (if y224.length + y227.length < 140737488355328 then (some ((y224 ++ y227), 0)) else (none))) else (some (y224, 0)))) else (none)) = some (r1, r2) := by first | (rw [hy221]; with_reducible exact H) | (have H2_ := (Option.bind_some _ _).symm.trans H; rw [hy221]; with_reducible exact H2_) | (have H2_ := (Option.bind_some _ _).symm.trans H; with_reducible exact H2_) | with_reducible exact H | (rw [hy221]; exact H) | exact H
     have Ny221 := Aside0.mk hy221; clear hy221
     by_cases c38 : y218.length + y221.length < 140737488355328
     rotate_left
     ·rw [if_neg c38] at H
      exact absurd H (by simp)
     rw [if_pos c38] at H; have LMc38 := Aside0.mk c38; clear c38
     obtain ⟨y224, hy224⟩ : ∃ y_ : List Int, y_ = (y218 ++ y221) := ⟨_, rfl⟩
     replace H : (if a0_0 = 4 then ((some (([(a0_11 / 256) % 256, (a0_11) % 256] : List Int) : List Int)).bind fun y227 => (if y224.length + y227.length < 140737488355328 then (some ((y224 ++ y227), 0)) else (none))) else (some (y224, 0))) = some (r1, r2) := by first | (rw [hy224]; with_reducible exact H) | (have H2_ := (Option.bind_some _ _).symm.trans H; rw [hy224]; with_reducible exact H2_) | (have H2_ := (Option.bind_some _ _).symm.trans H; with_reducible exact H2_) | with_reducible exact H | (rw [hy224]; exact H) | exact H
     have Ny224 := Aside0.mk hy224; clear hy224
     by_cases c39 : a0_0 = 4
     ·rw [if_pos c39] at H
      have c39b0 : (a0_0 == 4) = true := beq_iff_eq.mpr c39
      have c39b1 : (a0_0 != 4) = false := bne_eq_false_iff_eq.mpr c39
      clear c39
      obtain ⟨y227, hy227⟩ : ∃ y_ : List Int, y_ = (([(a0_11 / 256) % 256, (a0_11) % 256] : List Int)) := ⟨_, rfl⟩
      replace H : (if y224.length + y227.length < 140737488355328 then (some ((y224 ++ y227), 0)) else (none)) = some (r1, r2) := by first | (rw [hy227]; with_reducible exact H) | (have H2_ := (Option.bind_some _ _).symm.trans H; rw [hy227]; with_reducible exact H2_) | (have H2_ := (Option.bind_some _ _).symm.trans H; with_reducible exact H2_) | with_reducible exact H | (rw [hy227]; exact H) | exact H
      have Ny227 := Aside0.mk hy227; clear hy227
      by_cases c40 : y224.length + y227.length < 140737488355328
      rotate_left
      ·rw [if_neg c40] at H
       exact absurd H (by simp)
      rw [if_pos c40] at H; have LMc40 := Aside0.mk c40; clear c40
      obtain ⟨y230, hy230⟩ : ∃ y_ : List Int, y_ = (y224 ++ y227) := ⟨_, rfl⟩
      replace H : (some (y230, 0)) = some (r1, r2) := by first | (rw [hy230]; with_reducible exact H) | (have H2_ := (Option.bind_some _ _).symm.trans H; rw [hy230]; with_reducible exact H2_) | (have H2_ := (Option.bind_some _ _).symm.trans H; with_reducible exact H2_) | with_reducible exact H | (rw [hy230]; exact H) | exact H
      have Ny230 := Aside0.mk hy230; clear hy230
      simp only [Option.some.injEq, Prod.mk.injEq] at H
      obtain ⟨rfl, rfl⟩ := H; obtain ⟨Ao41, co41, eo41⟩ := Kd.R_slice HO_5.out
      subst eo41
      try go_wp2
      replace HO_5 := Aside0.mk (Kd.R_drew HO_5.out); replace BK197 := Aside0.mk (blk_drew BK197.out); replace HB := Aside0.mk (below_drew1 HB.out)
      refine start_ (n := 17) (S := fun w' => w'.cell? ⟨gb197, 0, none⟩ = some (.int .i64 a0_0) ∧ w'.cell? ⟨gb197, 1, none⟩ = some (.int .i64 a0_1) ∧ w'.cell? ⟨gb197, 2, none⟩ = some (.bool a0_2) ∧ w'.cell? ⟨gb197, 3, none⟩ = some (.int .i64 a0_3) ∧ w'.cell? ⟨gb197, 4, none⟩ = some (.int .i64 a0_4) ∧ w'.cell? ⟨gb197, 5, none⟩ = some (.int .i64 a0_5) ∧ w'.cell? ⟨gb197, 6, none⟩ = some (.int .i64 a0_6) ∧ w'.cell? ⟨gb197, 7, none⟩ = some (.int .i64 a0_7) ∧ w'.cell? ⟨gb197, 8, none⟩ = some (.int .i64 a0_8) ∧ w'.cell? ⟨gb197, 9, none⟩ = some (.int .i64 a0_9) ∧ w'.cell? ⟨gb197, 10, none⟩ = some (.int .i64 a0_10) ∧ w'.cell? ⟨gb197, 11, none⟩ = some (.int .i64 a0_11)) (ds := []) #[false, false, false, false, false, false, false, false, false, false, false, false, false, false, false, false, false] (by kernel_rfl) rfl rfl (cA12 BK197) (fun hHeld => ?_)
      refine with_tabW object_Bytes.tab13 object_Bytes.bits13 (fun HT_ HW_ => ?_)
      generalize wc.drew = w42 at HO_5 BK197 HB hHeld ⊢
      refine pA 0 (some 39) ?_; refine pA 1 (some 40) ?_; refine pA 2 (some 41) ?_; refine pA 6 (some 45) ?_; refine pA 7 (some 46) ?_; refine pA 10 (some 49) ?_; refine pA 11 (some 50) ?_; refine tA 3 (some 42) ?_; refine tA 8 (some 47) ?_; refine pA 9 (some 48) ?_; refine tA 12 (some 51) ?_; refine pA 13 (some 52) ?_
      refine join_ (σ := Value × Value × Value) 2 #[true, true, true, true, true, true, true, true, true, true, true, true, true, true, true, false, false] (fun s_ => [(43, s_.1), (44, s_.2.1), (53, s_.2.2)]) (fun s_ w' => (w'.cell? ⟨gb197, 0, none⟩ = some (.int .i64 a0_0) ∧ w'.cell? ⟨gb197, 1, none⟩ = some (.int .i64 a0_1) ∧ w'.cell? ⟨gb197, 2, none⟩ = some (.bool a0_2) ∧ w'.cell? ⟨gb197, 3, none⟩ = some (.int .i64 a0_3) ∧ w'.cell? ⟨gb197, 4, none⟩ = some (.int .i64 a0_4) ∧ w'.cell? ⟨gb197, 5, none⟩ = some (.int .i64 a0_5) ∧ w'.cell? ⟨gb197, 6, none⟩ = some (.int .i64 a0_6) ∧ w'.cell? ⟨gb197, 7, none⟩ = some (.int .i64 a0_7) ∧ w'.cell? ⟨gb197, 8, none⟩ = some (.int .i64 a0_8) ∧ w'.cell? ⟨gb197, 9, none⟩ = some (.int .i64 a0_9) ∧ w'.cell? ⟨gb197, 10, none⟩ = some (.int .i64 a0_10) ∧ w'.cell? ⟨gb197, 11, none⟩ = some (.int .i64 a0_11)) ∧ (Kd.R (Kd.int .u8) 5 w' w.heap.size (fun k_ => some k_ ≠ (s_.2.1 : Value).ownBlock ∧ some k_ ≠ (s_.2.2 : Value).ownBlock) s_.1 t215) ∧ (Kd.R (Kd.int .u8) 5 w' w.heap.size (fun k_ => some k_ ≠ (s_.1 : Value).ownBlock ∧ some k_ ≠ (s_.2.2 : Value).ownBlock) s_.2.1 y218) ∧ (Kd.R (Kd.int .u8) 5 w' w.heap.size (fun k_ => some k_ ≠ (s_.1 : Value).ownBlock ∧ some k_ ≠ (s_.2.1 : Value).ownBlock) s_.2.2 y221) ∧ (w'.heap[gb197]? = some (.cells #[.int .i64 a0_0, .int .i64 a0_1, .bool a0_2, .int .i64 a0_3, .int .i64 a0_4, .int .i64 a0_5, .int .i64 a0_6, .int .i64 a0_7, .int .i64 a0_8, .int .i64 a0_9, .int .i64 a0_10, .int .i64 a0_11] 62 (0, 0))) ∧ (Below w.heap.size w w')) ?_ ?_
      rotate_left
      ·intro hCont
       refine two_ (i := 4) (j := 14) (Ni := some 43) (Nj := some 53) #[true, true, true, true, true, false, true, true, true, true, true, true, true, true, false, false, false] #[true, true, true, true, false, false, true, true, true, true, true, true, true, true, true, false, false] rfl rfl rfl rfl (two_of HT_.out (by kernel_rfl)) (by decide) (by decide) (fun K hK => ?_) (fun K hK => ?_)
       ·skip
        refine gR Try.func77 #[.int .i64 a0_8] ?_
        with_reducible refine (wire_Int.calls a0_8 t215 _ A36.out).mono ?_
        rintro e w43 ⟨v216, rfl, ho0, hb⟩
        refine ⟨_, rfl, ?_⟩
        have HO217 := Aside0.mk (Kd.R_lower (Kd.R_new' ho0 (Kd.R_lt (uR HO_5))) (below_size (uB HB))); replace HO_5 := Aside0.mk (Kd.R_elder' (uR HO_5) (Kd.R_base ho0) hb); replace BK197 := kb BK197 hb; replace HB := bs HB hb; (try clear hb); (try clear hb2); (try clear hk); (try clear hi); (try clear ho0); obtain ⟨Ao45, co45, eo45⟩ := Kd.R_slice HO217.out
        (first | subst eo45 | (injection eo45 with f1_ f2_ f3_; have f4_ := f1_.symm; have f5_ := f3_.symm; clear f1_ f2_ f3_; subst f4_; subst f5_))
        refine hK.out _ _ (cA12 BK197) (fun hHeld => ?_)
        clear hK K; refine nA 43 ?_
        refine two_ (i := 5) (j := 14) (Ni := some 44) (Nj := some 53) #[true, true, true, true, true, true, true, true, true, true, true, true, true, true, false, false, false] #[true, true, true, true, true, false, true, true, true, true, true, true, true, true, true, false, false] rfl rfl rfl rfl (two_of HT_.out (by kernel_rfl)) (by decide) (by decide) (fun K hK => ?_) (fun K hK => ?_)
        ·skip
         refine Kd.R_append_rows_step (Kd.int .u8) (w0 := w) w.heap.size (by rfl) (.tmp 39) (.tmp 43) 26 5 (.int .u8 0) 1 rfl Try.underlying26 info5 rfl (by decide) (by omega) (.slice Ao41 y199.length co41) y199 t215 _ _ _ (fun k_ => some k_ ≠ (.slice Ao45 t215.length co45 : Value).ownBlock) (fun _ => False) rfl rfl ?aO ?aR (fun _ _ h => h) (fun _ h => h.elim) ?aF ?aB ?aS ?aL ?_
         (case aR => exact rC (Kd.R_reads' HO217.out).2.2)
         (case aB => exact (uB HB))
         (case aF => exact (fun k_ hk => Kd.fresh' (Kd.R_lt (uR HO217)) k_ hk))
         (case aO => exact (mR HO_5))
         (case aS => exact (below_size (uB HB)))
         (case aL => have := LMc37.out; omega)
         intro v219 w44 ho hb hg hat
         rw [← Ny218.out] at ho
         have n0_ := Aside0.mk (blk_grown (uK BK197) hg (Kd.R_ne HO_5.out BK197.out (by decide))); have n1_ := Aside0.mk (Kd.R_after (ok := (fun _ => True)) (uR HO217) hg hat); have n2_ := Aside0.mk (hb); have n3_ := Aside0.mk (ho); clear BK197; clear HO217; clear HB; clear HO_5; have BK197 := n0_; have HO217 := n1_; have HB := n2_; have HO220 := n3_; clear n0_ n1_ n2_ n3_; clear ho hb hg hat
         refine hK.out _ _ (cA12 BK197) (fun hHeld => ?_)
         clear hK K; refine nA 44 ?_
         refine oA 14 (some 53) (fun K hK => ?_)
         refine Kd.R_lit_step (Kd.int .u8) _ 5 ?hg (N := 53) ?hd (xs := ([(a0_9) % 256, (a0_10) % 256] : List Int)) (inner := [.int .u8 ((a0_9) % 256), .int .u8 ((a0_10) % 256)]) (ok := fun _ => True) (okp := fun _ => True) ?hr ?hp (fun _ hk => hk) trivial (Below.refl _ _) (Nat.le_refl _) (by simp) ?_
         (case hd => rfl)
         (case hg => rfl)
         (case hr => first | (go_simp; done) | (go_simp; rfl))
         (case hp => exact (Reps.one (show Kd.M (Kd.int .u8) _ _ _ ((a0_9) % 256) [.int .u8 ((a0_9) % 256)] from rfl) (Reps.one (show Kd.M (Kd.int .u8) _ _ _ ((a0_10) % 256) [.int .u8 ((a0_10) % 256)] from rfl) (Reps.none _ _))))
         intro v222 w46 ho47 hb hg_ hnew_
         clear hg_ hnew_
         (first | rw [← Ny221.out] at ho47 | (simp only [Int.reduceToNat] at ho47; rw [← Ny221.out] at ho47))
         have HO223 := Aside0.mk (Kd.R_lower (Kd.R_new' (Kd.R_new' ho47 (Kd.R_lt (uR HO217))) (Kd.R_lt (uR HO220))) (below_size (uB HB))); replace HO217 := Aside0.mk (Kd.R_elder' (uR HO217) (Kd.R_base ho47) hb); replace HO220 := Aside0.mk (Kd.R_elder' (uR HO220) (Kd.R_base ho47) hb); replace BK197 := kb BK197 hb; replace HB := bs HB hb; clear hb ho47
         refine hK.out _ _ (cA12 BK197) (fun hHeld => ?_)
         clear hK K; refine nA 53 ?_
         exact norm_ (by simp only [putAll, Act.put, List.setIfInBounds_toArray, List.set_cons_zero, List.set_cons_succ]) (hCont (.slice Ao45 t215.length co45, v219, v222) _ ⟨hHeld, (mR HO217), (uR HO220), (mR HO223), (uK BK197), (uB HB)⟩)
        skip
        refine Kd.R_lit_step (Kd.int .u8) _ 5 ?hg (N := 53) ?hd (xs := ([(a0_9) % 256, (a0_10) % 256] : List Int)) (inner := [.int .u8 ((a0_9) % 256), .int .u8 ((a0_10) % 256)]) (ok := fun _ => True) (okp := fun _ => True) ?hr ?hp (fun _ hk => hk) trivial (Below.refl _ _) (Nat.le_refl _) (by simp) ?_; (case hd => rfl); (case hg => rfl); (case hr => first | (go_simp; done) | (go_simp; rfl)); (case hp => exact (Reps.one (show Kd.M (Kd.int .u8) _ _ _ ((a0_9) % 256) [.int .u8 ((a0_9) % 256)] from rfl) (Reps.one (show Kd.M (Kd.int .u8) _ _ _ ((a0_10) % 256) [.int .u8 ((a0_10) % 256)] from rfl) (Reps.none _ _))))
        intro v222 w44 ho45 hb hg_ hnew_
        clear hg_ hnew_
        (first | rw [← Ny221.out] at ho45 | (simp only [Int.reduceToNat] at ho45; rw [← Ny221.out] at ho45))
        have HO223 := Aside0.mk (Kd.R_lower (Kd.R_new' (Kd.R_new' ho45 (Kd.R_lt (uR HO_5))) (Kd.R_lt (uR HO217))) (below_size (uB HB))); replace HO_5 := Aside0.mk (Kd.R_elder' (uR HO_5) (Kd.R_base ho45) hb); replace HO217 := Aside0.mk (Kd.R_elder' (uR HO217) (Kd.R_base ho45) hb); replace BK197 := kb BK197 hb; replace HB := bs HB hb; clear hb ho45; obtain ⟨Ao47, co47, eo47⟩ := Kd.R_slice HO217.out
        (first | subst eo47 | (injection eo47 with f1_ f2_ f3_; have f4_ := f1_.symm; have f5_ := f3_.symm; clear f1_ f2_ f3_; subst f4_; subst f5_))
        refine hK.out _ _ (cA12 BK197) (fun hHeld => ?_)
        clear hK K; refine nA 53 ?_
        refine oA 5 (some 44) (fun K hK => ?_)
        refine Kd.R_append_rows_step (Kd.int .u8) (w0 := w) w.heap.size (by rfl) (.tmp 39) (.tmp 43) 26 5 (.int .u8 0) 1 rfl Try.underlying26 info5 rfl (by decide) (by omega) (.slice Ao41 y199.length co41) y199 t215 _ _ _ (fun k_ => some k_ ≠ (.slice Ao47 t215.length co47 : Value).ownBlock ∧ some k_ ≠ (v222 : Value).ownBlock) (fun _ => False) rfl rfl ?aO ?aR (fun _ _ h => h) (fun _ h => h.elim) ?aF ?aB ?aS ?aL ?_
        (case aR => exact rC (Kd.R_reads' HO217.out).2.2)
        (case aB => exact (uB HB))
        (case aF => exact (fun k_ hk => ⟨Kd.fresh' (Kd.R_lt (uR HO217)) k_ hk, Kd.fresh' (Kd.R_lt (uR HO223)) k_ hk⟩))
        (case aO => exact (mR HO_5))
        (case aS => exact (below_size (uB HB)))
        (case aL => have := LMc37.out; omega)
        intro v219 w46 ho hb hg hat
        rw [← Ny218.out] at ho
        have n0_ := Aside0.mk (blk_grown (uK BK197) hg (Kd.R_ne HO_5.out BK197.out (by decide))); have n1_ := Aside0.mk (Kd.R_after (ok := (fun k_ => some k_ ≠ (v222 : Value).ownBlock)) (mR HO217) hg hat); have n2_ := Aside0.mk (Kd.R_after (ok := (fun k_ => some k_ ≠ (.slice Ao47 t215.length co47 : Value).ownBlock)) (mR HO223) hg hat); have n3_ := Aside0.mk (hb); have n4_ := Aside0.mk (ho); clear BK197; clear HO217; clear HO223; clear HB; clear HO_5; have BK197 := n0_; have HO217 := n1_; have HO223 := n2_; have HB := n3_; have HO220 := n4_; clear n0_ n1_ n2_ n3_ n4_; clear ho hb hg hat
        refine hK.out _ _ (cA12 BK197) (fun hHeld => ?_)
        clear hK K; refine nA 44 ?_
        exact norm_ (by simp only [putAll, Act.put, List.setIfInBounds_toArray, List.set_cons_zero, List.set_cons_succ]) (hCont (.slice Ao47 t215.length co47, v219, v222) _ ⟨hHeld, (by refine rR ?_; exact Kd.R_mono HO217.out (fun _ hk => by first | exact ⟨hk.2, hk.1⟩ | exact trivial | (simp [hk]; done) | simp_all)), (uR HO220), (uR HO223), (uK BK197), (uB HB)⟩)
       skip
       refine Kd.R_lit_step (Kd.int .u8) _ 5 ?hg (N := 53) ?hd (xs := ([(a0_9) % 256, (a0_10) % 256] : List Int)) (inner := [.int .u8 ((a0_9) % 256), .int .u8 ((a0_10) % 256)]) (ok := fun _ => True) (okp := fun _ => True) ?hr ?hp (fun _ hk => hk) trivial (Below.refl _ _) (Nat.le_refl _) (by simp) ?_; (case hd => rfl); (case hg => rfl); (case hr => first | (go_simp; done) | (go_simp; rfl)); (case hp => exact (Reps.one (show Kd.M (Kd.int .u8) _ _ _ ((a0_9) % 256) [.int .u8 ((a0_9) % 256)] from rfl) (Reps.one (show Kd.M (Kd.int .u8) _ _ _ ((a0_10) % 256) [.int .u8 ((a0_10) % 256)] from rfl) (Reps.none _ _))))
       intro v222 w43 ho44 hb hg_ hnew_
       clear hg_ hnew_
       (first | rw [← Ny221.out] at ho44 | (simp only [Int.reduceToNat] at ho44; rw [← Ny221.out] at ho44))
       have HO223 := Aside0.mk (Kd.R_lower (Kd.R_new' ho44 (Kd.R_lt (uR HO_5))) (below_size (uB HB))); replace HO_5 := Aside0.mk (Kd.R_elder' (uR HO_5) (Kd.R_base ho44) hb); replace BK197 := kb BK197 hb; replace HB := bs HB hb; clear hb ho44
       refine hK.out _ _ (cA12 BK197) (fun hHeld => ?_)
       clear hK K; refine nA 53 ?_
       refine oA 4 (some 43) (fun K hK => ?_)
       refine gR Try.func77 #[.int .i64 a0_8] ?_
       with_reducible refine (wire_Int.calls a0_8 t215 _ A36.out).mono ?_
       rintro e w45 ⟨v216, rfl, ho0, hb⟩
       refine ⟨_, rfl, ?_⟩
       have HO217 := Aside0.mk (Kd.R_lower (Kd.R_new' (Kd.R_new' ho0 (Kd.R_lt (uR HO_5))) (Kd.R_lt (uR HO223))) (below_size (uB HB))); replace HO_5 := Aside0.mk (Kd.R_elder' (uR HO_5) (Kd.R_base ho0) hb); replace HO223 := Aside0.mk (Kd.R_elder' (uR HO223) (Kd.R_base ho0) hb); replace BK197 := kb BK197 hb; replace HB := bs HB hb; (try clear hb); (try clear hb2); (try clear hk); (try clear hi); (try clear ho0); obtain ⟨Ao47, co47, eo47⟩ := Kd.R_slice HO217.out
       (first | subst eo47 | (injection eo47 with f1_ f2_ f3_; have f4_ := f1_.symm; have f5_ := f3_.symm; clear f1_ f2_ f3_; subst f4_; subst f5_))
       refine hK.out _ _ (cA12 BK197) (fun hHeld => ?_)
       clear hK K; refine nA 43 ?_
       refine oA 5 (some 44) (fun K hK => ?_)
       refine Kd.R_append_rows_step (Kd.int .u8) (w0 := w) w.heap.size (by rfl) (.tmp 39) (.tmp 43) 26 5 (.int .u8 0) 1 rfl Try.underlying26 info5 rfl (by decide) (by omega) (.slice Ao41 y199.length co41) y199 t215 _ _ _ (fun k_ => some k_ ≠ (v222 : Value).ownBlock ∧ some k_ ≠ (.slice Ao47 t215.length co47 : Value).ownBlock) (fun _ => False) rfl rfl ?aO ?aR (fun _ _ h => h) (fun _ h => h.elim) ?aF ?aB ?aS ?aL ?_
       (case aR => exact rC (Kd.R_reads' HO217.out).2.2)
       (case aB => exact (uB HB))
       (case aF => exact (fun k_ hk => ⟨Kd.fresh' (Kd.R_lt (uR HO223)) k_ hk, Kd.fresh' (Kd.R_lt (uR HO217)) k_ hk⟩))
       (case aO => exact (mR HO_5))
       (case aS => exact (below_size (uB HB)))
       (case aL => have := LMc37.out; omega)
       intro v219 w46 ho hb hg hat
       rw [← Ny218.out] at ho
       have n0_ := Aside0.mk (blk_grown (uK BK197) hg (Kd.R_ne HO_5.out BK197.out (by decide))); have n1_ := Aside0.mk (Kd.R_after (ok := (fun k_ => some k_ ≠ (.slice Ao47 t215.length co47 : Value).ownBlock)) (mR HO223) hg hat); have n2_ := Aside0.mk (Kd.R_after (ok := (fun k_ => some k_ ≠ (v222 : Value).ownBlock)) (mR HO217) hg hat); have n3_ := Aside0.mk (hb); have n4_ := Aside0.mk (ho); clear BK197; clear HO223; clear HO217; clear HB; clear HO_5; have BK197 := n0_; have HO223 := n1_; have HO217 := n2_; have HB := n3_; have HO220 := n4_; clear n0_ n1_ n2_ n3_ n4_; clear ho hb hg hat
       refine hK.out _ _ (cA12 BK197) (fun hHeld => ?_)
       clear hK K; refine nA 44 ?_
       exact norm_ (by simp only [putAll, Act.put, List.setIfInBounds_toArray, List.set_cons_zero, List.set_cons_succ]) (hCont (.slice Ao47 t215.length co47, v219, v222) _ ⟨hHeld, (by refine rR ?_; exact Kd.R_mono HO217.out (fun _ hk => by first | exact ⟨hk.2, hk.1⟩ | exact trivial | (simp [hk]; done) | simp_all)), (by refine rR ?_; exact Kd.R_mono HO220.out (fun _ hk => by first | exact ⟨hk.2, hk.1⟩ | exact trivial | (simp [hk]; done) | simp_all)), (uR HO223), (uK BK197), (uB HB)⟩)
      rintro ⟨v216, v219, v222⟩ w48 ⟨hS_, h0_, h1_, h2_, h3_, h4_⟩
      have n0_ : Aside0 (Kd.R (Kd.int .u8) 5 w48 w.heap.size (fun k_ => some k_ ≠ (v219 : Value).ownBlock ∧ some k_ ≠ (v222 : Value).ownBlock) v216 t215) := ⟨h0_⟩
      have n1_ : Aside0 (Kd.R (Kd.int .u8) 5 w48 w.heap.size (fun k_ => some k_ ≠ (v216 : Value).ownBlock ∧ some k_ ≠ (v222 : Value).ownBlock) v219 y218) := ⟨h1_⟩
      have n2_ : Aside0 (Kd.R (Kd.int .u8) 5 w48 w.heap.size (fun k_ => some k_ ≠ (v216 : Value).ownBlock ∧ some k_ ≠ (v219 : Value).ownBlock) v222 y221) := ⟨h2_⟩
      have n3_ : Aside0 (w48.heap[gb197]? = some (.cells #[.int .i64 a0_0, .int .i64 a0_1, .bool a0_2, .int .i64 a0_3, .int .i64 a0_4, .int .i64 a0_5, .int .i64 a0_6, .int .i64 a0_7, .int .i64 a0_8, .int .i64 a0_9, .int .i64 a0_10, .int .i64 a0_11] 62 (0, 0))) := ⟨h3_⟩
      have n4_ : Aside0 (Below w.heap.size w w48) := ⟨h4_⟩
      clear HO_5; clear BK197; clear HB; clear h0_ h1_ h2_ h3_ h4_; have HO217 := n0_; have HO220 := n1_; have HO223 := n2_; have BK197 := n3_; have HB := n4_; clear n0_ n1_ n2_ n3_ n4_
      have hHeld : w48.cell? ⟨gb197, 0, none⟩ = some (.int .i64 a0_0) ∧ w48.cell? ⟨gb197, 1, none⟩ = some (.int .i64 a0_1) ∧ w48.cell? ⟨gb197, 2, none⟩ = some (.bool a0_2) ∧ w48.cell? ⟨gb197, 3, none⟩ = some (.int .i64 a0_3) ∧ w48.cell? ⟨gb197, 4, none⟩ = some (.int .i64 a0_4) ∧ w48.cell? ⟨gb197, 5, none⟩ = some (.int .i64 a0_5) ∧ w48.cell? ⟨gb197, 6, none⟩ = some (.int .i64 a0_6) ∧ w48.cell? ⟨gb197, 7, none⟩ = some (.int .i64 a0_7) ∧ w48.cell? ⟨gb197, 8, none⟩ = some (.int .i64 a0_8) ∧ w48.cell? ⟨gb197, 9, none⟩ = some (.int .i64 a0_9) ∧ w48.cell? ⟨gb197, 10, none⟩ = some (.int .i64 a0_10) ∧ w48.cell? ⟨gb197, 11, none⟩ = some (.int .i64 a0_11) := hS_
      obtain ⟨Ao50, co50, eo50⟩ := Kd.R_slice HO223.out
      (first | subst eo50 | (injection eo50 with f1_ f2_ f3_; have f4_ := f1_.symm; have f5_ := f3_.symm; clear f1_ f2_ f3_; subst f4_; subst f5_))
      refine norm_ (a' := ?_) ?_ ?_
      rotate_left
      ·simp only [putAll, Act.put, List.setIfInBounds_toArray, List.set_cons_zero, List.set_cons_succ]
       rfl
      refine oA 15 (some 54) (fun K hK => ?_)
      refine Kd.R_append_rows_step (Kd.int .u8) (w0 := w) w.heap.size (by rfl) (.tmp 44) (.tmp 53) 26 5 (.int .u8 0) 1 rfl Try.underlying26 info5 rfl (by decide) (by omega) v219 y218 y221 _ _ _ (fun k_ => some k_ ≠ (v216 : Value).ownBlock ∧ some k_ ≠ (.slice Ao50 y221.length co50 : Value).ownBlock) (fun _ => False) rfl rfl ?aO ?aR (fun _ _ h => h) (fun _ h => h.elim) ?aF ?aB ?aS ?aL ?_
      (case aR => exact rC (Kd.R_reads' HO223.out).2.2)
      (case aB => exact (uB HB))
      (case aF => exact (fun k_ hk => ⟨Kd.fresh' (Kd.R_lt (uR HO217)) k_ hk, Kd.fresh' (Kd.R_lt (uR HO223)) k_ hk⟩))
      (case aO => exact (uR HO220))
      (case aS => exact (below_size (uB HB)))
      (case aL => have := LMc38.out; omega)
      intro v225 w49 ho hb hg hat
      rw [← Ny224.out] at ho
      have n0_ := Aside0.mk (blk_grown (uK BK197) hg (Kd.R_ne HO220.out BK197.out (by decide))); have n1_ := Aside0.mk (Kd.R_after (ok := (fun k_ => some k_ ≠ (.slice Ao50 y221.length co50 : Value).ownBlock)) (by refine rR ?_; exact Kd.R_mono HO217.out (fun _ hk => by first | exact ⟨hk.2, hk.1⟩ | exact trivial | (simp [hk]; done) | simp_all)) hg hat); have n2_ := Aside0.mk (Kd.R_after (ok := (fun k_ => some k_ ≠ (v216 : Value).ownBlock)) (uR HO223) hg hat); have n3_ := Aside0.mk (hb); have n4_ := Aside0.mk (ho); clear BK197; clear HO217; clear HO223; clear HB; clear HO220; have BK197 := n0_; have HO217 := n1_; have HO223 := n2_; have HB := n3_; have HO226 := n4_; clear n0_ n1_ n2_ n3_ n4_; clear ho hb hg hat
      refine hK.out _ _ (cA12 BK197) (fun hHeld => ?_)
      clear hK K; refine nA 54 ?_; refine pA 16 (some 5) ?_
      refine dA ?_
      obtain ⟨q51_0, q51_1, q51_2, q51_3, q51_4, q51_5, q51_6, q51_7, q51_8, q51_9, q51_10, q51_11⟩ := cA12 BK197; obtain ⟨f51_0, f51_1, f51_2, f51_3, f51_4, f51_5, f51_6, f51_7, f51_8, f51_9, f51_10, f51_11⟩ := fA12 BK197
      try go_wp2_with (first | ((with_reducible refine gate_dst (N := 66) rfl ?_); refine Kd.R_lit (Kd.int .u8) _ 5 ?hg (N := 66) ?hd (xs := ([(a0_11 / 256) % 256, (a0_11) % 256] : List Int)) (inner := [.int .u8 ((a0_11 / 256) % 256), .int .u8 ((a0_11) % 256)]) (ok := fun _ => True) (okp := fun _ => True) ?hr ?hp (fun _ hk => hk) trivial (Below.refl _ _) (Nat.le_refl _) (by simp) ?_; (case hd => rfl); (case hg => rfl); (case hr => first | (go_simp; done) | (go_simp; rfl)); (case hp => exact (Reps.one (show Kd.M (Kd.int .u8) _ _ _ ((a0_11 / 256) % 256) [.int .u8 ((a0_11 / 256) % 256)] from rfl) (Reps.one (show Kd.M (Kd.int .u8) _ _ _ ((a0_11) % 256) [.int .u8 ((a0_11) % 256)] from rfl) (Reps.none _ _)))); intro v228 w52 ho53 hb hg_ hnew_; clear hg_ hnew_; (first | rw [← Ny227.out] at ho53 | (simp only [Int.reduceToNat] at ho53; rw [← Ny227.out] at ho53)); have HO229 := Aside0.mk (Kd.R_lower (Kd.R_new' (Kd.R_new' (Kd.R_new' ho53 (Kd.R_lt (uR HO217))) (Kd.R_lt (uR HO223))) (Kd.R_lt (uR HO226))) (below_size (uB HB))); replace HO217 := Aside0.mk (Kd.R_elder' (uR HO217) (Kd.R_base ho53) hb); replace HO223 := Aside0.mk (Kd.R_elder' (uR HO223) (Kd.R_base ho53) hb); replace HO226 := Aside0.mk (Kd.R_elder' (uR HO226) (Kd.R_base ho53) hb); replace BK197 := kb BK197 hb; replace HB := bs HB hb; clear hb ho53; obtain ⟨Ao55, co55, eo55⟩ := Kd.R_slice HO229.out; subst eo55) | ((with_reducible refine gate_builtin (b := .append) (xs := #[.tmp 58, .tmp 66]) rfl ?_); at_builtin; refine Kd.R_append_rows (Kd.int .u8) (w0 := w) w.heap.size rfl (.tmp 58) (.tmp 66) 26 5 (.int .u8 0) 1 rfl Try.underlying26 info5 rfl (by decide) (by omega) v225 y224 y227 _ _ _ (fun k_ => some k_ ≠ (v216 : Value).ownBlock ∧ some k_ ≠ (.slice Ao50 y221.length co50 : Value).ownBlock ∧ some k_ ≠ (.slice Ao55 y227.length co55 : Value).ownBlock) (fun _ => False) rfl rfl ?aO ?aR (fun _ _ h => h) (fun _ h => h.elim) ?aF ?aB ?aS ?aL ?_; (case aR => exact rC (Kd.R_reads' HO229.out).2.2); (case aB => exact (uB HB)); (case aF => exact (fun k_ hk => ⟨Kd.fresh' (Kd.R_lt (uR HO217)) k_ hk, Kd.fresh' (Kd.R_lt (uR HO223)) k_ hk, Kd.fresh' (Kd.R_lt (uR HO229)) k_ hk⟩)); (case aO => exact (by refine rR ?_; exact Kd.R_mono HO226.out (fun _ hk => by first | exact ⟨hk.1.1, ⟨hk.1.2, hk.2⟩⟩ | exact trivial | (simp [hk]; done) | simp_all))); (case aS => exact (below_size (uB HB))); (case aL => have := LMc40.out; omega); intro v231 w54 ho hb hg hat; rw [← Ny230.out] at ho; have n0_ := Aside0.mk (blk_grown (uK BK197) hg (Kd.R_ne HO226.out BK197.out (by decide))); have n1_ := Aside0.mk (Kd.R_after (ok := (fun k_ => some k_ ≠ (.slice Ao50 y221.length co50 : Value).ownBlock ∧ some k_ ≠ (.slice Ao55 y227.length co55 : Value).ownBlock)) (by refine rR ?_; exact Kd.R_mono HO217.out (fun _ hk => by first | exact ⟨⟨hk.1.1, hk.2⟩, hk.1.2⟩ | exact trivial | (simp [hk]; done) | simp_all)) hg hat); have n2_ := Aside0.mk (Kd.R_after (ok := (fun k_ => some k_ ≠ (v216 : Value).ownBlock ∧ some k_ ≠ (.slice Ao55 y227.length co55 : Value).ownBlock)) (by refine rR ?_; exact Kd.R_mono HO223.out (fun _ hk => by first | exact ⟨⟨hk.1.1, hk.2⟩, hk.1.2⟩ | exact trivial | (simp [hk]; done) | simp_all)) hg hat); have n3_ := Aside0.mk (Kd.R_after (ok := (fun k_ => some k_ ≠ (v216 : Value).ownBlock ∧ some k_ ≠ (.slice Ao50 y221.length co50 : Value).ownBlock)) (by refine rR ?_; exact Kd.R_mono HO229.out (fun _ hk => by first | exact ⟨⟨hk.1.1.2, hk.1.2⟩, hk.2⟩ | exact trivial | (simp [hk]; done) | simp_all)) hg hat); have n4_ := Aside0.mk (hb); have n5_ := Aside0.mk (ho); clear BK197; clear HO217; clear HO223; clear HO229; clear HB; clear HO226; have BK197 := n0_; have HO217 := n1_; have HO223 := n2_; have HO229 := n3_; have HB := n4_; have HO232 := n5_; clear n0_ n1_ n2_ n3_ n4_ n5_; clear ho hb hg hat))
      go_ret2
      exact ⟨_, gE, by refine rR ?_; exact Kd.R_mono HO232.out (fun _ hk => trivial), uB HB⟩
     rw [if_neg c39] at H
     have c39b0 : (a0_0 == 4) = false := beq_eq_false_iff_ne.mpr c39
     have c39b1 : (a0_0 != 4) = true := bne_iff_ne.mpr c39
     simp only [Option.some.injEq, Prod.mk.injEq] at H
     obtain ⟨rfl, rfl⟩ := H; obtain ⟨Ao56, co56, eo56⟩ := Kd.R_slice HO_5.out
     subst eo56
     try go_wp2
     replace HO_5 := Aside0.mk (Kd.R_drew HO_5.out); replace BK197 := Aside0.mk (blk_drew BK197.out); replace HB := Aside0.mk (below_drew1 HB.out)
     refine start_ (n := 17) (S := fun w' => w'.cell? ⟨gb197, 0, none⟩ = some (.int .i64 a0_0) ∧ w'.cell? ⟨gb197, 1, none⟩ = some (.int .i64 a0_1) ∧ w'.cell? ⟨gb197, 2, none⟩ = some (.bool a0_2) ∧ w'.cell? ⟨gb197, 3, none⟩ = some (.int .i64 a0_3) ∧ w'.cell? ⟨gb197, 4, none⟩ = some (.int .i64 a0_4) ∧ w'.cell? ⟨gb197, 5, none⟩ = some (.int .i64 a0_5) ∧ w'.cell? ⟨gb197, 6, none⟩ = some (.int .i64 a0_6) ∧ w'.cell? ⟨gb197, 7, none⟩ = some (.int .i64 a0_7) ∧ w'.cell? ⟨gb197, 8, none⟩ = some (.int .i64 a0_8) ∧ w'.cell? ⟨gb197, 9, none⟩ = some (.int .i64 a0_9) ∧ w'.cell? ⟨gb197, 10, none⟩ = some (.int .i64 a0_10) ∧ w'.cell? ⟨gb197, 11, none⟩ = some (.int .i64 a0_11)) (ds := []) #[false, false, false, false, false, false, false, false, false, false, false, false, false, false, false, false, false] (by kernel_rfl) rfl rfl (cA12 BK197) (fun hHeld => ?_)
     refine with_tabW object_Bytes.tab13 object_Bytes.bits13 (fun HT_ HW_ => ?_)
     generalize wc.drew = w57 at HO_5 BK197 HB hHeld ⊢
     refine pA 0 (some 39) ?_; refine pA 1 (some 40) ?_; refine pA 2 (some 41) ?_; refine pA 6 (some 45) ?_; refine pA 7 (some 46) ?_; refine pA 10 (some 49) ?_; refine pA 11 (some 50) ?_; refine tA 3 (some 42) ?_; refine tA 8 (some 47) ?_; refine pA 9 (some 48) ?_; refine tA 12 (some 51) ?_; refine pA 13 (some 52) ?_
     refine join_ (σ := Value × Value × Value) 2 #[true, true, true, true, true, true, true, true, true, true, true, true, true, true, true, false, false] (fun s_ => [(43, s_.1), (44, s_.2.1), (53, s_.2.2)]) (fun s_ w' => (w'.cell? ⟨gb197, 0, none⟩ = some (.int .i64 a0_0) ∧ w'.cell? ⟨gb197, 1, none⟩ = some (.int .i64 a0_1) ∧ w'.cell? ⟨gb197, 2, none⟩ = some (.bool a0_2) ∧ w'.cell? ⟨gb197, 3, none⟩ = some (.int .i64 a0_3) ∧ w'.cell? ⟨gb197, 4, none⟩ = some (.int .i64 a0_4) ∧ w'.cell? ⟨gb197, 5, none⟩ = some (.int .i64 a0_5) ∧ w'.cell? ⟨gb197, 6, none⟩ = some (.int .i64 a0_6) ∧ w'.cell? ⟨gb197, 7, none⟩ = some (.int .i64 a0_7) ∧ w'.cell? ⟨gb197, 8, none⟩ = some (.int .i64 a0_8) ∧ w'.cell? ⟨gb197, 9, none⟩ = some (.int .i64 a0_9) ∧ w'.cell? ⟨gb197, 10, none⟩ = some (.int .i64 a0_10) ∧ w'.cell? ⟨gb197, 11, none⟩ = some (.int .i64 a0_11)) ∧ (Kd.R (Kd.int .u8) 5 w' w.heap.size (fun k_ => some k_ ≠ (s_.2.1 : Value).ownBlock ∧ some k_ ≠ (s_.2.2 : Value).ownBlock) s_.1 t215) ∧ (Kd.R (Kd.int .u8) 5 w' w.heap.size (fun k_ => some k_ ≠ (s_.1 : Value).ownBlock ∧ some k_ ≠ (s_.2.2 : Value).ownBlock) s_.2.1 y218) ∧ (Kd.R (Kd.int .u8) 5 w' w.heap.size (fun k_ => some k_ ≠ (s_.1 : Value).ownBlock ∧ some k_ ≠ (s_.2.1 : Value).ownBlock) s_.2.2 y221) ∧ (w'.heap[gb197]? = some (.cells #[.int .i64 a0_0, .int .i64 a0_1, .bool a0_2, .int .i64 a0_3, .int .i64 a0_4, .int .i64 a0_5, .int .i64 a0_6, .int .i64 a0_7, .int .i64 a0_8, .int .i64 a0_9, .int .i64 a0_10, .int .i64 a0_11] 62 (0, 0))) ∧ (Below w.heap.size w w')) ?_ ?_
     rotate_left
     ·intro hCont
      refine two_ (i := 4) (j := 14) (Ni := some 43) (Nj := some 53) #[true, true, true, true, true, false, true, true, true, true, true, true, true, true, false, false, false] #[true, true, true, true, false, false, true, true, true, true, true, true, true, true, true, false, false] rfl rfl rfl rfl (two_of HT_.out (by kernel_rfl)) (by decide) (by decide) (fun K hK => ?_) (fun K hK => ?_)
      ·skip
       refine gR Try.func77 #[.int .i64 a0_8] ?_
       with_reducible refine (wire_Int.calls a0_8 t215 _ A36.out).mono ?_
       rintro e w58 ⟨v216, rfl, ho0, hb⟩
       refine ⟨_, rfl, ?_⟩
       have HO217 := Aside0.mk (Kd.R_lower (Kd.R_new' ho0 (Kd.R_lt (uR HO_5))) (below_size (uB HB))); replace HO_5 := Aside0.mk (Kd.R_elder' (uR HO_5) (Kd.R_base ho0) hb); replace BK197 := kb BK197 hb; replace HB := bs HB hb; (try clear hb); (try clear hb2); (try clear hk); (try clear hi); (try clear ho0); obtain ⟨Ao60, co60, eo60⟩ := Kd.R_slice HO217.out
       (first | subst eo60 | (injection eo60 with f1_ f2_ f3_; have f4_ := f1_.symm; have f5_ := f3_.symm; clear f1_ f2_ f3_; subst f4_; subst f5_))
       refine hK.out _ _ (cA12 BK197) (fun hHeld => ?_)
       clear hK K; refine nA 43 ?_
       refine two_ (i := 5) (j := 14) (Ni := some 44) (Nj := some 53) #[true, true, true, true, true, true, true, true, true, true, true, true, true, true, false, false, false] #[true, true, true, true, true, false, true, true, true, true, true, true, true, true, true, false, false] rfl rfl rfl rfl (two_of HT_.out (by kernel_rfl)) (by decide) (by decide) (fun K hK => ?_) (fun K hK => ?_)
       ·skip
        refine Kd.R_append_rows_step (Kd.int .u8) (w0 := w) w.heap.size (by rfl) (.tmp 39) (.tmp 43) 26 5 (.int .u8 0) 1 rfl Try.underlying26 info5 rfl (by decide) (by omega) (.slice Ao56 y199.length co56) y199 t215 _ _ _ (fun k_ => some k_ ≠ (.slice Ao60 t215.length co60 : Value).ownBlock) (fun _ => False) rfl rfl ?aO ?aR (fun _ _ h => h) (fun _ h => h.elim) ?aF ?aB ?aS ?aL ?_
        (case aR => exact rC (Kd.R_reads' HO217.out).2.2)
        (case aB => exact (uB HB))
        (case aF => exact (fun k_ hk => Kd.fresh' (Kd.R_lt (uR HO217)) k_ hk))
        (case aO => exact (mR HO_5))
        (case aS => exact (below_size (uB HB)))
        (case aL => have := LMc37.out; omega)
        intro v219 w59 ho hb hg hat
        rw [← Ny218.out] at ho
        have n0_ := Aside0.mk (blk_grown (uK BK197) hg (Kd.R_ne HO_5.out BK197.out (by decide))); have n1_ := Aside0.mk (Kd.R_after (ok := (fun _ => True)) (uR HO217) hg hat); have n2_ := Aside0.mk (hb); have n3_ := Aside0.mk (ho); clear BK197; clear HO217; clear HB; clear HO_5; have BK197 := n0_; have HO217 := n1_; have HB := n2_; have HO220 := n3_; clear n0_ n1_ n2_ n3_; clear ho hb hg hat
        refine hK.out _ _ (cA12 BK197) (fun hHeld => ?_)
        clear hK K; refine nA 44 ?_
        refine oA 14 (some 53) (fun K hK => ?_)
        refine Kd.R_lit_step (Kd.int .u8) _ 5 ?hg (N := 53) ?hd (xs := ([(a0_9) % 256, (a0_10) % 256] : List Int)) (inner := [.int .u8 ((a0_9) % 256), .int .u8 ((a0_10) % 256)]) (ok := fun _ => True) (okp := fun _ => True) ?hr ?hp (fun _ hk => hk) trivial (Below.refl _ _) (Nat.le_refl _) (by simp) ?_
        (case hd => rfl)
        (case hg => rfl)
        (case hr => first | (go_simp; done) | (go_simp; rfl))
        (case hp => exact (Reps.one (show Kd.M (Kd.int .u8) _ _ _ ((a0_9) % 256) [.int .u8 ((a0_9) % 256)] from rfl) (Reps.one (show Kd.M (Kd.int .u8) _ _ _ ((a0_10) % 256) [.int .u8 ((a0_10) % 256)] from rfl) (Reps.none _ _))))
        intro v222 w61 ho62 hb hg_ hnew_
        clear hg_ hnew_
        (first | rw [← Ny221.out] at ho62 | (simp only [Int.reduceToNat] at ho62; rw [← Ny221.out] at ho62))
        have HO223 := Aside0.mk (Kd.R_lower (Kd.R_new' (Kd.R_new' ho62 (Kd.R_lt (uR HO217))) (Kd.R_lt (uR HO220))) (below_size (uB HB))); replace HO217 := Aside0.mk (Kd.R_elder' (uR HO217) (Kd.R_base ho62) hb); replace HO220 := Aside0.mk (Kd.R_elder' (uR HO220) (Kd.R_base ho62) hb); replace BK197 := kb BK197 hb; replace HB := bs HB hb; clear hb ho62
        refine hK.out _ _ (cA12 BK197) (fun hHeld => ?_)
        clear hK K; refine nA 53 ?_
        exact norm_ (by simp only [putAll, Act.put, List.setIfInBounds_toArray, List.set_cons_zero, List.set_cons_succ]) (hCont (.slice Ao60 t215.length co60, v219, v222) _ ⟨hHeld, (mR HO217), (uR HO220), (mR HO223), (uK BK197), (uB HB)⟩)
       skip
       refine Kd.R_lit_step (Kd.int .u8) _ 5 ?hg (N := 53) ?hd (xs := ([(a0_9) % 256, (a0_10) % 256] : List Int)) (inner := [.int .u8 ((a0_9) % 256), .int .u8 ((a0_10) % 256)]) (ok := fun _ => True) (okp := fun _ => True) ?hr ?hp (fun _ hk => hk) trivial (Below.refl _ _) (Nat.le_refl _) (by simp) ?_; (case hd => rfl); (case hg => rfl); (case hr => first | (go_simp; done) | (go_simp; rfl)); (case hp => exact (Reps.one (show Kd.M (Kd.int .u8) _ _ _ ((a0_9) % 256) [.int .u8 ((a0_9) % 256)] from rfl) (Reps.one (show Kd.M (Kd.int .u8) _ _ _ ((a0_10) % 256) [.int .u8 ((a0_10) % 256)] from rfl) (Reps.none _ _))))
       intro v222 w59 ho60 hb hg_ hnew_
       clear hg_ hnew_
       (first | rw [← Ny221.out] at ho60 | (simp only [Int.reduceToNat] at ho60; rw [← Ny221.out] at ho60))
       have HO223 := Aside0.mk (Kd.R_lower (Kd.R_new' (Kd.R_new' ho60 (Kd.R_lt (uR HO_5))) (Kd.R_lt (uR HO217))) (below_size (uB HB))); replace HO_5 := Aside0.mk (Kd.R_elder' (uR HO_5) (Kd.R_base ho60) hb); replace HO217 := Aside0.mk (Kd.R_elder' (uR HO217) (Kd.R_base ho60) hb); replace BK197 := kb BK197 hb; replace HB := bs HB hb; clear hb ho60; obtain ⟨Ao62, co62, eo62⟩ := Kd.R_slice HO217.out
       (first | subst eo62 | (injection eo62 with f1_ f2_ f3_; have f4_ := f1_.symm; have f5_ := f3_.symm; clear f1_ f2_ f3_; subst f4_; subst f5_))
       refine hK.out _ _ (cA12 BK197) (fun hHeld => ?_)
       clear hK K; refine nA 53 ?_
       refine oA 5 (some 44) (fun K hK => ?_)
       refine Kd.R_append_rows_step (Kd.int .u8) (w0 := w) w.heap.size (by rfl) (.tmp 39) (.tmp 43) 26 5 (.int .u8 0) 1 rfl Try.underlying26 info5 rfl (by decide) (by omega) (.slice Ao56 y199.length co56) y199 t215 _ _ _ (fun k_ => some k_ ≠ (.slice Ao62 t215.length co62 : Value).ownBlock ∧ some k_ ≠ (v222 : Value).ownBlock) (fun _ => False) rfl rfl ?aO ?aR (fun _ _ h => h) (fun _ h => h.elim) ?aF ?aB ?aS ?aL ?_
       (case aR => exact rC (Kd.R_reads' HO217.out).2.2)
       (case aB => exact (uB HB))
       (case aF => exact (fun k_ hk => ⟨Kd.fresh' (Kd.R_lt (uR HO217)) k_ hk, Kd.fresh' (Kd.R_lt (uR HO223)) k_ hk⟩))
       (case aO => exact (mR HO_5))
       (case aS => exact (below_size (uB HB)))
       (case aL => have := LMc37.out; omega)
       intro v219 w61 ho hb hg hat
       rw [← Ny218.out] at ho
       have n0_ := Aside0.mk (blk_grown (uK BK197) hg (Kd.R_ne HO_5.out BK197.out (by decide))); have n1_ := Aside0.mk (Kd.R_after (ok := (fun k_ => some k_ ≠ (v222 : Value).ownBlock)) (mR HO217) hg hat); have n2_ := Aside0.mk (Kd.R_after (ok := (fun k_ => some k_ ≠ (.slice Ao62 t215.length co62 : Value).ownBlock)) (mR HO223) hg hat); have n3_ := Aside0.mk (hb); have n4_ := Aside0.mk (ho); clear BK197; clear HO217; clear HO223; clear HB; clear HO_5; have BK197 := n0_; have HO217 := n1_; have HO223 := n2_; have HB := n3_; have HO220 := n4_; clear n0_ n1_ n2_ n3_ n4_; clear ho hb hg hat
       refine hK.out _ _ (cA12 BK197) (fun hHeld => ?_)
       clear hK K; refine nA 44 ?_
       exact norm_ (by simp only [putAll, Act.put, List.setIfInBounds_toArray, List.set_cons_zero, List.set_cons_succ]) (hCont (.slice Ao62 t215.length co62, v219, v222) _ ⟨hHeld, (by refine rR ?_; exact Kd.R_mono HO217.out (fun _ hk => by first | exact ⟨hk.2, hk.1⟩ | exact trivial | (simp [hk]; done) | simp_all)), (uR HO220), (uR HO223), (uK BK197), (uB HB)⟩)
      skip
      refine Kd.R_lit_step (Kd.int .u8) _ 5 ?hg (N := 53) ?hd (xs := ([(a0_9) % 256, (a0_10) % 256] : List Int)) (inner := [.int .u8 ((a0_9) % 256), .int .u8 ((a0_10) % 256)]) (ok := fun _ => True) (okp := fun _ => True) ?hr ?hp (fun _ hk => hk) trivial (Below.refl _ _) (Nat.le_refl _) (by simp) ?_; (case hd => rfl); (case hg => rfl); (case hr => first | (go_simp; done) | (go_simp; rfl)); (case hp => exact (Reps.one (show Kd.M (Kd.int .u8) _ _ _ ((a0_9) % 256) [.int .u8 ((a0_9) % 256)] from rfl) (Reps.one (show Kd.M (Kd.int .u8) _ _ _ ((a0_10) % 256) [.int .u8 ((a0_10) % 256)] from rfl) (Reps.none _ _))))
      intro v222 w58 ho59 hb hg_ hnew_
      clear hg_ hnew_
      (first | rw [← Ny221.out] at ho59 | (simp only [Int.reduceToNat] at ho59; rw [← Ny221.out] at ho59))
      have HO223 := Aside0.mk (Kd.R_lower (Kd.R_new' ho59 (Kd.R_lt (uR HO_5))) (below_size (uB HB))); replace HO_5 := Aside0.mk (Kd.R_elder' (uR HO_5) (Kd.R_base ho59) hb); replace BK197 := kb BK197 hb; replace HB := bs HB hb; clear hb ho59
      refine hK.out _ _ (cA12 BK197) (fun hHeld => ?_)
      clear hK K; refine nA 53 ?_
      refine oA 4 (some 43) (fun K hK => ?_)
      refine gR Try.func77 #[.int .i64 a0_8] ?_
      with_reducible refine (wire_Int.calls a0_8 t215 _ A36.out).mono ?_
      rintro e w60 ⟨v216, rfl, ho0, hb⟩
      refine ⟨_, rfl, ?_⟩
      have HO217 := Aside0.mk (Kd.R_lower (Kd.R_new' (Kd.R_new' ho0 (Kd.R_lt (uR HO_5))) (Kd.R_lt (uR HO223))) (below_size (uB HB))); replace HO_5 := Aside0.mk (Kd.R_elder' (uR HO_5) (Kd.R_base ho0) hb); replace HO223 := Aside0.mk (Kd.R_elder' (uR HO223) (Kd.R_base ho0) hb); replace BK197 := kb BK197 hb; replace HB := bs HB hb; (try clear hb); (try clear hb2); (try clear hk); (try clear hi); (try clear ho0); obtain ⟨Ao62, co62, eo62⟩ := Kd.R_slice HO217.out
      (first | subst eo62 | (injection eo62 with f1_ f2_ f3_; have f4_ := f1_.symm; have f5_ := f3_.symm; clear f1_ f2_ f3_; subst f4_; subst f5_))
      refine hK.out _ _ (cA12 BK197) (fun hHeld => ?_)
      clear hK K; refine nA 43 ?_
      refine oA 5 (some 44) (fun K hK => ?_)
      refine Kd.R_append_rows_step (Kd.int .u8) (w0 := w) w.heap.size (by rfl) (.tmp 39) (.tmp 43) 26 5 (.int .u8 0) 1 rfl Try.underlying26 info5 rfl (by decide) (by omega) (.slice Ao56 y199.length co56) y199 t215 _ _ _ (fun k_ => some k_ ≠ (v222 : Value).ownBlock ∧ some k_ ≠ (.slice Ao62 t215.length co62 : Value).ownBlock) (fun _ => False) rfl rfl ?aO ?aR (fun _ _ h => h) (fun _ h => h.elim) ?aF ?aB ?aS ?aL ?_
      (case aR => exact rC (Kd.R_reads' HO217.out).2.2)
      (case aB => exact (uB HB))
      (case aF => exact (fun k_ hk => ⟨Kd.fresh' (Kd.R_lt (uR HO223)) k_ hk, Kd.fresh' (Kd.R_lt (uR HO217)) k_ hk⟩))
      (case aO => exact (mR HO_5))
      (case aS => exact (below_size (uB HB)))
      (case aL => have := LMc37.out; omega)
      intro v219 w61 ho hb hg hat
      rw [← Ny218.out] at ho
      have n0_ := Aside0.mk (blk_grown (uK BK197) hg (Kd.R_ne HO_5.out BK197.out (by decide))); have n1_ := Aside0.mk (Kd.R_after (ok := (fun k_ => some k_ ≠ (.slice Ao62 t215.length co62 : Value).ownBlock)) (mR HO223) hg hat); have n2_ := Aside0.mk (Kd.R_after (ok := (fun k_ => some k_ ≠ (v222 : Value).ownBlock)) (mR HO217) hg hat); have n3_ := Aside0.mk (hb); have n4_ := Aside0.mk (ho); clear BK197; clear HO223; clear HO217; clear HB; clear HO_5; have BK197 := n0_; have HO223 := n1_; have HO217 := n2_; have HB := n3_; have HO220 := n4_; clear n0_ n1_ n2_ n3_ n4_; clear ho hb hg hat
      refine hK.out _ _ (cA12 BK197) (fun hHeld => ?_)
      clear hK K; refine nA 44 ?_
      exact norm_ (by simp only [putAll, Act.put, List.setIfInBounds_toArray, List.set_cons_zero, List.set_cons_succ]) (hCont (.slice Ao62 t215.length co62, v219, v222) _ ⟨hHeld, (by refine rR ?_; exact Kd.R_mono HO217.out (fun _ hk => by first | exact ⟨hk.2, hk.1⟩ | exact trivial | (simp [hk]; done) | simp_all)), (by refine rR ?_; exact Kd.R_mono HO220.out (fun _ hk => by first | exact ⟨hk.2, hk.1⟩ | exact trivial | (simp [hk]; done) | simp_all)), (uR HO223), (uK BK197), (uB HB)⟩)
     rintro ⟨v216, v219, v222⟩ w63 ⟨hS_, h0_, h1_, h2_, h3_, h4_⟩
     have n0_ : Aside0 (Kd.R (Kd.int .u8) 5 w63 w.heap.size (fun k_ => some k_ ≠ (v219 : Value).ownBlock ∧ some k_ ≠ (v222 : Value).ownBlock) v216 t215) := ⟨h0_⟩
     have n1_ : Aside0 (Kd.R (Kd.int .u8) 5 w63 w.heap.size (fun k_ => some k_ ≠ (v216 : Value).ownBlock ∧ some k_ ≠ (v222 : Value).ownBlock) v219 y218) := ⟨h1_⟩
     have n2_ : Aside0 (Kd.R (Kd.int .u8) 5 w63 w.heap.size (fun k_ => some k_ ≠ (v216 : Value).ownBlock ∧ some k_ ≠ (v219 : Value).ownBlock) v222 y221) := ⟨h2_⟩
     have n3_ : Aside0 (w63.heap[gb197]? = some (.cells #[.int .i64 a0_0, .int .i64 a0_1, .bool a0_2, .int .i64 a0_3, .int .i64 a0_4, .int .i64 a0_5, .int .i64 a0_6, .int .i64 a0_7, .int .i64 a0_8, .int .i64 a0_9, .int .i64 a0_10, .int .i64 a0_11] 62 (0, 0))) := ⟨h3_⟩
     have n4_ : Aside0 (Below w.heap.size w w63) := ⟨h4_⟩
     clear HO_5; clear BK197; clear HB; clear h0_ h1_ h2_ h3_ h4_; have HO217 := n0_; have HO220 := n1_; have HO223 := n2_; have BK197 := n3_; have HB := n4_; clear n0_ n1_ n2_ n3_ n4_
     have hHeld : w63.cell? ⟨gb197, 0, none⟩ = some (.int .i64 a0_0) ∧ w63.cell? ⟨gb197, 1, none⟩ = some (.int .i64 a0_1) ∧ w63.cell? ⟨gb197, 2, none⟩ = some (.bool a0_2) ∧ w63.cell? ⟨gb197, 3, none⟩ = some (.int .i64 a0_3) ∧ w63.cell? ⟨gb197, 4, none⟩ = some (.int .i64 a0_4) ∧ w63.cell? ⟨gb197, 5, none⟩ = some (.int .i64 a0_5) ∧ w63.cell? ⟨gb197, 6, none⟩ = some (.int .i64 a0_6) ∧ w63.cell? ⟨gb197, 7, none⟩ = some (.int .i64 a0_7) ∧ w63.cell? ⟨gb197, 8, none⟩ = some (.int .i64 a0_8) ∧ w63.cell? ⟨gb197, 9, none⟩ = some (.int .i64 a0_9) ∧ w63.cell? ⟨gb197, 10, none⟩ = some (.int .i64 a0_10) ∧ w63.cell? ⟨gb197, 11, none⟩ = some (.int .i64 a0_11) := hS_
     obtain ⟨Ao65, co65, eo65⟩ := Kd.R_slice HO223.out
     (first | subst eo65 | (injection eo65 with f1_ f2_ f3_; have f4_ := f1_.symm; have f5_ := f3_.symm; clear f1_ f2_ f3_; subst f4_; subst f5_))
     refine norm_ (a' := ?_) ?_ ?_
     rotate_left
     ·simp only [putAll, Act.put, List.setIfInBounds_toArray, List.set_cons_zero, List.set_cons_succ]
      rfl
     refine oA 15 (some 54) (fun K hK => ?_)
     refine Kd.R_append_rows_step (Kd.int .u8) (w0 := w) w.heap.size (by rfl) (.tmp 44) (.tmp 53) 26 5 (.int .u8 0) 1 rfl Try.underlying26 info5 rfl (by decide) (by omega) v219 y218 y221 _ _ _ (fun k_ => some k_ ≠ (v216 : Value).ownBlock ∧ some k_ ≠ (.slice Ao65 y221.length co65 : Value).ownBlock) (fun _ => False) rfl rfl ?aO ?aR (fun _ _ h => h) (fun _ h => h.elim) ?aF ?aB ?aS ?aL ?_
     (case aR => exact rC (Kd.R_reads' HO223.out).2.2)
     (case aB => exact (uB HB))
     (case aF => exact (fun k_ hk => ⟨Kd.fresh' (Kd.R_lt (uR HO217)) k_ hk, Kd.fresh' (Kd.R_lt (uR HO223)) k_ hk⟩))
     (case aO => exact (uR HO220))
     (case aS => exact (below_size (uB HB)))
     (case aL => have := LMc38.out; omega)
     intro v225 w64 ho hb hg hat
     rw [← Ny224.out] at ho
     have n0_ := Aside0.mk (blk_grown (uK BK197) hg (Kd.R_ne HO220.out BK197.out (by decide))); have n1_ := Aside0.mk (Kd.R_after (ok := (fun k_ => some k_ ≠ (.slice Ao65 y221.length co65 : Value).ownBlock)) (by refine rR ?_; exact Kd.R_mono HO217.out (fun _ hk => by first | exact ⟨hk.2, hk.1⟩ | exact trivial | (simp [hk]; done) | simp_all)) hg hat); have n2_ := Aside0.mk (Kd.R_after (ok := (fun k_ => some k_ ≠ (v216 : Value).ownBlock)) (uR HO223) hg hat); have n3_ := Aside0.mk (hb); have n4_ := Aside0.mk (ho); clear BK197; clear HO217; clear HO223; clear HB; clear HO220; have BK197 := n0_; have HO217 := n1_; have HO223 := n2_; have HB := n3_; have HO226 := n4_; clear n0_ n1_ n2_ n3_ n4_; clear ho hb hg hat
     refine hK.out _ _ (cA12 BK197) (fun hHeld => ?_)
     clear hK K; refine nA 54 ?_; refine pA 16 (some 5) ?_
     refine dA ?_
     obtain ⟨q66_0, q66_1, q66_2, q66_3, q66_4, q66_5, q66_6, q66_7, q66_8, q66_9, q66_10, q66_11⟩ := cA12 BK197; obtain ⟨f66_0, f66_1, f66_2, f66_3, f66_4, f66_5, f66_6, f66_7, f66_8, f66_9, f66_10, f66_11⟩ := fA12 BK197
     try go_wp2
     go_ret2
     exact ⟨_, gE, by refine rR ?_; exact Kd.R_mono HO226.out (fun _ hk => trivial), uB HB⟩
    rw [if_neg c35] at H
    have c35b0 : (a0_0 == 3) = false := beq_eq_false_iff_ne.mpr c35
    have c35b1 : (a0_0 != 3) = true := bne_iff_ne.mpr c35
    by_cases c67 : a0_0 = 4
    ·rw [if_pos c67] at H
     have c67b0 : (a0_0 == 4) = true := beq_iff_eq.mpr c67
     have c67b1 : (a0_0 != 4) = false := bne_eq_false_iff_eq.mpr c67
     clear c67
     obtain ⟨y233, hy233⟩ : ∃ y_ : List Int, y_ = (([(a0_11 / 256) % 256, (a0_11) % 256] : List Int)) := ⟨_, rfl⟩
     replace H : (if y199.length + y233.length < 140737488355328 then (some ((y199 ++ y233), 0)) else (none)) = some (r1, r2) := by first | (rw [hy233]; with_reducible exact H) | (have H2_ := (Option.bind_some _ _).symm.trans H; rw [hy233]; with_reducible exact H2_) | (have H2_ := (Option.bind_some _ _).symm.trans H; with_reducible exact H2_) | with_reducible exact H | (rw [hy233]; exact H) | exact H
     have Ny233 := Aside0.mk hy233; clear hy233
     by_cases c68 : y199.length + y233.length < 140737488355328
     rotate_left
     ·rw [if_neg c68] at H
      exact absurd H (by simp)
     rw [if_pos c68] at H; have LMc68 := Aside0.mk c68; clear c68
     obtain ⟨y236, hy236⟩ : ∃ y_ : List Int, y_ = (y199 ++ y233) := ⟨_, rfl⟩
     replace H : (some (y236, 0)) = some (r1, r2) := by first | (rw [hy236]; with_reducible exact H) | (have H2_ := (Option.bind_some _ _).symm.trans H; rw [hy236]; with_reducible exact H2_) | (have H2_ := (Option.bind_some _ _).symm.trans H; with_reducible exact H2_) | with_reducible exact H | (rw [hy236]; exact H) | exact H
     have Ny236 := Aside0.mk hy236; clear hy236
     simp only [Option.some.injEq, Prod.mk.injEq] at H
     obtain ⟨rfl, rfl⟩ := H; obtain ⟨q69_0, q69_1, q69_2, q69_3, q69_4, q69_5, q69_6, q69_7, q69_8, q69_9, q69_10, q69_11⟩ := cA12 BK197; obtain ⟨f69_0, f69_1, f69_2, f69_3, f69_4, f69_5, f69_6, f69_7, f69_8, f69_9, f69_10, f69_11⟩ := fA12 BK197
     go_wp2_with (first | ((with_reducible refine gate_dst (N := 66) rfl ?_); refine Kd.R_lit (Kd.int .u8) _ 5 ?hg (N := 66) ?hd (xs := ([(a0_11 / 256) % 256, (a0_11) % 256] : List Int)) (inner := [.int .u8 ((a0_11 / 256) % 256), .int .u8 ((a0_11) % 256)]) (ok := fun _ => True) (okp := fun _ => True) ?hr ?hp (fun _ hk => hk) trivial (Below.refl _ _) (Nat.le_refl _) (by simp) ?_; (case hd => rfl); (case hg => rfl); (case hr => first | (go_simp; done) | (go_simp; rfl)); (case hp => exact (Reps.one (show Kd.M (Kd.int .u8) _ _ _ ((a0_11 / 256) % 256) [.int .u8 ((a0_11 / 256) % 256)] from rfl) (Reps.one (show Kd.M (Kd.int .u8) _ _ _ ((a0_11) % 256) [.int .u8 ((a0_11) % 256)] from rfl) (Reps.none _ _)))); intro v234 w70 ho71 hb hg_ hnew_; clear hg_ hnew_; (first | rw [← Ny233.out] at ho71 | (simp only [Int.reduceToNat] at ho71; rw [← Ny233.out] at ho71)); have HO235 := Aside0.mk (Kd.R_lower (Kd.R_new' ho71 (Kd.R_lt (uR HO_5))) (below_size (uB HB))); replace HO_5 := Aside0.mk (Kd.R_elder' (uR HO_5) (Kd.R_base ho71) hb); replace BK197 := kb BK197 hb; replace HB := bs HB hb; clear hb ho71; obtain ⟨Ao73, co73, eo73⟩ := Kd.R_slice HO235.out; subst eo73) | ((with_reducible refine gate_builtin (b := .append) (xs := #[.tmp 58, .tmp 66]) rfl ?_); at_builtin; refine Kd.R_append_rows (Kd.int .u8) (w0 := w) w.heap.size rfl (.tmp 58) (.tmp 66) 26 5 (.int .u8 0) 1 rfl Try.underlying26 info5 rfl (by decide) (by omega) v200 y199 y233 _ _ _ (fun k_ => some k_ ≠ (.slice Ao73 y233.length co73 : Value).ownBlock) (fun _ => False) rfl rfl ?aO ?aR (fun _ _ h => h) (fun _ h => h.elim) ?aF ?aB ?aS ?aL ?_; (case aR => exact rC (Kd.R_reads' HO235.out).2.2); (case aB => exact (uB HB)); (case aF => exact (fun k_ hk => Kd.fresh' (Kd.R_lt (uR HO235)) k_ hk)); (case aO => exact (mR HO_5)); (case aS => exact (below_size (uB HB))); (case aL => have := LMc68.out; omega); intro v237 w72 ho hb hg hat; rw [← Ny236.out] at ho; have n0_ := Aside0.mk (blk_grown (uK BK197) hg (Kd.R_ne HO_5.out BK197.out (by decide))); have n1_ := Aside0.mk (Kd.R_after (ok := (fun _ => True)) (uR HO235) hg hat); have n2_ := Aside0.mk (hb); have n3_ := Aside0.mk (ho); clear BK197; clear HO235; clear HB; clear HO_5; have BK197 := n0_; have HO235 := n1_; have HB := n2_; have HO238 := n3_; clear n0_ n1_ n2_ n3_; clear ho hb hg hat))
     go_ret2
     exact ⟨_, gE, by refine rR ?_; exact Kd.R_mono HO238.out (fun _ hk => trivial), uB HB⟩
    rw [if_neg c67] at H
    have c67b0 : (a0_0 == 4) = false := beq_eq_false_iff_ne.mpr c67
    have c67b1 : (a0_0 != 4) = true := bne_iff_ne.mpr c67
    simp only [Option.some.injEq, Prod.mk.injEq] at H
    obtain ⟨rfl, rfl⟩ := H; obtain ⟨q74_0, q74_1, q74_2, q74_3, q74_4, q74_5, q74_6, q74_7, q74_8, q74_9, q74_10, q74_11⟩ := cA12 BK197; obtain ⟨f74_0, f74_1, f74_2, f74_3, f74_4, f74_5, f74_6, f74_7, f74_8, f74_9, f74_10, f74_11⟩ := fA12 BK197
    go_wp2
    go_ret2
    exact ⟨_, gE, by refine rR ?_; exact HO_5.out, uB HB⟩
 rw [if_neg c3] at H
 have c3b0 : (t198 == 0) = false := beq_eq_false_iff_ne.mpr c3
 have c3b1 : (t198 != 0) = true := bne_iff_ne.mpr c3
 simp only [Option.some.injEq, Prod.mk.injEq] at H
 obtain ⟨rfl, rfl⟩ := H
 go_enter Try.func54, Try.ntmps54
 go_wp2_with (first | ((with_reducible refine gate_dst (N := 1) rfl ?_); refine bx #[.int .i64 a0_0, .int .i64 a0_1, .bool a0_2, .int .i64 a0_3, .int .i64 a0_4, .int .i64 a0_5, .int .i64 a0_6, .int .i64 a0_7, .int .i64 a0_8, .int .i64 a0_9, .int .i64 a0_10, .int .i64 a0_11] 62 ?_; intro gb197 hg w75 hbox hb; have BK197 := Aside0.mk hbox; have GW197 := ge HB hg; have GE197 := ge HB hg; replace HB := bs HB hb; clear hb hbox hg; obtain ⟨q76_0, q76_1, q76_2, q76_3, q76_4, q76_5, q76_6, q76_7, q76_8, q76_9, q76_10, q76_11⟩ := cA12 BK197; obtain ⟨f76_0, f76_1, f76_2, f76_3, f76_4, f76_5, f76_6, f76_7, f76_8, f76_9, f76_10, f76_11⟩ := fA12 BK197) | ((with_reducible refine gate_callee (f := 75) rfl ?_); refine gL (some 9) Try.func75 #[.agg #[.int .i64 a0_0, .int .i64 a0_1, .bool a0_2, .int .i64 a0_3, .int .i64 a0_4, .int .i64 a0_5, .int .i64 a0_6, .int .i64 a0_7, .int .i64 a0_8, .int .i64 a0_9, .int .i64 a0_10, .int .i64 a0_11]] ?_; (with_reducible refine (object_Check.calls k a0_0 a0_1 a0_2 a0_3 a0_4 a0_5 a0_6 a0_7 a0_8 a0_9 a0_10 a0_11 t198 _ A2.out).mono ?_); rintro e w77 ⟨rfl, hb⟩; refine ⟨_, rfl, ?_⟩; replace BK197 := kb BK197 hb; replace HB := bs HB hb; (try clear hb); (try clear hb2); (try clear hk); (try clear hi)))
 go_ret2
 exact ⟨_, gE, gO, uB HB⟩
def object_Size.f (k : Nat) (a0_0 : Int) (a0_1 : Int) (a0_2 : Bool) (a0_3 : Int) (a0_4 : Int) (a0_5 : Int) (a0_6 : Int) (a0_7 : Int) (a0_8 : Int) (a0_9 : Int) (a0_10 : Int) (a0_11 : Int) : Option (Int) := (object_Bytes.f k a0_0 a0_1 a0_2 a0_3 a0_4 a0_5 a0_6 a0_7 a0_8 a0_9 a0_10 a0_11).bind fun bt240 => (some (bt240.1.length : Int))
theorem object_Size.mono : ∀ a0 a1 a2 a3 a4 a5 a6 a7 a8 a9 a10 a11 k, LeO (object_Size.f k a0 a1 a2 a3 a4 a5 a6 a7 a8 a9 a10 a11) (object_Size.f (k + 1) a0 a1 a2 a3 a4 a5 a6 a7 a8 a9 a10 a11) := by
 intro a0 a1 a2 a3 a4 a5 a6 a7 a8 a9 a10 a11 k
 unfold object_Size.f
 repeat' first
   | (with_reducible exact object_Bytes.mono _ _ _ _ _ _ _ _ _ _ _ _ _)
   | (with_reducible exact LeO.refl _)
   | (with_reducible exact LeO.none _)
   | (with_reducible refine LeO.ite ?_ ?_)
   | (with_reducible refine LeO.bind ?_ (fun _ => ?_))
   | exact object_Bytes.mono _ _ _ _ _ _ _ _ _ _ _ _ _
   | exact LeO.none _
   | refine LeO.ite ?_ ?_
   | refine LeO.bind ?_ (fun _ => ?_)
theorem object_Size.calls (k : Nat) (a0_0 : Int) (a0_1 : Int) (a0_2 : Bool) (a0_3 : Int) (a0_4 : Int) (a0_5 : Int) (a0_6 : Int) (a0_7 : Int) (a0_8 : Int) (a0_9 : Int) (a0_10 : Int) (a0_11 : Int) (r : Int) (w : World) (h : object_Size.f k a0_0 a0_1 a0_2 a0_3 a0_4 a0_5 a0_6 a0_7 a0_8 a0_9 a0_10 a0_11 = some r) :
  Calls Try.prog 90 #[.agg #[.int .i64 a0_0, .int .i64 a0_1, .bool a0_2, .int .i64 a0_3, .int .i64 a0_4, .int .i64 a0_5, .int .i64 a0_6, .int .i64 a0_7, .int .i64 a0_8, .int .i64 a0_9, .int .i64 a0_10, .int .i64 a0_11]] w fun e w' => e = .returned (.int .i64 r) ∧ Below w.heap.size w w' := by
 have hu62 := Try.underlying62; have HB := Aside0.mk (Below.refl w.heap.size w)
 have H : ((object_Bytes.f k a0_0 a0_1 a0_2 a0_3 a0_4 a0_5 a0_6 a0_7 a0_8 a0_9 a0_10 a0_11).bind fun bt240 => (some (bt240.1.length : Int))) = some r := h
 clear h; replace H := Option.bind_eq_some_iff.mp H
 obtain ⟨⟨t240, t243⟩, A20, H⟩ := H
 replace H : (some (t240.length : Int)) = some r := H
 have A2 := Aside0.mk A20; clear A20
 obtain rfl := Option.some.inj H
 go_enter Try.func90, Try.ntmps90
 go_wp2_with (first | ((with_reducible refine gate_dst (N := 1) rfl ?_); refine bx #[.int .i64 a0_0, .int .i64 a0_1, .bool a0_2, .int .i64 a0_3, .int .i64 a0_4, .int .i64 a0_5, .int .i64 a0_6, .int .i64 a0_7, .int .i64 a0_8, .int .i64 a0_9, .int .i64 a0_10, .int .i64 a0_11] 62 ?_; intro gb239 hg w3 hbox hb; have BK239 := Aside0.mk hbox; have GW239 := ge HB hg; have GE239 := ge HB hg; replace HB := bs HB hb; clear hb hbox hg; obtain ⟨q4_0, q4_1, q4_2, q4_3, q4_4, q4_5, q4_6, q4_7, q4_8, q4_9, q4_10, q4_11⟩ := cA12 BK239; obtain ⟨f4_0, f4_1, f4_2, f4_3, f4_4, f4_5, f4_6, f4_7, f4_8, f4_9, f4_10, f4_11⟩ := fA12 BK239) | ((with_reducible refine gate_callee (f := 54) rfl ?_); refine gL (some 7) Try.func54 #[.agg #[.int .i64 a0_0, .int .i64 a0_1, .bool a0_2, .int .i64 a0_3, .int .i64 a0_4, .int .i64 a0_5, .int .i64 a0_6, .int .i64 a0_7, .int .i64 a0_8, .int .i64 a0_9, .int .i64 a0_10, .int .i64 a0_11]] ?_; (with_reducible refine (object_Bytes.calls k a0_0 a0_1 a0_2 a0_3 a0_4 a0_5 a0_6 a0_7 a0_8 a0_9 a0_10 a0_11 t240 t243 _ A2.out).mono ?_); rintro e w5 ⟨v241, rfl, ho0, hb⟩; refine ⟨_, rfl, ?_⟩; have HO242 := Aside0.mk (Kd.R_lower ho0 (below_size (uB HB))); replace BK239 := kb BK239 hb; replace HB := bs HB hb; (try clear hb); (try clear hb2); (try clear hk); (try clear hi); (try clear ho0); obtain ⟨Ao6, co6, eo6⟩ := Kd.R_slice HO242.out; subst eo6))
 go_ret
 exact ⟨gE, uB HB⟩
def batch_size.l0 : Nat → Int → List (S62) → Int → Int → Option (Int)
 | 0, _, _, _, _ => none
 | k + 1, x3, x6, x7, x8 => if x8 < x7 then (if 0 ≤ x8 then (if x8 < (x6.length : Int) then ((object_Size.f k ((rd_T62 x6 x8).f0) ((rd_T62 x6 x8).f1) ((rd_T62 x6 x8).f2.f0) ((rd_T62 x6 x8).f2.f1) ((rd_T62 x6 x8).f2.f2) ((rd_T62 x6 x8).f2.f3) ((rd_T62 x6 x8).f2.f4) ((rd_T62 x6 x8).f2.f5) ((rd_T62 x6 x8).f3.f0) ((rd_T62 x6 x8).f3.f1) ((rd_T62 x6 x8).f3.f2) ((rd_T62 x6 x8).f4)).bind fun t246 => (batch_size.l0 k (wrap64 (x3 + t246)) x6 x7 (wrap64 (x8 + 1)))) else (none)) else (none)) else (some x3)
def batch_size.f (k : Nat) (l0 : List (S62)) : Option (Int) := batch_size.l0 k 3 l0 (l0.length : Int) 0
theorem batch_size.mono_l : ∀ k, (∀ y0 y1 y2 y3, LeO (batch_size.l0 k y0 y1 y2 y3) (batch_size.l0 (k + 1) y0 y1 y2 y3))
 | 0 => fun _ _ _ _ r h => by simp [batch_size.l0] at h
 | k + 1 => by
  have ih0 := batch_size.mono_l k
  ·intro y0 y1 y2 y3
   unfold batch_size.l0
   repeat' first
   | (with_reducible exact ih0 _ _ _ _)
   | (with_reducible exact object_Size.mono _ _ _ _ _ _ _ _ _ _ _ _ _)
   | (with_reducible exact LeO.refl _)
   | (with_reducible exact LeO.none _)
   | (with_reducible refine LeO.ite ?_ ?_)
   | (with_reducible refine LeO.bind ?_ (fun _ => ?_))
   | exact ih0 _ _ _ _
   | exact object_Size.mono _ _ _ _ _ _ _ _ _ _ _ _ _
   | exact LeO.none _
   | refine LeO.ite ?_ ?_
   | refine LeO.bind ?_ (fun _ => ?_)
theorem batch_size.mono : ∀ a0 k, LeO (batch_size.f k a0) (batch_size.f (k + 1) a0) := by
 intro a0 k
 have ih0 := batch_size.mono_l k
 unfold batch_size.f
 repeat' first
   | (with_reducible exact ih0 _ _ _ _)
   | (with_reducible exact object_Size.mono _ _ _ _ _ _ _ _ _ _ _ _ _)
   | (with_reducible exact LeO.refl _)
   | (with_reducible exact LeO.none _)
   | (with_reducible refine LeO.ite ?_ ?_)
   | (with_reducible refine LeO.bind ?_ (fun _ => ?_))
   | exact ih0 _ _ _ _
   | exact object_Size.mono _ _ _ _ _ _ _ _ _ _ _ _ _
   | exact LeO.none _
   | refine LeO.ite ?_ ?_
   | refine LeO.bind ?_ (fun _ => ?_)
theorem batch_size.calls (k : Nat) (A0 : Option Addr) (c0 : Nat) (l0 : List (S62)) (r : Int) (w : World) (hr0 : Kd.C k62 w A0 l0.length l0) (hc0 : l0.length ≤ c0) (h : batch_size.f k l0 = some r) :
  Calls Try.prog 74 #[.slice A0 l0.length c0] w fun e w' => e = .returned (.int .i64 r) ∧ Below w.heap.size w w' := by
 have hu62 := Try.underlying62; have HR0 := Aside0.mk hr0; have HC0 := Aside0.mk hc0; clear hr0 hc0; have HB := Aside0.mk (Below.refl w.heap.size w)
 have H : (batch_size.l0 k 3 l0 (l0.length : Int) 0) = some r := h
 clear h
 have H' := Aside0.mk H
 clear H
 go_enter Try.func74, Try.ntmps74
 go_wp2
 go_loopg [3, 8] k (fun kq v3 v8 w' => ∃ (x3_1 : Int) (x8_1 : Int), v3 = .int .i64 x3_1 ∧ v8 = .int .i64 x8_1 ∧ Aside0 (batch_size.l0 kq x3_1 l0 (l0.length : Int) x8_1 = some r) ∧ Aside0 (kq ≤ k) ∧ Aside0 (Below w.heap.size w w'))
 case atStart => exact ⟨(3), (0), gv, gv, H', ⟨Nat.le_refl _⟩, ⟨uB HB⟩⟩
 case round =>
  clear H'; obtain ⟨x3_1, x8_1, rfl, rfl, HA, HK1, HB⟩ := hrel
  cases gk with
  | zero => exact absurd HA.out (by simp [batch_size.l0])
  | succ k1 =>
   have H := HA.out
   clear HA
   simp only [batch_size.l0] at H
   by_cases c2 : x8_1 < (l0.length : Int)
   ·rw [if_pos c2] at H
    have c2b0 := decide_eq_true c2; clear c2
    by_cases c3 : 0 ≤ x8_1
    rotate_left
    ·rw [if_neg c3] at H
     exact absurd H (by simp)
    rw [if_pos c3] at H; have c3b0 : decide (0 ≤ x8_1) = true := decide_eq_true c3; clear c3
    by_cases c4 : x8_1 < (l0.length : Int)
    rotate_left
    ·rw [if_neg c4] at H
     exact absurd H (by simp)
    rw [if_pos c4] at H; have c4b0 := decide_eq_true c4; clear c4; replace H := Option.bind_eq_some_iff.mp H; obtain ⟨t246, A50, H⟩ := H
    replace H : (batch_size.l0 k1 (wrap64 (x3_1 + t246)) l0 (l0.length : Int) (wrap64 (x8_1 + 1))) = some r := H
    have A5 := Aside0.mk A50; clear A50
    have H' := Aside0.mk H
    clear H
    have p244 : 0 ≤ (x8_1 : Int) := of_decide_eq_true gA
    have q244 : x8_1 < (l0.length : Int) := of_decide_eq_true gA
    obtain ⟨ad244, e244, hx244_0, hx244_1, hx244_2, hx244_3, hx244_4, hx244_5, hx244_6, hx244_7, hx244_8, hx244_9, hx244_10, hx244_11⟩ := at_T62 HR0.out x8_1 p244 q244
    cases e244
    replace hx244_0 := bc HB hx244_0; replace hx244_1 := bc HB hx244_1; replace hx244_2 := bc HB hx244_2; replace hx244_3 := bc HB hx244_3; replace hx244_4 := bc HB hx244_4; replace hx244_5 := bc HB hx244_5; replace hx244_6 := bc HB hx244_6; replace hx244_7 := bc HB hx244_7; replace hx244_8 := bc HB hx244_8; replace hx244_9 := bc HB hx244_9; replace hx244_10 := bc HB hx244_10; replace hx244_11 := bc HB hx244_11; replace p244 := eq_true p244; replace q244 := eq_true q244
    go_wp2_with (first | ((with_reducible refine gate_dst (N := 5) rfl ?_); refine bx #[.int .i64 0, .int .i64 0, .bool false, .int .i64 0, .int .i64 0, .int .i64 0, .int .i64 0, .int .i64 0, .int .i64 0, .int .i64 0, .int .i64 0, .int .i64 0] 62 ?_; intro gb245 hg w6 hbox hb; have BK245 := Aside0.mk hbox; have GW245 := ge HB hg; have GE245 := ge HB hg; replace HB := bs HB hb; clear hb hbox hg; obtain ⟨q7_0, q7_1, q7_2, q7_3, q7_4, q7_5, q7_6, q7_7, q7_8, q7_9, q7_10, q7_11⟩ := cA12 BK245; obtain ⟨f7_0, f7_1, f7_2, f7_3, f7_4, f7_5, f7_6, f7_7, f7_8, f7_9, f7_10, f7_11⟩ := fA12 BK245) | ((with_reducible refine gate_callee (f := 90) rfl ?_); refine gL (some 14) Try.func90 #[.agg #[.int .i64 ((rd_T62 l0 x8_1).f0), .int .i64 ((rd_T62 l0 x8_1).f1), .bool ((rd_T62 l0 x8_1).f2.f0), .int .i64 ((rd_T62 l0 x8_1).f2.f1), .int .i64 ((rd_T62 l0 x8_1).f2.f2), .int .i64 ((rd_T62 l0 x8_1).f2.f3), .int .i64 ((rd_T62 l0 x8_1).f2.f4), .int .i64 ((rd_T62 l0 x8_1).f2.f5), .int .i64 ((rd_T62 l0 x8_1).f3.f0), .int .i64 ((rd_T62 l0 x8_1).f3.f1), .int .i64 ((rd_T62 l0 x8_1).f3.f2), .int .i64 ((rd_T62 l0 x8_1).f4)]] ?_; (with_reducible refine (object_Size.calls k1 ((rd_T62 l0 x8_1).f0) ((rd_T62 l0 x8_1).f1) ((rd_T62 l0 x8_1).f2.f0) ((rd_T62 l0 x8_1).f2.f1) ((rd_T62 l0 x8_1).f2.f2) ((rd_T62 l0 x8_1).f2.f3) ((rd_T62 l0 x8_1).f2.f4) ((rd_T62 l0 x8_1).f2.f5) ((rd_T62 l0 x8_1).f3.f0) ((rd_T62 l0 x8_1).f3.f1) ((rd_T62 l0 x8_1).f3.f2) ((rd_T62 l0 x8_1).f4) t246 _ A5.out).mono ?_); rintro e w8 ⟨rfl, hb⟩; refine ⟨_, rfl, ?_⟩; replace BK245 := kc BK245 hb; replace HB := bs HB hb; (try clear hb); (try clear hb2); (try clear hk); (try clear hi)))
    go_roundg k1
    case measure => have := HK1.out; omega
    case rel => exact ⟨(wrap64 (x3_1 + t246)), (wrap64 (x8_1 + 1)), gv, gv, H', ⟨by have := HK1.out; omega⟩, ⟨uB HB⟩⟩
   rw [if_neg c2] at H
   have c2b0 : decide (x8_1 < (l0.length : Int)) = false := decide_eq_false c2
   clear c2
   obtain rfl := Option.some.inj H
   go_wp2
   go_ret
   exact ⟨gE, uB HB⟩
def batch_Check.f (k : Nat) (a0_0 : Int) (l0_1 : List (S62)) : Option (Int) := if a0_0 < 0 then (some 1) else (if a0_0 > 65535 then (some 1) else (if (l0_1.length : Int) = 0 then (some 1) else (if (l0_1.length : Int) > 32 then (some 1) else ((api_Object_72.f k l0_1).bind fun t248 => (if t248 = true then (some 1) else ((batch_size.f k l0_1).bind fun t249 => (if t249 > 512 then (some 1) else (some 0))))))))
theorem batch_Check.mono : ∀ a0 a1 k, LeO (batch_Check.f k a0 a1) (batch_Check.f (k + 1) a0 a1) := by
 intro a0 a1 k
 unfold batch_Check.f
 repeat' first
   | (with_reducible exact api_Object_72.mono _ _)
   | (with_reducible exact batch_size.mono _ _)
   | (with_reducible exact LeO.refl _)
   | (with_reducible exact LeO.none _)
   | (with_reducible refine LeO.ite ?_ ?_)
   | (with_reducible refine LeO.bind ?_ (fun _ => ?_))
   | exact api_Object_72.mono _ _
   | exact batch_size.mono _ _
   | exact LeO.none _
   | refine LeO.ite ?_ ?_
   | refine LeO.bind ?_ (fun _ => ?_)
theorem batch_Check.calls (k : Nat) (a0_0 : Int) (A0_1 : Option Addr) (c0_1 : Nat) (l0_1 : List (S62)) (r : Int) (w : World) (hr0_1 : Kd.C k62 w A0_1 l0_1.length l0_1) (hc0_1 : l0_1.length ≤ c0_1) (h : batch_Check.f k a0_0 l0_1 = some r) :
  Calls Try.prog 53 #[.agg #[.int .i64 a0_0, .slice A0_1 l0_1.length c0_1]] w fun e w' => e = .returned (.int .i64 r) ∧ Below w.heap.size w w' := by
 have hu45 := Try.underlying45; have HR0_1 := Aside0.mk hr0_1; have HC0_1 := Aside0.mk hc0_1; clear hr0_1 hc0_1; have HB := Aside0.mk (Below.refl w.heap.size w)
 have H : (if a0_0 < 0 then (some 1) else (if a0_0 > 65535 then (some 1) else (if (l0_1.length : Int) = 0 then (some 1) else (if (l0_1.length : Int) > 32 then (some 1) else ((api_Object_72.f k l0_1).bind fun t248 => (if t248 = true then (some 1) else ((batch_size.f k l0_1).bind fun t249 => (if t249 > 512 then (some 1) else (some 0))))))))) = some r := h
 clear h
 by_cases c2 : a0_0 < 0
 ·rw [if_pos c2] at H
  have c2b0 := decide_eq_true c2; clear c2
  obtain rfl := Option.some.inj H
  go_enter Try.func53, Try.ntmps53
  go_wp2_with (first | ((with_reducible refine gate_dst (N := 1) rfl ?_); (try (refine gate_guard (by rfl) ?_; dsimp only)); refine bx #[.int .i64 a0_0, .slice A0_1 l0_1.length c0_1] 45 ?_; intro gb247 hg w3 hbox hb; have BK247 := Aside0.mk hbox; have GW247 := ge HB hg; have GE247 := ge HB hg; replace HB := bs HB hb; clear hb hbox hg; obtain ⟨q4_0, q4_1⟩ := cA2 BK247; obtain ⟨f4_0, f4_1⟩ := fA2 BK247))
  go_ret
  exact ⟨gE, uB HB⟩
 rw [if_neg c2] at H; have c2b0 : decide (a0_0 < 0) = false := decide_eq_false c2; clear c2
 by_cases c5 : a0_0 > 65535
 ·rw [if_pos c5] at H
  have c5b0 : decide (65535 < a0_0) = true := decide_eq_true c5; clear c5
  obtain rfl := Option.some.inj H
  go_enter Try.func53, Try.ntmps53
  go_wp2_with (first | ((with_reducible refine gate_dst (N := 1) rfl ?_); (try (refine gate_guard (by rfl) ?_; dsimp only)); refine bx #[.int .i64 a0_0, .slice A0_1 l0_1.length c0_1] 45 ?_; intro gb247 hg w6 hbox hb; have BK247 := Aside0.mk hbox; have GW247 := ge HB hg; have GE247 := ge HB hg; replace HB := bs HB hb; clear hb hbox hg; obtain ⟨q7_0, q7_1⟩ := cA2 BK247; obtain ⟨f7_0, f7_1⟩ := fA2 BK247))
  go_ret
  exact ⟨gE, uB HB⟩
 rw [if_neg c5] at H; have c5b0 : decide (65535 < a0_0) = false := decide_eq_false c5; clear c5
 by_cases c8 : (l0_1.length : Int) = 0
 ·rw [if_pos c8] at H
  have c8b0 : ((l0_1.length : Int) == 0) = true := beq_iff_eq.mpr c8
  have c8b1 : ((l0_1.length : Int) != 0) = false := bne_eq_false_iff_eq.mpr c8
  clear c8
  obtain rfl := Option.some.inj H
  go_enter Try.func53, Try.ntmps53
  go_wp2_with (first | ((with_reducible refine gate_dst (N := 1) rfl ?_); (try (refine gate_guard (by rfl) ?_; dsimp only)); refine bx #[.int .i64 a0_0, .slice A0_1 l0_1.length c0_1] 45 ?_; intro gb247 hg w9 hbox hb; have BK247 := Aside0.mk hbox; have GW247 := ge HB hg; have GE247 := ge HB hg; replace HB := bs HB hb; clear hb hbox hg; obtain ⟨q10_0, q10_1⟩ := cA2 BK247; obtain ⟨f10_0, f10_1⟩ := fA2 BK247))
  go_ret
  exact ⟨gE, uB HB⟩
 rw [if_neg c8] at H
 have c8b0 : ((l0_1.length : Int) == 0) = false := beq_eq_false_iff_ne.mpr c8
 have c8b1 : ((l0_1.length : Int) != 0) = true := bne_iff_ne.mpr c8
 have c8b2 : ¬ (l0_1 = []) := fun h_ => c8 (by rw [h_]; rfl)
 by_cases c11 : (l0_1.length : Int) > 32
 ·rw [if_pos c11] at H
  have c11b0 : decide (32 < (l0_1.length : Int)) = true := decide_eq_true c11
  have c11b1 : decide (32 < l0_1.length) = true := decide_eq_true (by omega)
  clear c11
  obtain rfl := Option.some.inj H
  go_enter Try.func53, Try.ntmps53
  go_wp2_with (first | ((with_reducible refine gate_dst (N := 1) rfl ?_); (try (refine gate_guard (by rfl) ?_; dsimp only)); refine bx #[.int .i64 a0_0, .slice A0_1 l0_1.length c0_1] 45 ?_; intro gb247 hg w12 hbox hb; have BK247 := Aside0.mk hbox; have GW247 := ge HB hg; have GE247 := ge HB hg; replace HB := bs HB hb; clear hb hbox hg; obtain ⟨q13_0, q13_1⟩ := cA2 BK247; obtain ⟨f13_0, f13_1⟩ := fA2 BK247))
  go_ret
  exact ⟨gE, uB HB⟩
 rw [if_neg c11] at H
 have c11b0 : decide (32 < (l0_1.length : Int)) = false := decide_eq_false c11
 have c11b1 : decide (32 < l0_1.length) = false := decide_eq_false (by omega)
 clear c11; replace H := Option.bind_eq_some_iff.mp H; obtain ⟨t248, A140, H⟩ := H
 replace H : (if t248 = true then (some 1) else ((batch_size.f k l0_1).bind fun t249 => (if t249 > 512 then (some 1) else (some 0)))) = some r := H
 have A14 := Aside0.mk A140; clear A140
 by_cases c15 : t248 = true
 ·subst c15
  rw [if_pos rfl] at H
  obtain rfl := Option.some.inj H
  go_enter Try.func53, Try.ntmps53
  go_wp2_with (first | ((with_reducible refine gate_dst (N := 1) rfl ?_); (try (refine gate_guard (by rfl) ?_; dsimp only)); refine bx #[.int .i64 a0_0, .slice A0_1 l0_1.length c0_1] 45 ?_; intro gb247 hg w16 hbox hb; have BK247 := Aside0.mk hbox; have GW247 := ge HB hg; have GE247 := ge HB hg; replace HB := bs HB hb; clear hb hbox hg; obtain ⟨q17_0, q17_1⟩ := cA2 BK247; obtain ⟨f17_0, f17_1⟩ := fA2 BK247) | (go_at_call 72; (with_reducible refine (api_Object_72.calls k _ _ l0_1  true _ ?side1 ?side2 A14.out).mono ?_); (case side1 => repeat (first | exact (Kd.C_below HR0_1.out HB.out) | (with_reducible refine Kd.C_alloc ?_ _) | (with_reducible refine Kd.C_drewN ?_ _) | (with_reducible refine Kd.C_drew ?_))); (case side2 => exact HC0_1.out); rintro e w18 ⟨rfl, hb⟩; replace BK247 := kb BK247 hb; replace HB := bs HB hb; (try clear hb); (try clear hb2); (try clear hk); (try clear hi)))
  go_ret
  exact ⟨gE, uB HB⟩
 replace c15 := Bool.eq_false_iff.mpr c15
 subst c15
 have H1 : ((batch_size.f k l0_1).bind fun t249 => (if t249 > 512 then (some 1) else (some 0))) = some r := by rw [if_neg (show ¬ (false = true) by decide)] at H; exact H
 clear H; have H := H1; clear H1; replace H := Option.bind_eq_some_iff.mp H; obtain ⟨t249, A190, H⟩ := H
 replace H : (if t249 > 512 then (some 1) else (some 0)) = some r := H
 have A19 := Aside0.mk A190; clear A190
 by_cases c20 : t249 > 512
 ·rw [if_pos c20] at H
  have c20b0 : decide (512 < t249) = true := decide_eq_true c20; clear c20
  obtain rfl := Option.some.inj H
  go_enter Try.func53, Try.ntmps53
  go_wp2_with (first | ((with_reducible refine gate_dst (N := 1) rfl ?_); (try (refine gate_guard (by rfl) ?_; dsimp only)); refine bx #[.int .i64 a0_0, .slice A0_1 l0_1.length c0_1] 45 ?_; intro gb247 hg w21 hbox hb; have BK247 := Aside0.mk hbox; have GW247 := ge HB hg; have GE247 := ge HB hg; replace HB := bs HB hb; clear hb hbox hg; obtain ⟨q22_0, q22_1⟩ := cA2 BK247; obtain ⟨f22_0, f22_1⟩ := fA2 BK247) | (go_at_call 72; (with_reducible refine (api_Object_72.calls k _ _ l0_1  false _ ?side1 ?side2 A14.out).mono ?_); (case side1 => repeat (first | exact (Kd.C_below HR0_1.out HB.out) | (with_reducible refine Kd.C_alloc ?_ _) | (with_reducible refine Kd.C_drewN ?_ _) | (with_reducible refine Kd.C_drew ?_))); (case side2 => exact HC0_1.out); rintro e w23 ⟨rfl, hb⟩; replace BK247 := kb BK247 hb; replace HB := bs HB hb; (try clear hb); (try clear hb2); (try clear hk); (try clear hi); obtain ⟨q24_0, q24_1⟩ := cA2 BK247; obtain ⟨f24_0, f24_1⟩ := fA2 BK247) | (go_at_call 74; (with_reducible refine (batch_size.calls k _ _ l0_1 t249 _ ?side1 ?side2 A19.out).mono ?_); (case side1 => repeat (first | exact (Kd.C_below HR0_1.out HB.out) | (with_reducible refine Kd.C_alloc ?_ _) | (with_reducible refine Kd.C_drewN ?_ _) | (with_reducible refine Kd.C_drew ?_))); (case side2 => exact HC0_1.out); rintro e w25 ⟨rfl, hb⟩; replace BK247 := kb BK247 hb; replace HB := bs HB hb; (try clear hb); (try clear hb2); (try clear hk); (try clear hi)))
  go_ret
  exact ⟨gE, uB HB⟩
 rw [if_neg c20] at H; have c20b0 : decide (512 < t249) = false := decide_eq_false c20; clear c20
 obtain rfl := Option.some.inj H
 go_enter Try.func53, Try.ntmps53
 go_wp2_with (first | ((with_reducible refine gate_dst (N := 1) rfl ?_); (try (refine gate_guard (by rfl) ?_; dsimp only)); refine bx #[.int .i64 a0_0, .slice A0_1 l0_1.length c0_1] 45 ?_; intro gb247 hg w26 hbox hb; have BK247 := Aside0.mk hbox; have GW247 := ge HB hg; have GE247 := ge HB hg; replace HB := bs HB hb; clear hb hbox hg; obtain ⟨q27_0, q27_1⟩ := cA2 BK247; obtain ⟨f27_0, f27_1⟩ := fA2 BK247) | (go_at_call 72; (with_reducible refine (api_Object_72.calls k _ _ l0_1  false _ ?side1 ?side2 A14.out).mono ?_); (case side1 => repeat (first | exact (Kd.C_below HR0_1.out HB.out) | (with_reducible refine Kd.C_alloc ?_ _) | (with_reducible refine Kd.C_drewN ?_ _) | (with_reducible refine Kd.C_drew ?_))); (case side2 => exact HC0_1.out); rintro e w28 ⟨rfl, hb⟩; replace BK247 := kb BK247 hb; replace HB := bs HB hb; (try clear hb); (try clear hb2); (try clear hk); (try clear hi); obtain ⟨q29_0, q29_1⟩ := cA2 BK247; obtain ⟨f29_0, f29_1⟩ := fA2 BK247) | (go_at_call 74; (with_reducible refine (batch_size.calls k _ _ l0_1 t249 _ ?side1 ?side2 A19.out).mono ?_); (case side1 => repeat (first | exact (Kd.C_below HR0_1.out HB.out) | (with_reducible refine Kd.C_alloc ?_ _) | (with_reducible refine Kd.C_drewN ?_ _) | (with_reducible refine Kd.C_drew ?_))); (case side2 => exact HC0_1.out); rintro e w30 ⟨rfl, hb⟩; replace BK247 := kb BK247 hb; replace HB := bs HB hb; (try clear hb); (try clear hb2); (try clear hk); (try clear hi)))
 go_ret
 exact ⟨gE, uB HB⟩
def batch_Bytes.l0 : Nat → List Int → List (S62) → Int → Int → Option (List Int × Int)
 | 0, _, _, _, _ => none
 | k + 1, x5, x28, x29, x30 => if x30 < x29 then (if 0 ≤ x30 then (if x30 < (x28.length : Int) then ((object_Bytes.f k ((rd_T62 x28 x30).f0) ((rd_T62 x28 x30).f1) ((rd_T62 x28 x30).f2.f0) ((rd_T62 x28 x30).f2.f1) ((rd_T62 x28 x30).f2.f2) ((rd_T62 x28 x30).f2.f3) ((rd_T62 x28 x30).f2.f4) ((rd_T62 x28 x30).f2.f5) ((rd_T62 x28 x30).f3.f0) ((rd_T62 x28 x30).f3.f1) ((rd_T62 x28 x30).f3.f2) ((rd_T62 x28 x30).f4)).bind fun bt257 => (if bt257.2 = 0 then (if x5.length + bt257.1.length < 140737488355328 then (batch_Bytes.l0 k (x5 ++ bt257.1) x28 x29 (wrap64 (x30 + 1))) else (none)) else (some (([] : List Int), bt257.2)))) else (none)) else (none)) else (some (x5, 0))
def batch_Bytes.f (k : Nat) (a0_0 : Int) (l0_1 : List (S62)) : Option (List Int × Int) := (batch_Check.f k a0_0 l0_1).bind fun t251 => (if t251 = 0 then (batch_Bytes.l0 k (([(a0_0 / 256) % 256, (a0_0) % 256, ((l0_1.length : Int)) % 256] : List Int)) l0_1 (l0_1.length : Int) 0) else (some (([] : List Int), t251)))
theorem batch_Bytes.mono_l : ∀ k, (∀ y0 y1 y2 y3, LeO (batch_Bytes.l0 k y0 y1 y2 y3) (batch_Bytes.l0 (k + 1) y0 y1 y2 y3))
 | 0 => fun _ _ _ _ r h => by simp [batch_Bytes.l0] at h
 | k + 1 => by
  have ih0 := batch_Bytes.mono_l k
  ·intro y0 y1 y2 y3
   unfold batch_Bytes.l0
   repeat' first
   | (with_reducible exact ih0 _ _ _ _)
   | (with_reducible exact batch_Check.mono _ _ _)
   | (with_reducible exact object_Bytes.mono _ _ _ _ _ _ _ _ _ _ _ _ _)
   | (with_reducible exact LeO.refl _)
   | (with_reducible exact LeO.none _)
   | (with_reducible refine LeO.ite ?_ ?_)
   | (with_reducible refine LeO.bind ?_ (fun _ => ?_))
   | exact ih0 _ _ _ _
   | exact batch_Check.mono _ _ _
   | exact object_Bytes.mono _ _ _ _ _ _ _ _ _ _ _ _ _
   | exact LeO.none _
   | refine LeO.ite ?_ ?_
   | refine LeO.bind ?_ (fun _ => ?_)
theorem batch_Bytes.mono : ∀ a0 a1 k, LeO (batch_Bytes.f k a0 a1) (batch_Bytes.f (k + 1) a0 a1) := by
 intro a0 a1 k
 have ih0 := batch_Bytes.mono_l k
 unfold batch_Bytes.f
 repeat' first
   | (with_reducible exact ih0 _ _ _ _)
   | (with_reducible exact batch_Check.mono _ _ _)
   | (with_reducible exact object_Bytes.mono _ _ _ _ _ _ _ _ _ _ _ _ _)
   | (with_reducible exact LeO.refl _)
   | (with_reducible exact LeO.none _)
   | (with_reducible refine LeO.ite ?_ ?_)
   | (with_reducible refine LeO.bind ?_ (fun _ => ?_))
   | exact ih0 _ _ _ _
   | exact batch_Check.mono _ _ _
   | exact object_Bytes.mono _ _ _ _ _ _ _ _ _ _ _ _ _
   | exact LeO.none _
   | refine LeO.ite ?_ ?_
   | refine LeO.bind ?_ (fun _ => ?_)
theorem batch_Bytes.calls (k : Nat) (a0_0 : Int) (A0_1 : Option Addr) (c0_1 : Nat) (l0_1 : List (S62)) (r1 : List Int) (r2 : Int) (w : World) (hr0_1 : Kd.C k62 w A0_1 l0_1.length l0_1) (hc0_1 : l0_1.length ≤ c0_1) (h : batch_Bytes.f k a0_0 l0_1 = some (r1, r2)) :
  Calls Try.prog 34 #[.agg #[.int .i64 a0_0, .slice A0_1 l0_1.length c0_1]] w fun e w' => ∃ v0_ : Value, e = .returned (.tuple #[v0_, .int .i64 r2]) ∧ Kd.R (Kd.int .u8) 5 w' w.heap.size (fun _ => True) v0_ r1 ∧ Below w.heap.size w w' := by
 have hu45 := Try.underlying45; have hu62 := Try.underlying62; have HR0_1 := Aside0.mk hr0_1; have HC0_1 := Aside0.mk hc0_1; clear hr0_1 hc0_1; have HB := Aside0.mk (Below.refl w.heap.size w)
 have H : ((batch_Check.f k a0_0 l0_1).bind fun t251 => (if t251 = 0 then (batch_Bytes.l0 k (([(a0_0 / 256) % 256, (a0_0) % 256, ((l0_1.length : Int)) % 256] : List Int)) l0_1 (l0_1.length : Int) 0) else (some (([] : List Int), t251)))) = some (r1, r2) := h
 clear h; replace H := Option.bind_eq_some_iff.mp H; obtain ⟨t251, A20, H⟩ := H
 replace H : (if t251 = 0 then (batch_Bytes.l0 k (([(a0_0 / 256) % 256, (a0_0) % 256, ((l0_1.length : Int)) % 256] : List Int)) l0_1 (l0_1.length : Int) 0) else (some (([] : List Int), t251))) = some (r1, r2) := H
 have A2 := Aside0.mk A20; clear A20
 by_cases c3 : t251 = 0
 ·rw [if_pos c3] at H
  have c3b0 : (t251 == 0) = true := beq_iff_eq.mpr c3
  have c3b1 : (t251 != 0) = false := bne_eq_false_iff_eq.mpr c3
  clear c3
  obtain ⟨y252, hy252⟩ : ∃ y_ : List Int, y_ = (([(a0_0 / 256) % 256, (a0_0) % 256, ((l0_1.length : Int)) % 256] : List Int)) := ⟨_, rfl⟩
  replace H : (batch_Bytes.l0 k y252 l0_1 (l0_1.length : Int) 0) = some (r1, r2) := by first | (rw [hy252]; with_reducible exact H) | (have H2_ := (Option.bind_some _ _).symm.trans H; rw [hy252]; with_reducible exact H2_) | (have H2_ := (Option.bind_some _ _).symm.trans H; with_reducible exact H2_) | with_reducible exact H | (rw [hy252]; exact H) | exact H
  have Ny252 := Aside0.mk hy252; clear hy252
  have H' := Aside0.mk H
  clear H
  go_enter Try.func34, Try.ntmps34
  go_wp2_with (first | ((with_reducible refine gate_dst (N := 1) rfl ?_); refine bx #[.int .i64 a0_0, .slice A0_1 l0_1.length c0_1] 45 ?_; intro gb250 hg w4 hbox hb; have BK250 := Aside0.mk hbox; have GW250 := ge HB hg; have GE250 := ge HB hg; replace HB := bs HB hb; clear hb hbox hg; obtain ⟨q5_0, q5_1⟩ := cA2 BK250; obtain ⟨f5_0, f5_1⟩ := fA2 BK250) | ((with_reducible refine gate_callee (f := 53) rfl ?_); refine gL (some 11) Try.func53 #[.agg #[.int .i64 a0_0, .slice A0_1 l0_1.length c0_1]] ?_; (with_reducible refine (batch_Check.calls k a0_0 _ _ l0_1 t251 _ ?side1 ?side2 A2.out).mono ?_); (case side1 => repeat (first | exact (Kd.C_below HR0_1.out HB.out) | (with_reducible refine Kd.C_alloc ?_ _) | (with_reducible refine Kd.C_drewN ?_ _) | (with_reducible refine Kd.C_drew ?_))); (case side2 => exact HC0_1.out); rintro e w6 ⟨rfl, hb⟩; refine ⟨_, rfl, ?_⟩; replace BK250 := kb BK250 hb; replace HB := bs HB hb; (try clear hb); (try clear hb2); (try clear hk); (try clear hi); obtain ⟨q7_0, q7_1⟩ := cA2 BK250; obtain ⟨f7_0, f7_1⟩ := fA2 BK250) | ((with_reducible refine gate_dst (N := 26) rfl ?_); refine Kd.R_lit (Kd.int .u8) _ 5 ?hg (N := 26) ?hd (xs := ([(a0_0 / 256) % 256, (a0_0) % 256, ((l0_1.length : Int)) % 256] : List Int)) (inner := [.int .u8 ((a0_0 / 256) % 256), .int .u8 ((a0_0) % 256), .int .u8 (((l0_1.length : Int)) % 256)]) (ok := fun _ => True) (okp := fun _ => True) ?hr ?hp (fun _ hk => hk) trivial (Below.refl _ _) (Nat.le_refl _) (by simp) ?_; (case hd => rfl); (case hg => rfl); (case hr => first | (go_simp; done) | (go_simp; rfl)); (case hp => exact (Reps.one (show Kd.M (Kd.int .u8) _ _ _ ((a0_0 / 256) % 256) [.int .u8 ((a0_0 / 256) % 256)] from rfl) (Reps.one (show Kd.M (Kd.int .u8) _ _ _ ((a0_0) % 256) [.int .u8 ((a0_0) % 256)] from rfl) (Reps.one (show Kd.M (Kd.int .u8) _ _ _ (((l0_1.length : Int)) % 256) [.int .u8 (((l0_1.length : Int)) % 256)] from rfl) (Reps.none _ _))))); intro v253 w8 ho9 hb hg_ hnew_; clear hg_ hnew_; (first | rw [← Ny252.out] at ho9 | (simp only [Int.reduceToNat] at ho9; rw [← Ny252.out] at ho9)); have HO254 := Aside0.mk (Kd.R_lower ho9 (below_size (uB HB))); replace BK250 := kb BK250 hb; replace HB := bs HB hb; clear hb ho9; obtain ⟨q10_0, q10_1⟩ := cA2 BK250; obtain ⟨f10_0, f10_1⟩ := fA2 BK250))
  go_loopg [5, 30] k (fun kq v5 v30 w' => ∃ (x5_1 : List Int) (x30_1 : Int), v30 = .int .i64 x30_1 ∧ Aside0 (batch_Bytes.l0 kq x5_1 l0_1 (l0_1.length : Int) x30_1 = some (r1, r2)) ∧ Aside0 (kq ≤ k) ∧ Aside0 (Kd.R (Kd.int .u8) 5 w' w.heap.size (fun _ => True) v5 x5_1) ∧ Aside0 (w'.heap[gb250]? = some (.cells #[.int .i64 a0_0, (.slice A0_1 l0_1.length c0_1)] 45 (0, 0))) ∧ Aside0 (Below w.heap.size w w'))
  case atStart => exact ⟨(y252), (0), gv, H', ⟨Nat.le_refl _⟩, ⟨uR HO254⟩, ⟨uK BK250⟩, ⟨uB HB⟩⟩
  case round =>
   clear H'; (try clear p2); (try clear c3); (try clear c3b0); (try clear c3b1); (try clear c5); (try clear q10_0); (try clear q10_1); (try clear q5_0); (try clear q5_1); (try clear q7_0); (try clear q7_1); (try clear f10_0); (try clear f10_1); (try clear f5_0); (try clear f5_1); (try clear f7_0); (try clear f7_1); obtain ⟨x5_1, x30_1, rfl, HA, HK1, HO_5, BK250, HB⟩ := hrel
   cases gk with
   | zero => exact absurd HA.out (by simp [batch_Bytes.l0])
   | succ k1 =>
    have H := HA.out
    clear HA
    simp only [batch_Bytes.l0] at H
    by_cases c11 : x30_1 < (l0_1.length : Int)
    ·rw [if_pos c11] at H
     have c11b0 := decide_eq_true c11; clear c11
     by_cases c12 : 0 ≤ x30_1
     rotate_left
     ·rw [if_neg c12] at H
      exact absurd H (by simp)
     rw [if_pos c12] at H; have c12b0 : decide (0 ≤ x30_1) = true := decide_eq_true c12; clear c12
     by_cases c13 : x30_1 < (l0_1.length : Int)
     rotate_left
     ·rw [if_neg c13] at H
      exact absurd H (by simp)
     rw [if_pos c13] at H; have c13b0 := decide_eq_true c13; clear c13; replace H := Option.bind_eq_some_iff.mp H
     obtain ⟨⟨t257, t260⟩, A140, H⟩ := H
     replace H : (if t260 = 0 then (if x5_1.length + t257.length < 140737488355328 then (batch_Bytes.l0 k1 (x5_1 ++ t257) l0_1 (l0_1.length : Int) (wrap64 (x30_1 + 1))) else (none)) else (some (([] : List Int), t260))) = some (r1, r2) := H
     have A14 := Aside0.mk A140; clear A140
     by_cases c15 : t260 = 0
     ·rw [if_pos c15] at H
      have c15b0 : (t260 == 0) = true := beq_iff_eq.mpr c15
      have c15b1 : (t260 != 0) = false := bne_eq_false_iff_eq.mpr c15
      clear c15
      by_cases c16 : x5_1.length + t257.length < 140737488355328
      rotate_left
      ·rw [if_neg c16] at H
       exact absurd H (by simp)
      rw [if_pos c16] at H; have LMc16 := Aside0.mk c16; clear c16
      obtain ⟨y261, hy261⟩ : ∃ y_ : List Int, y_ = (x5_1 ++ t257) := ⟨_, rfl⟩
      replace H : (batch_Bytes.l0 k1 y261 l0_1 (l0_1.length : Int) (wrap64 (x30_1 + 1))) = some (r1, r2) := by first | (rw [hy261]; with_reducible exact H) | (have H2_ := (Option.bind_some _ _).symm.trans H; rw [hy261]; with_reducible exact H2_) | (have H2_ := (Option.bind_some _ _).symm.trans H; with_reducible exact H2_) | with_reducible exact H | (rw [hy261]; exact H) | exact H
      have Ny261 := Aside0.mk hy261; clear hy261
      have H' := Aside0.mk H
      clear H
      have p255 : 0 ≤ (x30_1 : Int) := of_decide_eq_true gA
      have q255 : x30_1 < (l0_1.length : Int) := of_decide_eq_true gA
      obtain ⟨ad255, e255, hx255_0, hx255_1, hx255_2, hx255_3, hx255_4, hx255_5, hx255_6, hx255_7, hx255_8, hx255_9, hx255_10, hx255_11⟩ := at_T62 HR0_1.out x30_1 p255 q255
      cases e255
      replace hx255_0 := bc HB hx255_0; replace hx255_1 := bc HB hx255_1; replace hx255_2 := bc HB hx255_2; replace hx255_3 := bc HB hx255_3; replace hx255_4 := bc HB hx255_4; replace hx255_5 := bc HB hx255_5; replace hx255_6 := bc HB hx255_6; replace hx255_7 := bc HB hx255_7; replace hx255_8 := bc HB hx255_8; replace hx255_9 := bc HB hx255_9; replace hx255_10 := bc HB hx255_10; replace hx255_11 := bc HB hx255_11; replace p255 := eq_true p255; replace q255 := eq_true q255
      go_wp2_with (first | ((with_reducible refine gate_dst (N := 7) rfl ?_); refine bx #[.int .i64 0, .int .i64 0, .bool false, .int .i64 0, .int .i64 0, .int .i64 0, .int .i64 0, .int .i64 0, .int .i64 0, .int .i64 0, .int .i64 0, .int .i64 0] 62 ?_; intro gb256 hg w17 hbox hb; replace HO_5 := Aside0.mk (Kd.R_below (uR HO_5) hb); have BK256 := Aside0.mk hbox; have GW256 := ge HB hg; have GE256 := ge HB hg; replace HB := bs HB hb; have NB250_256 := nL BK250 hg; have NB256_250 := nG BK250 hg; replace BK250 := kb BK250 hb; clear hb hbox hg; have hnb18 := NB256_250.out; have hnc18 := NB250_256.out; obtain ⟨q19_0, q19_1, q19_2, q19_3, q19_4, q19_5, q19_6, q19_7, q19_8, q19_9, q19_10, q19_11⟩ := cA12 BK256; obtain ⟨f19_0, f19_1, f19_2, f19_3, f19_4, f19_5, f19_6, f19_7, f19_8, f19_9, f19_10, f19_11⟩ := fA12 BK256) | ((with_reducible refine gate_callee (f := 54) rfl ?_); refine gL (some 36) Try.func54 #[.agg #[.int .i64 ((rd_T62 l0_1 x30_1).f0), .int .i64 ((rd_T62 l0_1 x30_1).f1), .bool ((rd_T62 l0_1 x30_1).f2.f0), .int .i64 ((rd_T62 l0_1 x30_1).f2.f1), .int .i64 ((rd_T62 l0_1 x30_1).f2.f2), .int .i64 ((rd_T62 l0_1 x30_1).f2.f3), .int .i64 ((rd_T62 l0_1 x30_1).f2.f4), .int .i64 ((rd_T62 l0_1 x30_1).f2.f5), .int .i64 ((rd_T62 l0_1 x30_1).f3.f0), .int .i64 ((rd_T62 l0_1 x30_1).f3.f1), .int .i64 ((rd_T62 l0_1 x30_1).f3.f2), .int .i64 ((rd_T62 l0_1 x30_1).f4)]] ?_; (with_reducible refine (object_Bytes.calls k1 ((rd_T62 l0_1 x30_1).f0) ((rd_T62 l0_1 x30_1).f1) ((rd_T62 l0_1 x30_1).f2.f0) ((rd_T62 l0_1 x30_1).f2.f1) ((rd_T62 l0_1 x30_1).f2.f2) ((rd_T62 l0_1 x30_1).f2.f3) ((rd_T62 l0_1 x30_1).f2.f4) ((rd_T62 l0_1 x30_1).f2.f5) ((rd_T62 l0_1 x30_1).f3.f0) ((rd_T62 l0_1 x30_1).f3.f1) ((rd_T62 l0_1 x30_1).f3.f2) ((rd_T62 l0_1 x30_1).f4) t257 t260 _ A14.out).mono ?_); rintro e w20 ⟨v258, rfl, ho0, hb⟩; refine ⟨_, rfl, ?_⟩; have HO259 := Aside0.mk (Kd.R_lower (Kd.R_new' ho0 (Kd.R_lt (fR HO_5 BK256))) (below_size (uB HB))); replace HO_5 := Aside0.mk (Kd.R_elder' (fR HO_5 BK256) (Kd.R_base ho0) hb); replace BK250 := kc BK250 hb; replace BK256 := kc BK256 hb; replace HB := bs HB hb; (try clear hb); (try clear hb2); (try clear hk); (try clear hi); (try clear ho0); obtain ⟨Ao22, co22, eo22⟩ := Kd.R_slice HO259.out; subst eo22) | ((with_reducible refine gate_builtin (b := .append) (xs := #[.tmp 42, .tmp 43]) rfl ?_); at_builtin; refine Kd.R_append_rows (Kd.int .u8) (w0 := w) w.heap.size rfl (.tmp 42) (.tmp 43) 26 5 (.int .u8 0) 1 rfl Try.underlying26 info5 rfl (by decide) (by omega) u5 x5_1 t257 _ _ _ (fun k_ => some k_ ≠ (.slice Ao22 t257.length co22 : Value).ownBlock) (fun _ => False) rfl rfl ?aO ?aR (fun _ _ h => h) (fun _ h => h.elim) ?aF ?aB ?aS ?aL ?_; (case aR => exact rC (Kd.R_reads' HO259.out).2.2); (case aB => exact (uB HB)); (case aF => exact (fun k_ hk => Kd.fresh' (Kd.R_lt (uR HO259)) k_ hk)); (case aO => exact (mR HO_5)); (case aS => exact (below_size (uB HB))); (case aL => have := LMc16.out; omega); intro v262 w21 ho hb hg hat; rw [← Ny261.out] at ho; have n0_ := Aside0.mk (blk_grown (uK BK250) hg (Kd.R_ne HO_5.out BK250.out (by decide))); have n1_ := Aside0.mk (blk_grown (uK BK256) hg (Kd.R_ne HO_5.out BK256.out (by decide))); have n2_ := Aside0.mk (Kd.R_after (ok := (fun _ => True)) (uR HO259) hg hat); have n3_ := Aside0.mk (hb); have n4_ := Aside0.mk (ho); clear BK250; clear BK256; clear HO259; clear HB; clear HO_5; have BK250 := n0_; have BK256 := n1_; have HO259 := n2_; have HB := n3_; have HO263 := n4_; clear n0_ n1_ n2_ n3_ n4_; clear ho hb hg hat))
      go_roundg k1
      case measure => have := HK1.out; omega
      case rel => exact ⟨(y261), (wrap64 (x30_1 + 1)), gv, H', ⟨by have := HK1.out; omega⟩, ⟨by refine rR ?_; exact Kd.R_mono HO263.out (fun _ hk => trivial)⟩, ⟨uK BK250⟩, ⟨uB HB⟩⟩
     rw [if_neg c15] at H
     have c15b0 : (t260 == 0) = false := beq_eq_false_iff_ne.mpr c15
     have c15b1 : (t260 != 0) = true := bne_iff_ne.mpr c15
     simp only [Option.some.injEq, Prod.mk.injEq] at H
     obtain ⟨rfl, rfl⟩ := H
     have p255 : 0 ≤ (x30_1 : Int) := of_decide_eq_true gA
     have q255 : x30_1 < (l0_1.length : Int) := of_decide_eq_true gA
     obtain ⟨ad255, e255, hx255_0, hx255_1, hx255_2, hx255_3, hx255_4, hx255_5, hx255_6, hx255_7, hx255_8, hx255_9, hx255_10, hx255_11⟩ := at_T62 HR0_1.out x30_1 p255 q255
     cases e255
     replace hx255_0 := bc HB hx255_0; replace hx255_1 := bc HB hx255_1; replace hx255_2 := bc HB hx255_2; replace hx255_3 := bc HB hx255_3; replace hx255_4 := bc HB hx255_4; replace hx255_5 := bc HB hx255_5; replace hx255_6 := bc HB hx255_6; replace hx255_7 := bc HB hx255_7; replace hx255_8 := bc HB hx255_8; replace hx255_9 := bc HB hx255_9; replace hx255_10 := bc HB hx255_10; replace hx255_11 := bc HB hx255_11; replace p255 := eq_true p255; replace q255 := eq_true q255
     go_wp2_with (first | ((with_reducible refine gate_dst (N := 7) rfl ?_); refine bx #[.int .i64 0, .int .i64 0, .bool false, .int .i64 0, .int .i64 0, .int .i64 0, .int .i64 0, .int .i64 0, .int .i64 0, .int .i64 0, .int .i64 0, .int .i64 0] 62 ?_; intro gb256 hg w23 hbox hb; replace HO_5 := Aside0.mk (Kd.R_below (uR HO_5) hb); have BK256 := Aside0.mk hbox; have GW256 := ge HB hg; have GE256 := ge HB hg; replace HB := bs HB hb; have NB250_256 := nL BK250 hg; have NB256_250 := nG BK250 hg; replace BK250 := kb BK250 hb; clear hb hbox hg; have hnb24 := NB256_250.out; have hnc24 := NB250_256.out; obtain ⟨q25_0, q25_1, q25_2, q25_3, q25_4, q25_5, q25_6, q25_7, q25_8, q25_9, q25_10, q25_11⟩ := cA12 BK256; obtain ⟨f25_0, f25_1, f25_2, f25_3, f25_4, f25_5, f25_6, f25_7, f25_8, f25_9, f25_10, f25_11⟩ := fA12 BK256) | ((with_reducible refine gate_callee (f := 54) rfl ?_); refine gL (some 36) Try.func54 #[.agg #[.int .i64 ((rd_T62 l0_1 x30_1).f0), .int .i64 ((rd_T62 l0_1 x30_1).f1), .bool ((rd_T62 l0_1 x30_1).f2.f0), .int .i64 ((rd_T62 l0_1 x30_1).f2.f1), .int .i64 ((rd_T62 l0_1 x30_1).f2.f2), .int .i64 ((rd_T62 l0_1 x30_1).f2.f3), .int .i64 ((rd_T62 l0_1 x30_1).f2.f4), .int .i64 ((rd_T62 l0_1 x30_1).f2.f5), .int .i64 ((rd_T62 l0_1 x30_1).f3.f0), .int .i64 ((rd_T62 l0_1 x30_1).f3.f1), .int .i64 ((rd_T62 l0_1 x30_1).f3.f2), .int .i64 ((rd_T62 l0_1 x30_1).f4)]] ?_; (with_reducible refine (object_Bytes.calls k1 ((rd_T62 l0_1 x30_1).f0) ((rd_T62 l0_1 x30_1).f1) ((rd_T62 l0_1 x30_1).f2.f0) ((rd_T62 l0_1 x30_1).f2.f1) ((rd_T62 l0_1 x30_1).f2.f2) ((rd_T62 l0_1 x30_1).f2.f3) ((rd_T62 l0_1 x30_1).f2.f4) ((rd_T62 l0_1 x30_1).f2.f5) ((rd_T62 l0_1 x30_1).f3.f0) ((rd_T62 l0_1 x30_1).f3.f1) ((rd_T62 l0_1 x30_1).f3.f2) ((rd_T62 l0_1 x30_1).f4) t257 t260 _ A14.out).mono ?_); rintro e w26 ⟨v258, rfl, ho0, hb⟩; refine ⟨_, rfl, ?_⟩; have HO259 := Aside0.mk (Kd.R_lower (Kd.R_new' ho0 (Kd.R_lt (fR HO_5 BK256))) (below_size (uB HB))); replace HO_5 := Aside0.mk (Kd.R_elder' (fR HO_5 BK256) (Kd.R_base ho0) hb); replace BK250 := kc BK250 hb; replace BK256 := kc BK256 hb; replace HB := bs HB hb; (try clear hb); (try clear hb2); (try clear hk); (try clear hi); (try clear ho0)))
     go_ret2
     exact ⟨_, gE, gO, uB HB⟩
    rw [if_neg c11] at H
    have c11b0 : decide (x30_1 < (l0_1.length : Int)) = false := decide_eq_false c11
    clear c11
    simp only [Option.some.injEq, Prod.mk.injEq] at H
    obtain ⟨rfl, rfl⟩ := H
    go_wp2
    go_ret2
    exact ⟨_, gE, by refine rR ?_; exact HO_5.out, uB HB⟩
 rw [if_neg c3] at H
 have c3b0 : (t251 == 0) = false := beq_eq_false_iff_ne.mpr c3
 have c3b1 : (t251 != 0) = true := bne_iff_ne.mpr c3
 simp only [Option.some.injEq, Prod.mk.injEq] at H
 obtain ⟨rfl, rfl⟩ := H
 go_enter Try.func34, Try.ntmps34
 go_wp2_with (first | ((with_reducible refine gate_dst (N := 1) rfl ?_); refine bx #[.int .i64 a0_0, .slice A0_1 l0_1.length c0_1] 45 ?_; intro gb250 hg w27 hbox hb; have BK250 := Aside0.mk hbox; have GW250 := ge HB hg; have GE250 := ge HB hg; replace HB := bs HB hb; clear hb hbox hg; obtain ⟨q28_0, q28_1⟩ := cA2 BK250; obtain ⟨f28_0, f28_1⟩ := fA2 BK250) | ((with_reducible refine gate_callee (f := 53) rfl ?_); refine gL (some 11) Try.func53 #[.agg #[.int .i64 a0_0, .slice A0_1 l0_1.length c0_1]] ?_; (with_reducible refine (batch_Check.calls k a0_0 _ _ l0_1 t251 _ ?side1 ?side2 A2.out).mono ?_); (case side1 => repeat (first | exact (Kd.C_below HR0_1.out HB.out) | (with_reducible refine Kd.C_alloc ?_ _) | (with_reducible refine Kd.C_drewN ?_ _) | (with_reducible refine Kd.C_drew ?_))); (case side2 => exact HC0_1.out); rintro e w29 ⟨rfl, hb⟩; refine ⟨_, rfl, ?_⟩; replace BK250 := kb BK250 hb; replace HB := bs HB hb; (try clear hb); (try clear hb2); (try clear hk); (try clear hi)))
 go_ret2
 exact ⟨_, gE, gO, uB HB⟩
def packet_Check_1.f (a0 : Int) : Option (Bool) := if a0 ≥ 0 then (some (decide (a0 < 64))) else (some false)
theorem packet_Check_1.calls (a0 : Int) (r : Bool) (w : World) (h : packet_Check_1.f a0 = some r) :
  Calls Try.prog 79 #[.int .i64 a0] w fun e w' => e = .returned (.bool r) ∧ Drawn0 w w' := by
 have H : (if a0 ≥ 0 then (some (decide (a0 < 64))) else (some false)) = some r := h
 clear h
 by_cases c2 : a0 ≥ 0
 ·rw [if_pos c2] at H
  have c2b0 : decide (0 ≤ a0) = true := decide_eq_true c2; clear c2
  obtain rfl := Option.some.inj H
  go_enter Try.func79, Try.ntmps79
  go_wp2
  go_ret
  exact ⟨by first | rfl | (simp; done) | (simp [*]; done), by repeat (first | exact Drawn0.refl _ | apply Drawn0.step)⟩
 rw [if_neg c2] at H; have c2b0 : decide (0 ≤ a0) = false := decide_eq_false c2; clear c2
 obtain rfl := Option.some.inj H
 go_enter Try.func79, Try.ntmps79
 go_wp2
 go_ret
 exact ⟨by first | rfl | (simp; done) | (simp [*]; done), by repeat (first | exact Drawn0.refl _ | apply Drawn0.step)⟩
def packet_Check.f (a0_0 : Int) (a0_1 : Int) (a0_2 : Int) (a0_3 : Int) (a0_4 : ByteArray) : Option (Int) := (packet_Check_1.f a0_0).bind fun t270 => (if t270 = true then ((packet_Check_1.f a0_1).bind fun t271 => (if t271 = true then (if a0_2 < 0 then (some 1) else (if a0_2 > 255 then (some 1) else (if a0_3 < 0 then (some 1) else (if a0_3 > 65535 then (some 1) else (if (a0_4.size : Int) > 256 then (some 1) else (some 0)))))) else (some 1))) else (some 1))
theorem packet_Check.calls (a0_0 : Int) (a0_1 : Int) (a0_2 : Int) (a0_3 : Int) (a0_4 : ByteArray) (r : Int) (w : World) (h : packet_Check.f a0_0 a0_1 a0_2 a0_3 a0_4 = some r) :
  Calls Try.prog 57 #[.agg #[.int .i64 a0_0, .int .i64 a0_1, .int .i64 a0_2, .int .i64 a0_3, .string a0_4]] w fun e w' => e = .returned (.int .i64 r) ∧ Below w.heap.size w w' := by
 have hu48 := Try.underlying48; have HB := Aside0.mk (Below.refl w.heap.size w)
 have H : ((packet_Check_1.f a0_0).bind fun t270 => (if t270 = true then ((packet_Check_1.f a0_1).bind fun t271 => (if t271 = true then (if a0_2 < 0 then (some 1) else (if a0_2 > 255 then (some 1) else (if a0_3 < 0 then (some 1) else (if a0_3 > 65535 then (some 1) else (if (a0_4.size : Int) > 256 then (some 1) else (some 0)))))) else (some 1))) else (some 1))) = some r := h
 clear h; replace H := Option.bind_eq_some_iff.mp H; obtain ⟨t270, A20, H⟩ := H
 replace H : (if t270 = true then ((packet_Check_1.f a0_1).bind fun t271 => (if t271 = true then (if a0_2 < 0 then (some 1) else (if a0_2 > 255 then (some 1) else (if a0_3 < 0 then (some 1) else (if a0_3 > 65535 then (some 1) else (if (a0_4.size : Int) > 256 then (some 1) else (some 0)))))) else (some 1))) else (some 1)) = some r := H
 have A2 := Aside0.mk A20; clear A20
 by_cases c3 : t270 = true
 ·subst c3
  have H1 : ((packet_Check_1.f a0_1).bind fun t271 => (if t271 = true then (if a0_2 < 0 then (some 1) else (if a0_2 > 255 then (some 1) else (if a0_3 < 0 then (some 1) else (if a0_3 > 65535 then (some 1) else (if (a0_4.size : Int) > 256 then (some 1) else (some 0)))))) else (some 1))) = some r := by rw [if_pos rfl] at H; exact H
  clear H; have H := H1; clear H1; replace H := Option.bind_eq_some_iff.mp H; obtain ⟨t271, A40, H⟩ := H
  replace H : (if t271 = true then (if a0_2 < 0 then (some 1) else (if a0_2 > 255 then (some 1) else (if a0_3 < 0 then (some 1) else (if a0_3 > 65535 then (some 1) else (if (a0_4.size : Int) > 256 then (some 1) else (some 0)))))) else (some 1)) = some r := H
  have A4 := Aside0.mk A40; clear A40
  by_cases c5 : t271 = true
  ·subst c5
   rw [if_pos rfl] at H
   by_cases c6 : a0_2 < 0
   ·rw [if_pos c6] at H
    have c6b0 := decide_eq_true c6; clear c6
    obtain rfl := Option.some.inj H
    go_enter Try.func57, Try.ntmps57
    go_wp2_with (first | ((with_reducible refine gate_dst (N := 1) rfl ?_); (try (refine gate_guard (by rfl) ?_; dsimp only)); refine bx #[.int .i64 a0_0, .int .i64 a0_1, .int .i64 a0_2, .int .i64 a0_3, .string a0_4] 48 ?_; intro gb269 hg w7 hbox hb; have BK269 := Aside0.mk hbox; have GW269 := ge HB hg; have GE269 := ge HB hg; replace HB := bs HB hb; clear hb hbox hg; obtain ⟨q8_0, q8_1, q8_2, q8_3, q8_4⟩ := cA5 BK269; obtain ⟨f8_0, f8_1, f8_2, f8_3, f8_4⟩ := fA5 BK269) | (go_at_call 79; (with_reducible refine (packet_Check_1.calls a0_0 true _ A2.out).mono ?_); rintro e w' ⟨rfl, ⟨nd, rfl⟩⟩) | (go_at_call 79; (with_reducible refine (packet_Check_1.calls a0_1 true _ A4.out).mono ?_); rintro e w' ⟨rfl, ⟨nd, rfl⟩⟩))
    go_ret
    exact ⟨gE, uB HB⟩
   rw [if_neg c6] at H; have c6b0 : decide (a0_2 < 0) = false := decide_eq_false c6; clear c6
   by_cases c9 : a0_2 > 255
   ·rw [if_pos c9] at H
    have c9b0 : decide (255 < a0_2) = true := decide_eq_true c9; clear c9
    obtain rfl := Option.some.inj H
    go_enter Try.func57, Try.ntmps57
    go_wp2_with (first | ((with_reducible refine gate_dst (N := 1) rfl ?_); (try (refine gate_guard (by rfl) ?_; dsimp only)); refine bx #[.int .i64 a0_0, .int .i64 a0_1, .int .i64 a0_2, .int .i64 a0_3, .string a0_4] 48 ?_; intro gb269 hg w10 hbox hb; have BK269 := Aside0.mk hbox; have GW269 := ge HB hg; have GE269 := ge HB hg; replace HB := bs HB hb; clear hb hbox hg; obtain ⟨q11_0, q11_1, q11_2, q11_3, q11_4⟩ := cA5 BK269; obtain ⟨f11_0, f11_1, f11_2, f11_3, f11_4⟩ := fA5 BK269) | (go_at_call 79; (with_reducible refine (packet_Check_1.calls a0_0 true _ A2.out).mono ?_); rintro e w' ⟨rfl, ⟨nd, rfl⟩⟩) | (go_at_call 79; (with_reducible refine (packet_Check_1.calls a0_1 true _ A4.out).mono ?_); rintro e w' ⟨rfl, ⟨nd, rfl⟩⟩))
    go_ret
    exact ⟨gE, uB HB⟩
   rw [if_neg c9] at H; have c9b0 : decide (255 < a0_2) = false := decide_eq_false c9; clear c9
   by_cases c12 : a0_3 < 0
   ·rw [if_pos c12] at H
    have c12b0 := decide_eq_true c12; clear c12
    obtain rfl := Option.some.inj H
    go_enter Try.func57, Try.ntmps57
    go_wp2_with (first | ((with_reducible refine gate_dst (N := 1) rfl ?_); (try (refine gate_guard (by rfl) ?_; dsimp only)); refine bx #[.int .i64 a0_0, .int .i64 a0_1, .int .i64 a0_2, .int .i64 a0_3, .string a0_4] 48 ?_; intro gb269 hg w13 hbox hb; have BK269 := Aside0.mk hbox; have GW269 := ge HB hg; have GE269 := ge HB hg; replace HB := bs HB hb; clear hb hbox hg; obtain ⟨q14_0, q14_1, q14_2, q14_3, q14_4⟩ := cA5 BK269; obtain ⟨f14_0, f14_1, f14_2, f14_3, f14_4⟩ := fA5 BK269) | (go_at_call 79; (with_reducible refine (packet_Check_1.calls a0_0 true _ A2.out).mono ?_); rintro e w' ⟨rfl, ⟨nd, rfl⟩⟩) | (go_at_call 79; (with_reducible refine (packet_Check_1.calls a0_1 true _ A4.out).mono ?_); rintro e w' ⟨rfl, ⟨nd, rfl⟩⟩))
    go_ret
    exact ⟨gE, uB HB⟩
   rw [if_neg c12] at H; have c12b0 : decide (a0_3 < 0) = false := decide_eq_false c12; clear c12
   by_cases c15 : a0_3 > 65535
   ·rw [if_pos c15] at H
    have c15b0 : decide (65535 < a0_3) = true := decide_eq_true c15; clear c15
    obtain rfl := Option.some.inj H
    go_enter Try.func57, Try.ntmps57
    go_wp2_with (first | ((with_reducible refine gate_dst (N := 1) rfl ?_); (try (refine gate_guard (by rfl) ?_; dsimp only)); refine bx #[.int .i64 a0_0, .int .i64 a0_1, .int .i64 a0_2, .int .i64 a0_3, .string a0_4] 48 ?_; intro gb269 hg w16 hbox hb; have BK269 := Aside0.mk hbox; have GW269 := ge HB hg; have GE269 := ge HB hg; replace HB := bs HB hb; clear hb hbox hg; obtain ⟨q17_0, q17_1, q17_2, q17_3, q17_4⟩ := cA5 BK269; obtain ⟨f17_0, f17_1, f17_2, f17_3, f17_4⟩ := fA5 BK269) | (go_at_call 79; (with_reducible refine (packet_Check_1.calls a0_0 true _ A2.out).mono ?_); rintro e w' ⟨rfl, ⟨nd, rfl⟩⟩) | (go_at_call 79; (with_reducible refine (packet_Check_1.calls a0_1 true _ A4.out).mono ?_); rintro e w' ⟨rfl, ⟨nd, rfl⟩⟩))
    go_ret
    exact ⟨gE, uB HB⟩
   rw [if_neg c15] at H; have c15b0 : decide (65535 < a0_3) = false := decide_eq_false c15; clear c15
   by_cases c18 : (a0_4.size : Int) > 256
   ·rw [if_pos c18] at H
    have c18b0 : decide (256 < (a0_4.size : Int)) = true := decide_eq_true c18
    have c18b1 : decide (256 < a0_4.size) = true := decide_eq_true (by omega)
    clear c18
    obtain rfl := Option.some.inj H
    go_enter Try.func57, Try.ntmps57
    go_wp2_with (first | ((with_reducible refine gate_dst (N := 1) rfl ?_); (try (refine gate_guard (by rfl) ?_; dsimp only)); refine bx #[.int .i64 a0_0, .int .i64 a0_1, .int .i64 a0_2, .int .i64 a0_3, .string a0_4] 48 ?_; intro gb269 hg w19 hbox hb; have BK269 := Aside0.mk hbox; have GW269 := ge HB hg; have GE269 := ge HB hg; replace HB := bs HB hb; clear hb hbox hg; obtain ⟨q20_0, q20_1, q20_2, q20_3, q20_4⟩ := cA5 BK269; obtain ⟨f20_0, f20_1, f20_2, f20_3, f20_4⟩ := fA5 BK269) | (go_at_call 79; (with_reducible refine (packet_Check_1.calls a0_0 true _ A2.out).mono ?_); rintro e w' ⟨rfl, ⟨nd, rfl⟩⟩) | (go_at_call 79; (with_reducible refine (packet_Check_1.calls a0_1 true _ A4.out).mono ?_); rintro e w' ⟨rfl, ⟨nd, rfl⟩⟩))
    go_ret
    exact ⟨gE, uB HB⟩
   rw [if_neg c18] at H
   have c18b0 : decide (256 < (a0_4.size : Int)) = false := decide_eq_false c18
   have c18b1 : decide (256 < a0_4.size) = false := decide_eq_false (by omega)
   clear c18
   obtain rfl := Option.some.inj H
   go_enter Try.func57, Try.ntmps57
   go_wp2_with (first | ((with_reducible refine gate_dst (N := 1) rfl ?_); (try (refine gate_guard (by rfl) ?_; dsimp only)); refine bx #[.int .i64 a0_0, .int .i64 a0_1, .int .i64 a0_2, .int .i64 a0_3, .string a0_4] 48 ?_; intro gb269 hg w21 hbox hb; have BK269 := Aside0.mk hbox; have GW269 := ge HB hg; have GE269 := ge HB hg; replace HB := bs HB hb; clear hb hbox hg; obtain ⟨q22_0, q22_1, q22_2, q22_3, q22_4⟩ := cA5 BK269; obtain ⟨f22_0, f22_1, f22_2, f22_3, f22_4⟩ := fA5 BK269) | (go_at_call 79; (with_reducible refine (packet_Check_1.calls a0_0 true _ A2.out).mono ?_); rintro e w' ⟨rfl, ⟨nd, rfl⟩⟩) | (go_at_call 79; (with_reducible refine (packet_Check_1.calls a0_1 true _ A4.out).mono ?_); rintro e w' ⟨rfl, ⟨nd, rfl⟩⟩))
   go_ret
   exact ⟨gE, uB HB⟩
  replace c5 := Bool.eq_false_iff.mpr c5
  subst c5
  rw [if_neg (show ¬ (false = true) by decide)] at H
  obtain rfl := Option.some.inj H
  go_enter Try.func57, Try.ntmps57
  go_wp2_with (first | ((with_reducible refine gate_dst (N := 1) rfl ?_); (try (refine gate_guard (by rfl) ?_; dsimp only)); refine bx #[.int .i64 a0_0, .int .i64 a0_1, .int .i64 a0_2, .int .i64 a0_3, .string a0_4] 48 ?_; intro gb269 hg w23 hbox hb; have BK269 := Aside0.mk hbox; have GW269 := ge HB hg; have GE269 := ge HB hg; replace HB := bs HB hb; clear hb hbox hg; obtain ⟨q24_0, q24_1, q24_2, q24_3, q24_4⟩ := cA5 BK269; obtain ⟨f24_0, f24_1, f24_2, f24_3, f24_4⟩ := fA5 BK269) | (go_at_call 79; (with_reducible refine (packet_Check_1.calls a0_0 true _ A2.out).mono ?_); rintro e w' ⟨rfl, ⟨nd, rfl⟩⟩) | (go_at_call 79; (with_reducible refine (packet_Check_1.calls a0_1 false _ A4.out).mono ?_); rintro e w' ⟨rfl, ⟨nd, rfl⟩⟩))
  go_ret
  exact ⟨gE, uB HB⟩
 replace c3 := Bool.eq_false_iff.mpr c3
 subst c3
 rw [if_neg (show ¬ (false = true) by decide)] at H
 obtain rfl := Option.some.inj H
 go_enter Try.func57, Try.ntmps57
 go_wp2_with (first | ((with_reducible refine gate_dst (N := 1) rfl ?_); (try (refine gate_guard (by rfl) ?_; dsimp only)); refine bx #[.int .i64 a0_0, .int .i64 a0_1, .int .i64 a0_2, .int .i64 a0_3, .string a0_4] 48 ?_; intro gb269 hg w25 hbox hb; have BK269 := Aside0.mk hbox; have GW269 := ge HB hg; have GE269 := ge HB hg; replace HB := bs HB hb; clear hb hbox hg; obtain ⟨q26_0, q26_1, q26_2, q26_3, q26_4⟩ := cA5 BK269; obtain ⟨f26_0, f26_1, f26_2, f26_3, f26_4⟩ := fA5 BK269) | (go_at_call 79; (with_reducible refine (packet_Check_1.calls a0_0 false _ A2.out).mono ?_); rintro e w' ⟨rfl, ⟨nd, rfl⟩⟩))
 go_ret
 exact ⟨gE, uB HB⟩
def packet_put.l0 : Nat → List Int → List (S116) → Int → Int → Option (List Int)
 | 0, _, _, _, _ => none
 | k + 1, x3, x8, x9, x10 => if x10 < x9 then (if 0 ≤ x10 then (if x10 < (x8.length : Int) then ((wire_Put.f ((rd_T116 x8 x10).f0) ((rd_T116 x8 x10).f1)).bind fun bt274 => (if x3.length + bt274.1.length < 140737488355328 then (packet_put.l0 k (x3 ++ bt274.1) x8 x9 (wrap64 (x10 + 1))) else (none))) else (none)) else (none)) else (some x3)
def packet_put.f (k : Nat) (l0 : List (S116)) : Option (List Int) := packet_put.l0 k ([] : List Int) l0 (l0.length : Int) 0
theorem packet_put.mono_l : ∀ k, (∀ y0 y1 y2 y3, LeO (packet_put.l0 k y0 y1 y2 y3) (packet_put.l0 (k + 1) y0 y1 y2 y3))
 | 0 => fun _ _ _ _ r h => by simp [packet_put.l0] at h
 | k + 1 => by
  have ih0 := packet_put.mono_l k
  ·intro y0 y1 y2 y3
   unfold packet_put.l0
   repeat' first
   | (with_reducible exact ih0 _ _ _ _)
   | (with_reducible exact LeO.refl _)
   | (with_reducible exact LeO.none _)
   | (with_reducible refine LeO.ite ?_ ?_)
   | (with_reducible refine LeO.bind ?_ (fun _ => ?_))
   | exact ih0 _ _ _ _
   | exact LeO.none _
   | refine LeO.ite ?_ ?_
   | refine LeO.bind ?_ (fun _ => ?_)
theorem packet_put.mono : ∀ a0 k, LeO (packet_put.f k a0) (packet_put.f (k + 1) a0) := by
 intro a0 k
 have ih0 := packet_put.mono_l k
 unfold packet_put.f
 repeat' first
   | (with_reducible exact ih0 _ _ _ _)
   | (with_reducible exact LeO.refl _)
   | (with_reducible exact LeO.none _)
   | (with_reducible refine LeO.ite ?_ ?_)
   | (with_reducible refine LeO.bind ?_ (fun _ => ?_))
   | exact ih0 _ _ _ _
   | exact LeO.none _
   | refine LeO.ite ?_ ?_
   | refine LeO.bind ?_ (fun _ => ?_)
theorem packet_put.calls (k : Nat) (A0 : Option Addr) (c0 : Nat) (l0 : List (S116)) (r : List Int) (w : World) (hr0 : Kd.C k116 w A0 l0.length l0) (hc0 : l0.length ≤ c0) (h : packet_put.f k l0 = some r) :
  Calls Try.prog 58 #[.slice A0 l0.length c0] w fun e w' => ∃ v0_ : Value, e = .returned (v0_) ∧ Kd.R (Kd.int .u8) 5 w' w.heap.size (fun _ => True) v0_ r ∧ Below w.heap.size w w' := by
 have hu116 := Try.underlying116; have HR0 := Aside0.mk hr0; have HC0 := Aside0.mk hc0; clear hr0 hc0; have HB := Aside0.mk (Below.refl w.heap.size w)
 have H : (packet_put.l0 k ([] : List Int) l0 (l0.length : Int) 0) = some r := h
 clear h
 have H' := Aside0.mk H
 clear H
 go_enter Try.func58, Try.ntmps58
 go_wp2
 go_loopg [3, 10] k (fun kq v3 v10 w' => ∃ (x3_1 : List Int) (x10_1 : Int), v10 = .int .i64 x10_1 ∧ Aside0 (packet_put.l0 kq x3_1 l0 (l0.length : Int) x10_1 = some r) ∧ Aside0 (kq ≤ k) ∧ Aside0 (Kd.R (Kd.int .u8) 5 w' w.heap.size (fun _ => True) v3 x3_1) ∧ Aside0 (Below w.heap.size w w'))
 case atStart => exact ⟨(([] : List Int)), (0), gv, H', ⟨Nat.le_refl _⟩, ⟨gO⟩, ⟨uB HB⟩⟩
 case round =>
  clear H'; obtain ⟨x3_1, x10_1, rfl, HA, HK1, HO_3, HB⟩ := hrel
  cases gk with
  | zero => exact absurd HA.out (by simp [packet_put.l0])
  | succ k1 =>
   have H := HA.out
   clear HA
   simp only [packet_put.l0] at H
   by_cases c2 : x10_1 < (l0.length : Int)
   ·rw [if_pos c2] at H
    have c2b0 := decide_eq_true c2; clear c2
    by_cases c3 : 0 ≤ x10_1
    rotate_left
    ·rw [if_neg c3] at H
     exact absurd H (by simp)
    rw [if_pos c3] at H; have c3b0 : decide (0 ≤ x10_1) = true := decide_eq_true c3; clear c3
    by_cases c4 : x10_1 < (l0.length : Int)
    rotate_left
    ·rw [if_neg c4] at H
     exact absurd H (by simp)
    rw [if_pos c4] at H; have c4b0 := decide_eq_true c4; clear c4; replace H := Option.bind_eq_some_iff.mp H
    obtain ⟨⟨t274, t275⟩, A50, H⟩ := H
    replace H : (if x3_1.length + t274.length < 140737488355328 then (packet_put.l0 k1 (x3_1 ++ t274) l0 (l0.length : Int) (wrap64 (x10_1 + 1))) else (none)) = some r := H
    have A5 := Aside0.mk A50; clear A50
    by_cases c6 : x3_1.length + t274.length < 140737488355328
    rotate_left
    ·rw [if_neg c6] at H
     exact absurd H (by simp)
    rw [if_pos c6] at H; have LMc6 := Aside0.mk c6; clear c6
    obtain ⟨y278, hy278⟩ : ∃ y_ : List Int, y_ = (x3_1 ++ t274) := ⟨_, rfl⟩
    replace H : (packet_put.l0 k1 y278 l0 (l0.length : Int) (wrap64 (x10_1 + 1))) = some r := by first | (rw [hy278]; with_reducible exact H) | (have H2_ := (Option.bind_some _ _).symm.trans H; rw [hy278]; with_reducible exact H2_) | (have H2_ := (Option.bind_some _ _).symm.trans H; with_reducible exact H2_) | with_reducible exact H | (rw [hy278]; exact H) | exact H
    have Ny278 := Aside0.mk hy278; clear hy278
    have H' := Aside0.mk H
    clear H
    have p272 : 0 ≤ (x10_1 : Int) := of_decide_eq_true gA
    have q272 : x10_1 < (l0.length : Int) := of_decide_eq_true gA
    obtain ⟨ad272, e272, hx272_0, hx272_1⟩ := at_T116 HR0.out x10_1 p272 q272
    cases e272
    replace hx272_0 := bc HB hx272_0; replace hx272_1 := bc HB hx272_1; replace p272 := eq_true p272; replace q272 := eq_true q272
    go_wp2_with (first | ((with_reducible refine gate_dst (N := 5) rfl ?_); refine bx #[.int .i64 0, .int .i64 0] 116 ?_; intro gb273 hg w7 hbox hb; replace HO_3 := Aside0.mk (Kd.R_below (uR HO_3) hb); have BK273 := Aside0.mk hbox; have GW273 := ge HB hg; have GE273 := ge HB hg; replace HB := bs HB hb; clear hb hbox hg; obtain ⟨q8_0, q8_1⟩ := cA2 BK273; obtain ⟨f8_0, f8_1⟩ := fA2 BK273) | ((with_reducible refine gate_callee (f := 20) rfl ?_); refine gL (some 19) Try.func20 #[.int .i64 ((rd_T116 l0 x10_1).f0), .int .i64 ((rd_T116 l0 x10_1).f1)] ?_; (with_reducible refine (wire_Put.calls ((rd_T116 l0 x10_1).f0) ((rd_T116 l0 x10_1).f1) t274 t275 _ A5.out).mono ?_); rintro e w9 ⟨v276, rfl, ho0, hb⟩; refine ⟨_, rfl, ?_⟩; have HO277 := Aside0.mk (Kd.R_lower (Kd.R_new' ho0 (Kd.R_lt (fR HO_3 BK273))) (below_size (uB HB))); replace HO_3 := Aside0.mk (Kd.R_elder' (fR HO_3 BK273) (Kd.R_base ho0) hb); replace BK273 := kc BK273 hb; replace HB := bs HB hb; (try clear hb); (try clear hb2); (try clear hk); (try clear hi); (try clear ho0); obtain ⟨Ao11, co11, eo11⟩ := Kd.R_slice HO277.out; subst eo11) | ((with_reducible refine gate_builtin (b := .append) (xs := #[.tmp 22, .tmp 23]) rfl ?_); at_builtin; refine Kd.R_append_rows (Kd.int .u8) (w0 := w) w.heap.size rfl (.tmp 22) (.tmp 23) 26 5 (.int .u8 0) 1 rfl Try.underlying26 info5 rfl (by decide) (by omega) u3 x3_1 t274 _ _ _ (fun k_ => some k_ ≠ (.slice Ao11 t274.length co11 : Value).ownBlock) (fun _ => False) rfl rfl ?aO ?aR (fun _ _ h => h) (fun _ h => h.elim) ?aF ?aB ?aS ?aL ?_; (case aR => exact rC (Kd.R_reads' HO277.out).2.2); (case aB => exact (uB HB)); (case aF => exact (fun k_ hk => Kd.fresh' (Kd.R_lt (uR HO277)) k_ hk)); (case aO => exact (mR HO_3)); (case aS => exact (below_size (uB HB))); (case aL => have := LMc6.out; omega); intro v279 w10 ho hb hg hat; rw [← Ny278.out] at ho; have n0_ := Aside0.mk (blk_grown (uK BK273) hg (Kd.R_ne HO_3.out BK273.out (by decide))); have n1_ := Aside0.mk (Kd.R_after (ok := (fun _ => True)) (uR HO277) hg hat); have n2_ := Aside0.mk (hb); have n3_ := Aside0.mk (ho); clear BK273; clear HO277; clear HB; clear HO_3; have BK273 := n0_; have HO277 := n1_; have HB := n2_; have HO280 := n3_; clear n0_ n1_ n2_ n3_; clear ho hb hg hat))
    go_roundg k1
    case measure => have := HK1.out; omega
    case rel => exact ⟨(y278), (wrap64 (x10_1 + 1)), gv, H', ⟨by have := HK1.out; omega⟩, ⟨by refine rR ?_; exact Kd.R_mono HO280.out (fun _ hk => trivial)⟩, ⟨uB HB⟩⟩
   rw [if_neg c2] at H
   have c2b0 : decide (x10_1 < (l0.length : Int)) = false := decide_eq_false c2
   clear c2
   obtain rfl := Option.some.inj H
   go_wp2
   go_ret
   exact ⟨_, gE, by refine rR ?_; exact HO_3.out, uB HB⟩
def packet_Bytes.f (k : Nat) (a0_0 : Int) (a0_1 : Int) (a0_2 : Int) (a0_3 : Int) (a0_4 : ByteArray) : Option (List Int × Int) := (packet_Check.f a0_0 a0_1 a0_2 a0_3 a0_4).bind fun t282 => (if t282 = 0 then ((packet_put.f k (([(⟨a0_0, 1⟩ : S116), (⟨a0_1, 1⟩ : S116), (⟨a0_2, 1⟩ : S116), (⟨a0_3, 2⟩ : S116), (⟨(a0_4.size : Int), 2⟩ : S116)] : List (S116)))).bind fun t286 => (if t286.length + a0_4.size < 140737488355328 then (some ((t286 ++ bytesOf a0_4), 0)) else (none))) else (some (([] : List Int), t282)))
theorem packet_Bytes.mono : ∀ a0 a1 a2 a3 a4 k, LeO (packet_Bytes.f k a0 a1 a2 a3 a4) (packet_Bytes.f (k + 1) a0 a1 a2 a3 a4) := by
 intro a0 a1 a2 a3 a4 k
 unfold packet_Bytes.f
 repeat' first
   | (with_reducible exact packet_put.mono _ _)
   | (with_reducible exact LeO.refl _)
   | (with_reducible exact LeO.none _)
   | (with_reducible refine LeO.ite ?_ ?_)
   | (with_reducible refine LeO.bind ?_ (fun _ => ?_))
   | exact packet_put.mono _ _
   | exact LeO.none _
   | refine LeO.ite ?_ ?_
   | refine LeO.bind ?_ (fun _ => ?_)
theorem packet_Bytes.calls (k : Nat) (a0_0 : Int) (a0_1 : Int) (a0_2 : Int) (a0_3 : Int) (a0_4 : ByteArray) (r1 : List Int) (r2 : Int) (w : World) (h : packet_Bytes.f k a0_0 a0_1 a0_2 a0_3 a0_4 = some (r1, r2)) :
  Calls Try.prog 38 #[.agg #[.int .i64 a0_0, .int .i64 a0_1, .int .i64 a0_2, .int .i64 a0_3, .string a0_4]] w fun e w' => ∃ v0_ : Value, e = .returned (.tuple #[v0_, .int .i64 r2]) ∧ Kd.R (Kd.int .u8) 5 w' w.heap.size (fun _ => True) v0_ r1 ∧ Below w.heap.size w w' := by
 have hu48 := Try.underlying48; have hu116 := Try.underlying116; have HB := Aside0.mk (Below.refl w.heap.size w)
 have H : ((packet_Check.f a0_0 a0_1 a0_2 a0_3 a0_4).bind fun t282 => (if t282 = 0 then ((packet_put.f k (([(⟨a0_0, 1⟩ : S116), (⟨a0_1, 1⟩ : S116), (⟨a0_2, 1⟩ : S116), (⟨a0_3, 2⟩ : S116), (⟨(a0_4.size : Int), 2⟩ : S116)] : List (S116)))).bind fun t286 => (if t286.length + a0_4.size < 140737488355328 then (some ((t286 ++ bytesOf a0_4), 0)) else (none))) else (some (([] : List Int), t282)))) = some (r1, r2) := h
 clear h; replace H := Option.bind_eq_some_iff.mp H; obtain ⟨t282, A20, H⟩ := H
 replace H : (if t282 = 0 then ((packet_put.f k (([(⟨a0_0, 1⟩ : S116), (⟨a0_1, 1⟩ : S116), (⟨a0_2, 1⟩ : S116), (⟨a0_3, 2⟩ : S116), (⟨(a0_4.size : Int), 2⟩ : S116)] : List (S116)))).bind fun t286 => (if t286.length + a0_4.size < 140737488355328 then (some ((t286 ++ bytesOf a0_4), 0)) else (none))) else (some (([] : List Int), t282))) = some (r1, r2) := H
 have A2 := Aside0.mk A20; clear A20
 by_cases c3 : t282 = 0
 ·rw [if_pos c3] at H
  have c3b0 : (t282 == 0) = true := beq_iff_eq.mpr c3
  have c3b1 : (t282 != 0) = false := bne_eq_false_iff_eq.mpr c3
  clear c3
  obtain ⟨y283, hy283⟩ : ∃ y_ : List (S116), y_ = (([(⟨a0_0, 1⟩ : S116), (⟨a0_1, 1⟩ : S116), (⟨a0_2, 1⟩ : S116), (⟨a0_3, 2⟩ : S116), (⟨(a0_4.size : Int), 2⟩ : S116)] : List (S116))) := ⟨_, rfl⟩
  replace H : ((packet_put.f k y283).bind fun t286 => (if t286.length + a0_4.size < 140737488355328 then (some ((t286 ++ bytesOf a0_4), 0)) else (none))) = some (r1, r2) := by first | (rw [hy283]; with_reducible exact H) | (have H2_ := (Option.bind_some _ _).symm.trans H; rw [hy283]; with_reducible exact H2_) | (have H2_ := (Option.bind_some _ _).symm.trans H; with_reducible exact H2_) | with_reducible exact H | (rw [hy283]; exact H) | exact H
  have Ny283 := Aside0.mk hy283; clear hy283; replace H := Option.bind_eq_some_iff.mp H; obtain ⟨t286, A40, H⟩ := H
  replace H : (if t286.length + a0_4.size < 140737488355328 then (some ((t286 ++ bytesOf a0_4), 0)) else (none)) = some (r1, r2) := H
  have A4 := Aside0.mk A40; clear A40
  by_cases c5 : t286.length + a0_4.size < 140737488355328
  rotate_left
  ·rw [if_neg c5] at H
   exact absurd H (by simp)
  rw [if_pos c5] at H; have LMc5 := Aside0.mk c5; clear c5
  obtain ⟨y289, hy289⟩ : ∃ y_ : List Int, y_ = (t286 ++ bytesOf a0_4) := ⟨_, rfl⟩
  replace H : (some (y289, 0)) = some (r1, r2) := by first | (rw [hy289]; with_reducible exact H) | (have H2_ := (Option.bind_some _ _).symm.trans H; rw [hy289]; with_reducible exact H2_) | (have H2_ := (Option.bind_some _ _).symm.trans H; with_reducible exact H2_) | with_reducible exact H | (rw [hy289]; exact H) | exact H
  have Ny289 := Aside0.mk hy289; clear hy289
  simp only [Option.some.injEq, Prod.mk.injEq] at H
  obtain ⟨rfl, rfl⟩ := H
  go_enter Try.func38, Try.ntmps38
  go_wp2_with (first | ((with_reducible refine gate_dst (N := 1) rfl ?_); refine bx #[.int .i64 a0_0, .int .i64 a0_1, .int .i64 a0_2, .int .i64 a0_3, .string a0_4] 48 ?_; intro gb281 hg w6 hbox hb; have BK281 := Aside0.mk hbox; have GW281 := ge HB hg; have GE281 := ge HB hg; replace HB := bs HB hb; clear hb hbox hg; obtain ⟨q7_0, q7_1, q7_2, q7_3, q7_4⟩ := cA5 BK281; obtain ⟨f7_0, f7_1, f7_2, f7_3, f7_4⟩ := fA5 BK281) | ((with_reducible refine gate_callee (f := 57) rfl ?_); refine gL (some 7) Try.func57 #[.agg #[.int .i64 a0_0, .int .i64 a0_1, .int .i64 a0_2, .int .i64 a0_3, .string a0_4]] ?_; (with_reducible refine (packet_Check.calls a0_0 a0_1 a0_2 a0_3 a0_4 t282 _ A2.out).mono ?_); rintro e w8 ⟨rfl, hb⟩; refine ⟨_, rfl, ?_⟩; replace BK281 := kb BK281 hb; replace HB := bs HB hb; (try clear hb); (try clear hb2); (try clear hk); (try clear hi); obtain ⟨q9_0, q9_1, q9_2, q9_3, q9_4⟩ := cA5 BK281; obtain ⟨f9_0, f9_1, f9_2, f9_3, f9_4⟩ := fA5 BK281) | ((with_reducible refine gate_dst (N := 27) rfl ?_); refine Kd.R_lit k116 _ 116 ?hg (N := 27) ?hd (xs := ([(⟨a0_0, 1⟩ : S116), (⟨a0_1, 1⟩ : S116), (⟨a0_2, 1⟩ : S116), (⟨a0_3, 2⟩ : S116), (⟨(a0_4.size : Int), 2⟩ : S116)] : List (S116))) (inner := [.int .i64 a0_0, .int .i64 1, .int .i64 a0_1, .int .i64 1, .int .i64 a0_2, .int .i64 1, .int .i64 a0_3, .int .i64 2, .int .i64 (a0_4.size : Int), .int .i64 2]) (ok := fun _ => True) (okp := fun _ => True) ?hr ?hp (fun _ hk => hk) trivial (Below.refl _ _) (Nat.le_refl _) (by simp) ?_; (case hd => rfl); (case hg => rfl); (case hr => first | (go_simp; done) | (go_simp; rfl)); (case hp => exact (Reps.c2 (show Kd.M k116 _ _ _ (⟨a0_0, 1⟩ : S116) [.int .i64 a0_0, .int .i64 1] from (k116_mkM _ _ _ (⟨a0_0, 1⟩ : S116) )) (Reps.c2 (show Kd.M k116 _ _ _ (⟨a0_1, 1⟩ : S116) [.int .i64 a0_1, .int .i64 1] from (k116_mkM _ _ _ (⟨a0_1, 1⟩ : S116) )) (Reps.c2 (show Kd.M k116 _ _ _ (⟨a0_2, 1⟩ : S116) [.int .i64 a0_2, .int .i64 1] from (k116_mkM _ _ _ (⟨a0_2, 1⟩ : S116) )) (Reps.c2 (show Kd.M k116 _ _ _ (⟨a0_3, 2⟩ : S116) [.int .i64 a0_3, .int .i64 2] from (k116_mkM _ _ _ (⟨a0_3, 2⟩ : S116) )) (Reps.c2 (show Kd.M k116 _ _ _ (⟨(a0_4.size : Int), 2⟩ : S116) [.int .i64 (a0_4.size : Int), .int .i64 2] from (k116_mkM _ _ _ (⟨(a0_4.size : Int), 2⟩ : S116) )) (Reps.none _ _))))))); intro v284 w10 ho11 hb hg_ hnew_; clear hg_ hnew_; (first | rw [← Ny283.out] at ho11 | (simp only [Int.reduceToNat] at ho11; rw [← Ny283.out] at ho11)); have HO285 := Aside0.mk (Kd.R_lower ho11 (below_size (uB HB))); replace BK281 := kb BK281 hb; replace HB := bs HB hb; clear hb ho11; obtain ⟨Ao12, co12, eo12⟩ := Kd.R_slice HO285.out; subst eo12) | ((with_reducible refine gate_callee (f := 58) rfl ?_); refine gL (some 28) Try.func58 #[.slice Ao12 y283.length co12] ?_; (with_reducible refine (packet_put.calls k _ _ y283 t286 _ ?side1 ?side2 A4.out).mono ?_); (case side1 => exact rC (Kd.R_reads' HO285.out).2.2); (case side2 => exact (Kd.R_reads' HO285.out).2.1); rintro e w13 ⟨v287, rfl, ho0, hb⟩; refine ⟨_, rfl, ?_⟩; replace HO285 := Aside0.mk (Kd.R_below (uR HO285) hb); have HO288 := Aside0.mk (Kd.R_lower ho0 (below_size (uB HB))); replace BK281 := kb BK281 hb; replace HB := bs HB hb; (try clear hb); (try clear hb2); (try clear hk); (try clear hi); (try clear ho0); obtain ⟨q14_0, q14_1, q14_2, q14_3, q14_4⟩ := cA5 BK281; obtain ⟨f14_0, f14_1, f14_2, f14_3, f14_4⟩ := fA5 BK281) | (at_builtin; refine print_append_str (w0 := w) w.heap.size rfl (.tmp 29) _ 26 9 5 rfl Try.underlying26 Try.underlying9 info5 v287 t286 a0_4 rfl rfl ?aO ?aB ?aS ?aL ?_; (case aB => exact (uB HB)); (case aO => exact (Kd.own_of_R (uR HO288))); (case aS => exact (below_size (uB HB))); (case aL => have := LMc5.out; omega); intro v290 w15 ho0 hb hg; have ho := Kd.R_of_own (h1 := fun _ => rfl) (ok := fun _ => True) ho0 (fun _ _ => trivial); clear ho0; have hat := True.intro; rw [← Ny289.out] at ho; change Kd.R (Kd.int .u8) 5 w15 w.heap.size (fun _ => True) v290 y289 at ho; have n0_ := Aside0.mk (blk_grown (uK BK281) hg (Kd.R_ne HO288.out BK281.out (by decide))); have n1_ := Aside0.mk (Kd.R_over' (uR HO285) (Kd.R_typed (uR HO288)) (by decide) hg); have n2_ := Aside0.mk (hb); have n3_ := Aside0.mk (ho); clear BK281; clear HO285; clear HB; clear HO288; have BK281 := n0_; have HO285 := n1_; have HB := n2_; have HO291 := n3_; clear n0_ n1_ n2_ n3_; clear ho hb hg hat))
  go_ret2
  exact ⟨_, gE, by refine rR ?_; exact HO291.out, uB HB⟩
 rw [if_neg c3] at H
 have c3b0 : (t282 == 0) = false := beq_eq_false_iff_ne.mpr c3
 have c3b1 : (t282 != 0) = true := bne_iff_ne.mpr c3
 simp only [Option.some.injEq, Prod.mk.injEq] at H
 obtain ⟨rfl, rfl⟩ := H
 go_enter Try.func38, Try.ntmps38
 go_wp2_with (first | ((with_reducible refine gate_dst (N := 1) rfl ?_); refine bx #[.int .i64 a0_0, .int .i64 a0_1, .int .i64 a0_2, .int .i64 a0_3, .string a0_4] 48 ?_; intro gb281 hg w16 hbox hb; have BK281 := Aside0.mk hbox; have GW281 := ge HB hg; have GE281 := ge HB hg; replace HB := bs HB hb; clear hb hbox hg; obtain ⟨q17_0, q17_1, q17_2, q17_3, q17_4⟩ := cA5 BK281; obtain ⟨f17_0, f17_1, f17_2, f17_3, f17_4⟩ := fA5 BK281) | ((with_reducible refine gate_callee (f := 57) rfl ?_); refine gL (some 7) Try.func57 #[.agg #[.int .i64 a0_0, .int .i64 a0_1, .int .i64 a0_2, .int .i64 a0_3, .string a0_4]] ?_; (with_reducible refine (packet_Check.calls a0_0 a0_1 a0_2 a0_3 a0_4 t282 _ A2.out).mono ?_); rintro e w18 ⟨rfl, hb⟩; refine ⟨_, rfl, ?_⟩; replace BK281 := kb BK281 hb; replace HB := bs HB hb; (try clear hb); (try clear hb2); (try clear hk); (try clear hi)))
 go_ret2
 exact ⟨_, gE, gO, uB HB⟩
def ack_right.f (a0_0 : Int) (a0_1 : Int) (a0_2 : Int) (a0_3 : Int) : Option (Bool) := if a0_0 ≥ 0 then (if a0_0 < 64 then (if a0_1 ≥ 0 then (if a0_1 ≤ 4294967295 then (if a0_2 ≥ 0 then (if a0_2 ≤ 65535 then (if a0_3 ≥ 0 then (some (decide (a0_3 ≤ 65535))) else (some false)) else (some false)) else (some false)) else (some false)) else (some false)) else (some false)) else (some false)
theorem ack_right.calls (a0_0 : Int) (a0_1 : Int) (a0_2 : Int) (a0_3 : Int) (r : Bool) (w : World) (h : ack_right.f a0_0 a0_1 a0_2 a0_3 = some r) :
  Calls Try.prog 78 #[.agg #[.int .i64 a0_0, .int .i64 a0_1, .int .i64 a0_2, .int .i64 a0_3]] w fun e w' => e = .returned (.bool r) ∧ Below w.heap.size w w' := by
 have hu106 := Try.underlying106; have HB := Aside0.mk (Below.refl w.heap.size w)
 have H : (if a0_0 ≥ 0 then (if a0_0 < 64 then (if a0_1 ≥ 0 then (if a0_1 ≤ 4294967295 then (if a0_2 ≥ 0 then (if a0_2 ≤ 65535 then (if a0_3 ≥ 0 then (some (decide (a0_3 ≤ 65535))) else (some false)) else (some false)) else (some false)) else (some false)) else (some false)) else (some false)) else (some false)) = some r := h
 clear h
 by_cases c2 : a0_0 ≥ 0
 ·rw [if_pos c2] at H
  have c2b0 : decide (0 ≤ a0_0) = true := decide_eq_true c2; clear c2
  by_cases c3 : a0_0 < 64
  ·rw [if_pos c3] at H
   have c3b0 := decide_eq_true c3; clear c3
   by_cases c4 : a0_1 ≥ 0
   ·rw [if_pos c4] at H
    have c4b0 : decide (0 ≤ a0_1) = true := decide_eq_true c4; clear c4
    by_cases c5 : a0_1 ≤ 4294967295
    ·rw [if_pos c5] at H
     have c5b0 := decide_eq_true c5; clear c5
     by_cases c6 : a0_2 ≥ 0
     ·rw [if_pos c6] at H
      have c6b0 : decide (0 ≤ a0_2) = true := decide_eq_true c6; clear c6
      by_cases c7 : a0_2 ≤ 65535
      ·rw [if_pos c7] at H
       have c7b0 := decide_eq_true c7; clear c7
       by_cases c8 : a0_3 ≥ 0
       ·rw [if_pos c8] at H
        have c8b0 : decide (0 ≤ a0_3) = true := decide_eq_true c8; clear c8
        obtain rfl := Option.some.inj H
        go_enter Try.func78, Try.ntmps78
        go_wp2_with (first | ((with_reducible refine gate_dst (N := 1) rfl ?_); refine bx #[.int .i64 a0_0, .int .i64 a0_1, .int .i64 a0_2, .int .i64 a0_3] 106 ?_; intro gb264 hg w9 hbox hb; have BK264 := Aside0.mk hbox; have GW264 := ge HB hg; have GE264 := ge HB hg; replace HB := bs HB hb; clear hb hbox hg; obtain ⟨q10_0, q10_1, q10_2, q10_3⟩ := cA4 BK264; obtain ⟨f10_0, f10_1, f10_2, f10_3⟩ := fA4 BK264))
        go_ret
        exact ⟨gE, uB HB⟩
       rw [if_neg c8] at H; have c8b0 : decide (0 ≤ a0_3) = false := decide_eq_false c8; clear c8
       obtain rfl := Option.some.inj H
       go_enter Try.func78, Try.ntmps78
       go_wp2_with (first | ((with_reducible refine gate_dst (N := 1) rfl ?_); refine bx #[.int .i64 a0_0, .int .i64 a0_1, .int .i64 a0_2, .int .i64 a0_3] 106 ?_; intro gb264 hg w11 hbox hb; have BK264 := Aside0.mk hbox; have GW264 := ge HB hg; have GE264 := ge HB hg; replace HB := bs HB hb; clear hb hbox hg; obtain ⟨q12_0, q12_1, q12_2, q12_3⟩ := cA4 BK264; obtain ⟨f12_0, f12_1, f12_2, f12_3⟩ := fA4 BK264))
       go_ret
       exact ⟨gE, uB HB⟩
      rw [if_neg c7] at H; have c7b0 : decide (a0_2 ≤ 65535) = false := decide_eq_false c7; clear c7
      obtain rfl := Option.some.inj H
      go_enter Try.func78, Try.ntmps78
      go_wp2_with (first | ((with_reducible refine gate_dst (N := 1) rfl ?_); refine bx #[.int .i64 a0_0, .int .i64 a0_1, .int .i64 a0_2, .int .i64 a0_3] 106 ?_; intro gb264 hg w13 hbox hb; have BK264 := Aside0.mk hbox; have GW264 := ge HB hg; have GE264 := ge HB hg; replace HB := bs HB hb; clear hb hbox hg; obtain ⟨q14_0, q14_1, q14_2, q14_3⟩ := cA4 BK264; obtain ⟨f14_0, f14_1, f14_2, f14_3⟩ := fA4 BK264))
      go_ret
      exact ⟨gE, uB HB⟩
     rw [if_neg c6] at H; have c6b0 : decide (0 ≤ a0_2) = false := decide_eq_false c6; clear c6
     obtain rfl := Option.some.inj H
     go_enter Try.func78, Try.ntmps78
     go_wp2_with (first | ((with_reducible refine gate_dst (N := 1) rfl ?_); refine bx #[.int .i64 a0_0, .int .i64 a0_1, .int .i64 a0_2, .int .i64 a0_3] 106 ?_; intro gb264 hg w15 hbox hb; have BK264 := Aside0.mk hbox; have GW264 := ge HB hg; have GE264 := ge HB hg; replace HB := bs HB hb; clear hb hbox hg; obtain ⟨q16_0, q16_1, q16_2, q16_3⟩ := cA4 BK264; obtain ⟨f16_0, f16_1, f16_2, f16_3⟩ := fA4 BK264))
     go_ret
     exact ⟨gE, uB HB⟩
    rw [if_neg c5] at H; have c5b0 : decide (a0_1 ≤ 4294967295) = false := decide_eq_false c5; clear c5
    obtain rfl := Option.some.inj H
    go_enter Try.func78, Try.ntmps78
    go_wp2_with (first | ((with_reducible refine gate_dst (N := 1) rfl ?_); refine bx #[.int .i64 a0_0, .int .i64 a0_1, .int .i64 a0_2, .int .i64 a0_3] 106 ?_; intro gb264 hg w17 hbox hb; have BK264 := Aside0.mk hbox; have GW264 := ge HB hg; have GE264 := ge HB hg; replace HB := bs HB hb; clear hb hbox hg; obtain ⟨q18_0, q18_1, q18_2, q18_3⟩ := cA4 BK264; obtain ⟨f18_0, f18_1, f18_2, f18_3⟩ := fA4 BK264))
    go_ret
    exact ⟨gE, uB HB⟩
   rw [if_neg c4] at H; have c4b0 : decide (0 ≤ a0_1) = false := decide_eq_false c4; clear c4
   obtain rfl := Option.some.inj H
   go_enter Try.func78, Try.ntmps78
   go_wp2_with (first | ((with_reducible refine gate_dst (N := 1) rfl ?_); refine bx #[.int .i64 a0_0, .int .i64 a0_1, .int .i64 a0_2, .int .i64 a0_3] 106 ?_; intro gb264 hg w19 hbox hb; have BK264 := Aside0.mk hbox; have GW264 := ge HB hg; have GE264 := ge HB hg; replace HB := bs HB hb; clear hb hbox hg; obtain ⟨q20_0, q20_1, q20_2, q20_3⟩ := cA4 BK264; obtain ⟨f20_0, f20_1, f20_2, f20_3⟩ := fA4 BK264))
   go_ret
   exact ⟨gE, uB HB⟩
  rw [if_neg c3] at H; have c3b0 : decide (a0_0 < 64) = false := decide_eq_false c3; clear c3
  obtain rfl := Option.some.inj H
  go_enter Try.func78, Try.ntmps78
  go_wp2_with (first | ((with_reducible refine gate_dst (N := 1) rfl ?_); refine bx #[.int .i64 a0_0, .int .i64 a0_1, .int .i64 a0_2, .int .i64 a0_3] 106 ?_; intro gb264 hg w21 hbox hb; have BK264 := Aside0.mk hbox; have GW264 := ge HB hg; have GE264 := ge HB hg; replace HB := bs HB hb; clear hb hbox hg; obtain ⟨q22_0, q22_1, q22_2, q22_3⟩ := cA4 BK264; obtain ⟨f22_0, f22_1, f22_2, f22_3⟩ := fA4 BK264))
  go_ret
  exact ⟨gE, uB HB⟩
 rw [if_neg c2] at H; have c2b0 : decide (0 ≤ a0_0) = false := decide_eq_false c2; clear c2
 obtain rfl := Option.some.inj H
 go_enter Try.func78, Try.ntmps78
 go_wp2_with (first | ((with_reducible refine gate_dst (N := 1) rfl ?_); refine bx #[.int .i64 a0_0, .int .i64 a0_1, .int .i64 a0_2, .int .i64 a0_3] 106 ?_; intro gb264 hg w23 hbox hb; have BK264 := Aside0.mk hbox; have GW264 := ge HB hg; have GE264 := ge HB hg; replace HB := bs HB hb; clear hb hbox hg; obtain ⟨q24_0, q24_1, q24_2, q24_3⟩ := cA4 BK264; obtain ⟨f24_0, f24_1, f24_2, f24_3⟩ := fA4 BK264))
 go_ret
 exact ⟨gE, uB HB⟩
end Go.Proofs.Ytpgmmnlkiogamaa.P
