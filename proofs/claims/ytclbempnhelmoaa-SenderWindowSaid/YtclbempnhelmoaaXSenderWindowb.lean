/- Walks. -/
import Derived.Laws.LoneSync
import Derived.Test.YtclbempnhelmoaaXSenderWindowa
set_option linter.unusedVariables false
set_option linter.unusedSimpArgs false
set_option maxHeartbeats 8000000
set_option maxRecDepth 100000
namespace Go.Proofs.Ytclbempnhelmoaa.P
open Go.RowKit YtclbempnhelmoaaW.PrintWords YtclbempnhelmoaaW.PrintLast YtclbempnhelmoaaW.PrintMore
open YtclbempnhelmoaaW.PrintWords renaming below_alloc → YA, pw_below_drewN → YB, below_drew1 → YC, below_step → YD, below_size → YE, blk_drewN → YF, blk_drew → YG, blk_alloc → YH, blk_cell → YI, blk_frozen → YJ, blk_below → YK
open YtclbempnhelmoaaW.PrintWords.Aside0 renaming mk → YL
open List renaming map_toArray → YM, length_take → YN, length_drop → YO
attribute [local go_sem] max2_int min2_int max_two min_two max_three min_three max_four min_four
attribute [local go_sem high] eqA34
mutual
def object_Check.j0 : Nat → Bool → Int → Int → Bool → Int → Int → Int → Int → Int → Int → Int → Int → Int → Int → Int → Bool → Int → Int → Int → Int → Int → Int → Int → Int → Int → Option (Int)
 | 0, _, _, _, _, _, _, _, _, _, _, _, _, _, _, _, _, _, _, _, _, _, _, _, _, _ => none
 | k + 1, x4, x137000, x137001, x137002, x137003, x137004, x137005, x137006, x137007, x137008, x137009, x137010, x137011, x138000, x138001, x138002, x138003, x138004, x138005, x138006, x138007, x138008, x138009, x138010, x138011 => if x137000 = 1 then (if x4 = true then (if (!(x138000 == 0) || (!(x138001 == 0) || ((x138002 || (!(x138003 == 0) || (!(x138004 == 0) || (!(x138005 == 0) || (!(x138006 == 0) || (!(x138007 == 0))))))) || ((!(x138008 == 0) || (!(x138009 == 0) || (!(x138010 == 0)))) || (!(x138011 == 0)))))) = true then (some 1) else (some 0)) else (some 1)) else (if x137000 = 4 then (if x4 = true then (if x137002 = true then (object_Check.j1 k false x137000 x137001 true x137003 x137004 x137005 x137006 x137007 x137008 x137009 x137010 x137011 x138000 x138001 x138002 x138003 x138004 x138005 x138006 x138007 x138008 x138009 x138010 0) else (if x137011 ≥ 0 then (object_Check.j1 k (decide (x137011 ≤ 65535)) x137000 x137001 false x137003 x137004 x137005 x137006 x137007 x137008 x137009 x137010 x137011 x138000 x138001 x138002 x138003 x138004 x138005 x138006 x138007 x138008 x138009 x138010 0) else (object_Check.j1 k false x137000 x137001 false x137003 x137004 x137005 x137006 x137007 x137008 x137009 x137010 x137011 x138000 x138001 x138002 x138003 x138004 x138005 x138006 x138007 x138008 x138009 x138010 0))) else (object_Check.j1 k false x137000 x137001 x137002 x137003 x137004 x137005 x137006 x137007 x137008 x137009 x137010 x137011 x138000 x138001 x138002 x138003 x138004 x138005 x138006 x138007 x138008 x138009 x138010 0)) else (if x137000 = 2 then (object_Check.j1 k x4 x137000 x137001 x137002 x137003 x137004 x137005 x137006 x137007 x137008 x137009 x137010 x137011 x138000 x138001 x138002 x138003 x138004 x138005 x138006 x138007 x138008 x138009 x138010 x138011) else (if x137000 = 3 then ((height_At.f k x137008 x137009 x137010 0 0).bind fun bt138 => (if x4 = true then (if bt138.2.2.2.2.2.2 = 0 then (if (!(x138000 == 0) || (!(x138001 == 0) || ((x138002 || (!(x138003 == 0) || (!(x138004 == 0) || (!(x138005 == 0) || (!(x138006 == 0) || (!(x138007 == 0))))))) || (!(x138011 == 0))))) = true then (some 1) else (some 0)) else (some 1)) else (some 1))) else (some 1))))
def object_Check.j1 : Nat → Bool → Int → Int → Bool → Int → Int → Int → Int → Int → Int → Int → Int → Int → Int → Int → Bool → Int → Int → Int → Int → Int → Int → Int → Int → Int → Option (Int)
 | 0, _, _, _, _, _, _, _, _, _, _, _, _, _, _, _, _, _, _, _, _, _, _, _, _, _ => none
 | k + 1, x4, x137000, x137001, x137002, x137003, x137004, x137005, x137006, x137007, x137008, x137009, x137010, x137011, x138000, x138001, x138002, x138003, x138004, x138005, x138006, x138007, x138008, x138009, x138010, x138011 => if x4 = true then ((height_Check.f k x137002 x137003 x137004 x137005 x137006 x137007).bind fun t146 => (if t146 = 0 then (if (!(x138000 == 0) || (!(x138001 == 0) || ((!(x138008 == 0) || (!(x138009 == 0) || (!(x138010 == 0)))) || (!(x138011 == 0))))) = true then (some 1) else (some 0)) else (some 1))) else (some 1)
end
def object_Check.f (k : Nat) (a0_0 : Int) (a0_1 : Int) (a0_2 : Bool) (a0_3 : Int) (a0_4 : Int) (a0_5 : Int) (a0_6 : Int) (a0_7 : Int) (a0_8 : Int) (a0_9 : Int) (a0_10 : Int) (a0_11 : Int) : Option (Int) := if a0_1 ≥ 0 then (object_Check.j0 k (decide (a0_1 < 64)) a0_0 a0_1 a0_2 a0_3 a0_4 a0_5 a0_6 a0_7 a0_8 a0_9 a0_10 a0_11 0 0 a0_2 a0_3 a0_4 a0_5 a0_6 a0_7 a0_8 a0_9 a0_10 a0_11) else (object_Check.j0 k false a0_0 a0_1 a0_2 a0_3 a0_4 a0_5 a0_6 a0_7 a0_8 a0_9 a0_10 a0_11 0 0 a0_2 a0_3 a0_4 a0_5 a0_6 a0_7 a0_8 a0_9 a0_10 a0_11)
theorem object_Check.mono_l : ∀ k, (∀ y0 y1 y2 y3 y4 y5 y6 y7 y8 y9 y10 y11 y12 y13 y14 y15 y16 y17 y18 y19 y20 y21 y22 y23 y24, LeO (object_Check.j0 k y0 y1 y2 y3 y4 y5 y6 y7 y8 y9 y10 y11 y12 y13 y14 y15 y16 y17 y18 y19 y20 y21 y22 y23 y24) (object_Check.j0 (k + 1) y0 y1 y2 y3 y4 y5 y6 y7 y8 y9 y10 y11 y12 y13 y14 y15 y16 y17 y18 y19 y20 y21 y22 y23 y24)) ∧ (∀ y0 y1 y2 y3 y4 y5 y6 y7 y8 y9 y10 y11 y12 y13 y14 y15 y16 y17 y18 y19 y20 y21 y22 y23 y24, LeO (object_Check.j1 k y0 y1 y2 y3 y4 y5 y6 y7 y8 y9 y10 y11 y12 y13 y14 y15 y16 y17 y18 y19 y20 y21 y22 y23 y24) (object_Check.j1 (k + 1) y0 y1 y2 y3 y4 y5 y6 y7 y8 y9 y10 y11 y12 y13 y14 y15 y16 y17 y18 y19 y20 y21 y22 y23 y24))
 | 0 => ⟨fun _ _ _ _ _ _ _ _ _ _ _ _ _ _ _ _ _ _ _ _ _ _ _ _ _ r h => by simp [object_Check.j0] at h, fun _ _ _ _ _ _ _ _ _ _ _ _ _ _ _ _ _ _ _ _ _ _ _ _ _ r h => by simp [object_Check.j1] at h⟩
 | k + 1 => by
  obtain ⟨ih0, ih1⟩ := object_Check.mono_l k
  refine ⟨?_, ?_⟩
  ·intro y0 y1 y2 y3 y4 y5 y6 y7 y8 y9 y10 y11 y12 y13 y14 y15 y16 y17 y18 y19 y20 y21 y22 y23 y24
   unfold object_Check.j0
   repeat' first
   | (with_reducible exact ih0 _ _ _ _ _ _ _ _ _ _ _ _ _ _ _ _ _ _ _ _ _ _ _ _ _)
   | (with_reducible exact ih1 _ _ _ _ _ _ _ _ _ _ _ _ _ _ _ _ _ _ _ _ _ _ _ _ _)
   | (with_reducible exact height_At.mono _ _ _ _ _ _)
   | (with_reducible exact height_Check.mono _ _ _ _ _ _ _)
   | (with_reducible exact LeO.refl _)
   | (with_reducible exact LeO.none _)
   | (with_reducible refine LeO.ite ?_ ?_)
   | (with_reducible refine LeO.bind ?_ (fun _ => ?_))
   | exact ih0 _ _ _ _ _ _ _ _ _ _ _ _ _ _ _ _ _ _ _ _ _ _ _ _ _
   | exact ih1 _ _ _ _ _ _ _ _ _ _ _ _ _ _ _ _ _ _ _ _ _ _ _ _ _
   | exact height_At.mono _ _ _ _ _ _
   | exact height_Check.mono _ _ _ _ _ _ _
   | exact LeO.none _
   | refine LeO.ite ?_ ?_
   | refine LeO.bind ?_ (fun _ => ?_)
  intro y0 y1 y2 y3 y4 y5 y6 y7 y8 y9 y10 y11 y12 y13 y14 y15 y16 y17 y18 y19 y20 y21 y22 y23 y24
  unfold object_Check.j1
  repeat' first
  | (with_reducible exact ih0 _ _ _ _ _ _ _ _ _ _ _ _ _ _ _ _ _ _ _ _ _ _ _ _ _)
  | (with_reducible exact ih1 _ _ _ _ _ _ _ _ _ _ _ _ _ _ _ _ _ _ _ _ _ _ _ _ _)
  | (with_reducible exact height_At.mono _ _ _ _ _ _)
  | (with_reducible exact height_Check.mono _ _ _ _ _ _ _)
  | (with_reducible exact LeO.refl _)
  | (with_reducible exact LeO.none _)
  | (with_reducible refine LeO.ite ?_ ?_)
  | (with_reducible refine LeO.bind ?_ (fun _ => ?_))
  | exact ih0 _ _ _ _ _ _ _ _ _ _ _ _ _ _ _ _ _ _ _ _ _ _ _ _ _
  | exact ih1 _ _ _ _ _ _ _ _ _ _ _ _ _ _ _ _ _ _ _ _ _ _ _ _ _
  | exact height_At.mono _ _ _ _ _ _
  | exact height_Check.mono _ _ _ _ _ _ _
  | exact LeO.none _
  | refine LeO.ite ?_ ?_
  | refine LeO.bind ?_ (fun _ => ?_)
theorem object_Check.mono : ∀ a0 a1 a2 a3 a4 a5 a6 a7 a8 a9 a10 a11 k, LeO (object_Check.f k a0 a1 a2 a3 a4 a5 a6 a7 a8 a9 a10 a11) (object_Check.f (k + 1) a0 a1 a2 a3 a4 a5 a6 a7 a8 a9 a10 a11) := by
 intro a0 a1 a2 a3 a4 a5 a6 a7 a8 a9 a10 a11 k
 obtain ⟨ih0, ih1⟩ := object_Check.mono_l k
 unfold object_Check.f
 repeat' first
   | (with_reducible exact ih0 _ _ _ _ _ _ _ _ _ _ _ _ _ _ _ _ _ _ _ _ _ _ _ _ _)
   | (with_reducible exact ih1 _ _ _ _ _ _ _ _ _ _ _ _ _ _ _ _ _ _ _ _ _ _ _ _ _)
   | (with_reducible exact height_At.mono _ _ _ _ _ _)
   | (with_reducible exact height_Check.mono _ _ _ _ _ _ _)
   | (with_reducible exact LeO.refl _)
   | (with_reducible exact LeO.none _)
   | (with_reducible refine LeO.ite ?_ ?_)
   | (with_reducible refine LeO.bind ?_ (fun _ => ?_))
   | exact ih0 _ _ _ _ _ _ _ _ _ _ _ _ _ _ _ _ _ _ _ _ _ _ _ _ _
   | exact ih1 _ _ _ _ _ _ _ _ _ _ _ _ _ _ _ _ _ _ _ _ _ _ _ _ _
   | exact height_At.mono _ _ _ _ _ _
   | exact height_Check.mono _ _ _ _ _ _ _
   | exact LeO.none _
   | refine LeO.ite ?_ ?_
   | refine LeO.bind ?_ (fun _ => ?_)
theorem object_Check.calls (k : Nat) (a0_0 : Int) (a0_1 : Int) (a0_2 : Bool) (a0_3 : Int) (a0_4 : Int) (a0_5 : Int) (a0_6 : Int) (a0_7 : Int) (a0_8 : Int) (a0_9 : Int) (a0_10 : Int) (a0_11 : Int) (r : Int) (w : World) (h : object_Check.f k a0_0 a0_1 a0_2 a0_3 a0_4 a0_5 a0_6 a0_7 a0_8 a0_9 a0_10 a0_11 = some r) :
  Calls Try.prog 26 #[.agg #[.int .i64 a0_0, .int .i64 a0_1, .bool a0_2, .int .i64 a0_3, .int .i64 a0_4, .int .i64 a0_5, .int .i64 a0_6, .int .i64 a0_7, .int .i64 a0_8, .int .i64 a0_9, .int .i64 a0_10, .int .i64 a0_11]] w fun e w' => e = .returned (.int .i64 r) ∧ Below w.heap.size w w' := by
 have hu34 := Try.underlying34
 have hu30 := Try.underlying30
 have hu32 := Try.underlying32
 have HB := YL (Below.refl w.heap.size w)
 have H : (if a0_1 ≥ 0 then (object_Check.j0 k (decide (a0_1 < 64)) a0_0 a0_1 a0_2 a0_3 a0_4 a0_5 a0_6 a0_7 a0_8 a0_9 a0_10 a0_11 0 0 a0_2 a0_3 a0_4 a0_5 a0_6 a0_7 a0_8 a0_9 a0_10 a0_11) else (object_Check.j0 k false a0_0 a0_1 a0_2 a0_3 a0_4 a0_5 a0_6 a0_7 a0_8 a0_9 a0_10 a0_11 0 0 a0_2 a0_3 a0_4 a0_5 a0_6 a0_7 a0_8 a0_9 a0_10 a0_11)) = some r := h
 clear h; have HC2 := YL H; clear H
 go_enter Try.func26, Try.ntmps26
 go_upto_region 3 with (first | ((with_reducible refine gate_dst (N := 1) rfl ?_); refine box_event ?hg (N := 1) ?hd (cs := #[.int .i64 a0_0, .int .i64 a0_1, .bool a0_2, .int .i64 a0_3, .int .i64 a0_4, .int .i64 a0_5, .int .i64 a0_6, .int .i64 a0_7, .int .i64 a0_8, .int .i64 a0_9, .int .i64 a0_10, .int .i64 a0_11]) (t := 34) ?hr ?_; (case hd => rfl); (case hg => rfl); (case hr => first | (go_simp; done) | (go_simp; rfl)); intro gb136 hg w3 hbox hb; have n0_ := YL (YD (by repeat (first | (with_reducible first | exact HB.out | apply YA | apply YB | apply YC) | exact HB.out)) hb); have n1_ := YL (hbox); have n2_ := YL ((by rw [hg]; exact (YE (by repeat (first | (with_reducible first | exact HB.out | apply YA | apply YB | apply YC) | exact HB.out))) : w.heap.size ≤ gb136)); have n3_ := YL ((by rw [hg]; exact (YE (by repeat (first | (with_reducible first | exact HB.out | apply YA | apply YB | apply YC) | exact HB.out))) : w.heap.size ≤ gb136)); clear HB; have HB := n0_; have BK136 := n1_; have GW136 := n2_; have GE136 := n3_; clear n0_ n1_ n2_ n3_; clear hb hbox hg; have q4_0 : w3.cell? ⟨gb136, 0, none⟩ = some (.int .i64 a0_0) := (YI BK136.out 0).trans rfl; have q4_1 : w3.cell? ⟨gb136, 1, none⟩ = some (.int .i64 a0_1) := (YI BK136.out 1).trans rfl; have q4_2 : w3.cell? ⟨gb136, 2, none⟩ = some (.bool a0_2) := (YI BK136.out 2).trans rfl; have q4_3 : w3.cell? ⟨gb136, 3, none⟩ = some (.int .i64 a0_3) := (YI BK136.out 3).trans rfl; have q4_4 : w3.cell? ⟨gb136, 4, none⟩ = some (.int .i64 a0_4) := (YI BK136.out 4).trans rfl; have q4_5 : w3.cell? ⟨gb136, 5, none⟩ = some (.int .i64 a0_5) := (YI BK136.out 5).trans rfl; have q4_6 : w3.cell? ⟨gb136, 6, none⟩ = some (.int .i64 a0_6) := (YI BK136.out 6).trans rfl; have q4_7 : w3.cell? ⟨gb136, 7, none⟩ = some (.int .i64 a0_7) := (YI BK136.out 7).trans rfl; have q4_8 : w3.cell? ⟨gb136, 8, none⟩ = some (.int .i64 a0_8) := (YI BK136.out 8).trans rfl; have q4_9 : w3.cell? ⟨gb136, 9, none⟩ = some (.int .i64 a0_9) := (YI BK136.out 9).trans rfl; have q4_10 : w3.cell? ⟨gb136, 10, none⟩ = some (.int .i64 a0_10) := (YI BK136.out 10).trans rfl; have q4_11 : w3.cell? ⟨gb136, 11, none⟩ = some (.int .i64 a0_11) := (YI BK136.out 11).trans rfl; have f4_0 := YJ BK136.out 0; have f4_1 := YJ BK136.out 1; have f4_2 := YJ BK136.out 2; have f4_3 := YJ BK136.out 3; have f4_4 := YJ BK136.out 4; have f4_5 := YJ BK136.out 5; have f4_6 := YJ BK136.out 6; have f4_7 := YJ BK136.out 7; have f4_8 := YJ BK136.out 8; have f4_9 := YJ BK136.out 9; have f4_10 := YJ BK136.out 10; have f4_11 := YJ BK136.out 11) | ((with_reducible refine gate_dst (N := 3) rfl ?_); refine box_event ?hg (N := 3) ?hd (cs := #[.int .i64 0, .int .i64 0, .bool false, .int .i64 0, .int .i64 0, .int .i64 0, .int .i64 0, .int .i64 0, .int .i64 0, .int .i64 0, .int .i64 0, .int .i64 0]) (t := 34) ?hr ?_; (case hd => rfl); (case hg => rfl); (case hr => first | (go_simp; done) | (go_simp; rfl)); intro gb137 hg w5 hbox hb; have n0_ := YL (YK (g := gb136) (o := .cells #[.int .i64 a0_0, .int .i64 a0_1, .bool a0_2, .int .i64 a0_3, .int .i64 a0_4, .int .i64 a0_5, .int .i64 a0_6, .int .i64 a0_7, .int .i64 a0_8, .int .i64 a0_9, .int .i64 a0_10, .int .i64 a0_11] 34 (0, 0)) (by (with_reducible repeat (first | refine YF ?_ _ | refine YG ?_ | refine YH ?_ _)); exact BK136.out) hb); have n1_ := YL (YD (by repeat (first | (with_reducible first | exact HB.out | apply YA | apply YB | apply YC | refine below_set ?_ GE136.out) | exact HB.out)) hb); have n2_ := YL (hbox); have n3_ := YL ((by rw [hg]; exact (YE (by repeat (first | (with_reducible first | exact HB.out | apply YA | apply YB | apply YC | refine below_set ?_ GE136.out) | exact HB.out))) : w.heap.size ≤ gb137)); have n4_ := YL ((by rw [hg]; exact (YE (by repeat (first | (with_reducible first | exact HB.out | apply YA | apply YB | apply YC | refine below_set ?_ GE136.out) | exact HB.out))) : w.heap.size ≤ gb137)); have n5_ := YL ((by rw [hg]; exact Nat.ne_of_lt (blk_lt (g := gb136) (o := .cells #[.int .i64 a0_0, .int .i64 a0_1, .bool a0_2, .int .i64 a0_3, .int .i64 a0_4, .int .i64 a0_5, .int .i64 a0_6, .int .i64 a0_7, .int .i64 a0_8, .int .i64 a0_9, .int .i64 a0_10, .int .i64 a0_11] 34 (0, 0)) (by (with_reducible repeat (first | refine YF ?_ _ | refine YG ?_ | refine YH ?_ _)); exact BK136.out)) : gb136 ≠ gb137)); have n6_ := YL ((by rw [hg]; exact Nat.ne_of_gt (blk_lt (g := gb136) (o := .cells #[.int .i64 a0_0, .int .i64 a0_1, .bool a0_2, .int .i64 a0_3, .int .i64 a0_4, .int .i64 a0_5, .int .i64 a0_6, .int .i64 a0_7, .int .i64 a0_8, .int .i64 a0_9, .int .i64 a0_10, .int .i64 a0_11] 34 (0, 0)) (by (with_reducible repeat (first | refine YF ?_ _ | refine YG ?_ | refine YH ?_ _)); exact BK136.out)) : gb137 ≠ gb136)); clear BK136; clear HB; have BK136 := n0_; have HB := n1_; have BK137 := n2_; have GW137 := n3_; have GE137 := n4_; have NB136_137 := n5_; have NB137_136 := n6_; clear n0_ n1_ n2_ n3_ n4_ n5_ n6_; clear hb hbox hg; have hnb6 := NB137_136.out; have hnc6 := NB136_137.out; have q7_0 : w5.cell? ⟨gb137, 0, none⟩ = some (.int .i64 0) := (YI BK137.out 0).trans rfl; have q7_1 : w5.cell? ⟨gb137, 1, none⟩ = some (.int .i64 0) := (YI BK137.out 1).trans rfl; have q7_2 : w5.cell? ⟨gb137, 2, none⟩ = some (.bool false) := (YI BK137.out 2).trans rfl; have q7_3 : w5.cell? ⟨gb137, 3, none⟩ = some (.int .i64 0) := (YI BK137.out 3).trans rfl; have q7_4 : w5.cell? ⟨gb137, 4, none⟩ = some (.int .i64 0) := (YI BK137.out 4).trans rfl; have q7_5 : w5.cell? ⟨gb137, 5, none⟩ = some (.int .i64 0) := (YI BK137.out 5).trans rfl; have q7_6 : w5.cell? ⟨gb137, 6, none⟩ = some (.int .i64 0) := (YI BK137.out 6).trans rfl; have q7_7 : w5.cell? ⟨gb137, 7, none⟩ = some (.int .i64 0) := (YI BK137.out 7).trans rfl; have q7_8 : w5.cell? ⟨gb137, 8, none⟩ = some (.int .i64 0) := (YI BK137.out 8).trans rfl; have q7_9 : w5.cell? ⟨gb137, 9, none⟩ = some (.int .i64 0) := (YI BK137.out 9).trans rfl; have q7_10 : w5.cell? ⟨gb137, 10, none⟩ = some (.int .i64 0) := (YI BK137.out 10).trans rfl; have q7_11 : w5.cell? ⟨gb137, 11, none⟩ = some (.int .i64 0) := (YI BK137.out 11).trans rfl; have f7_0 := YJ BK137.out 0; have f7_1 := YJ BK137.out 1; have f7_2 := YJ BK137.out 2; have f7_3 := YJ BK137.out 3; have f7_4 := YJ BK137.out 4; have f7_5 := YJ BK137.out 5; have f7_6 := YJ BK137.out 6; have f7_7 := YJ BK137.out 7; have f7_8 := YJ BK137.out 8; have f7_9 := YJ BK137.out 9; have f7_10 := YJ BK137.out 10; have f7_11 := YJ BK137.out 11))
 (try simp only [Act.put, List.setIfInBounds_toArray, List.set_cons_zero, List.set_cons_succ])
 go_cut [4] (fun v4 wc => ∃ (kq : Nat) (x4_1 : Bool), v4 = .bool x4_1 ∧ Aside0 (object_Check.j0 kq x4_1 a0_0 a0_1 a0_2 a0_3 a0_4 a0_5 a0_6 a0_7 a0_8 a0_9 a0_10 a0_11 0 0 a0_2 a0_3 a0_4 a0_5 a0_6 a0_7 a0_8 a0_9 a0_10 a0_11 = some r) ∧ Aside0 (kq ≤ k) ∧ Aside0 (wc.heap[gb136]? = some (.cells #[.int .i64 a0_0, .int .i64 a0_1, .bool a0_2, .int .i64 a0_3, .int .i64 a0_4, .int .i64 a0_5, .int .i64 a0_6, .int .i64 a0_7, .int .i64 a0_8, .int .i64 a0_9, .int .i64 a0_10, .int .i64 a0_11] 34 (0, 0))) ∧ Aside0 (wc.heap[gb137]? = some (.cells #[.int .i64 0, .int .i64 0, .bool a0_2, .int .i64 a0_3, .int .i64 a0_4, .int .i64 a0_5, .int .i64 a0_6, .int .i64 a0_7, .int .i64 a0_8, .int .i64 a0_9, .int .i64 a0_10, .int .i64 a0_11] 34 (0, 0))) ∧ Aside0 (Below w.heap.size w wc))
 case first =>
  have H := HC2.out
  clear HC2
  by_cases c8 : a0_1 ≥ 0
  ·rw [if_pos c8] at H
   have c8b0 : decide (0 ≤ a0_1) = true := decide_eq_true c8; clear c8
   (first | rw [c8b0] | (simp only [i64_w, i32_w]; rw [c8b0]) | rw [c8b1] | skip)
   have H' := YL H
   clear H
   have hnb9 := NB136_137.out
   have hnc9 := NB137_136.out
   have q10_0 : w5.cell? ⟨gb136, 0, none⟩ = some (.int .i64 a0_0) := (YI BK136.out 0).trans rfl
   have q10_1 : w5.cell? ⟨gb136, 1, none⟩ = some (.int .i64 a0_1) := (YI BK136.out 1).trans rfl
   have q10_2 : w5.cell? ⟨gb136, 2, none⟩ = some (.bool a0_2) := (YI BK136.out 2).trans rfl
   have q10_3 : w5.cell? ⟨gb136, 3, none⟩ = some (.int .i64 a0_3) := (YI BK136.out 3).trans rfl
   have q10_4 : w5.cell? ⟨gb136, 4, none⟩ = some (.int .i64 a0_4) := (YI BK136.out 4).trans rfl
   have q10_5 : w5.cell? ⟨gb136, 5, none⟩ = some (.int .i64 a0_5) := (YI BK136.out 5).trans rfl
   have q10_6 : w5.cell? ⟨gb136, 6, none⟩ = some (.int .i64 a0_6) := (YI BK136.out 6).trans rfl
   have q10_7 : w5.cell? ⟨gb136, 7, none⟩ = some (.int .i64 a0_7) := (YI BK136.out 7).trans rfl
   have q10_8 : w5.cell? ⟨gb136, 8, none⟩ = some (.int .i64 a0_8) := (YI BK136.out 8).trans rfl
   have q10_9 : w5.cell? ⟨gb136, 9, none⟩ = some (.int .i64 a0_9) := (YI BK136.out 9).trans rfl
   have q10_10 : w5.cell? ⟨gb136, 10, none⟩ = some (.int .i64 a0_10) := (YI BK136.out 10).trans rfl
   have q10_11 : w5.cell? ⟨gb136, 11, none⟩ = some (.int .i64 a0_11) := (YI BK136.out 11).trans rfl
   have f10_0 := YJ BK136.out 0
   have f10_1 := YJ BK136.out 1
   have f10_2 := YJ BK136.out 2
   have f10_3 := YJ BK136.out 3
   have f10_4 := YJ BK136.out 4
   have f10_5 := YJ BK136.out 5
   have f10_6 := YJ BK136.out 6
   have f10_7 := YJ BK136.out 7
   have f10_8 := YJ BK136.out 8
   have f10_9 := YJ BK136.out 9
   have f10_10 := YJ BK136.out 10
   have f10_11 := YJ BK136.out 11
   go_wp2
   go_meet
   case rel => exact ⟨_, (decide (a0_1 < 64)), (by first | rfl | (simp; done) | (simp [*]; done)), H', ⟨by first | omega | exact Nat.le_refl _⟩, ⟨by (with_reducible repeat (first | refine YF ?_ _ | refine YG ?_ | refine YH ?_ _)); refine blk_far ?_ NB136_137.out _; (with_reducible repeat (first | refine YF ?_ _ | refine YG ?_ | refine YH ?_ _)); refine blk_far ?_ NB136_137.out _; (with_reducible repeat (first | refine YF ?_ _ | refine YG ?_ | refine YH ?_ _)); refine blk_far ?_ NB136_137.out _; (with_reducible repeat (first | refine YF ?_ _ | refine YG ?_ | refine YH ?_ _)); refine blk_far ?_ NB136_137.out _; (with_reducible repeat (first | refine YF ?_ _ | refine YG ?_ | refine YH ?_ _)); refine blk_far ?_ NB136_137.out _; (with_reducible repeat (first | refine YF ?_ _ | refine YG ?_ | refine YH ?_ _)); refine blk_far ?_ NB136_137.out _; (with_reducible repeat (first | refine YF ?_ _ | refine YG ?_ | refine YH ?_ _)); refine blk_far ?_ NB136_137.out _; (with_reducible repeat (first | refine YF ?_ _ | refine YG ?_ | refine YH ?_ _)); refine blk_far ?_ NB136_137.out _; (with_reducible repeat (first | refine YF ?_ _ | refine YG ?_ | refine YH ?_ _)); refine blk_far ?_ NB136_137.out _; (with_reducible repeat (first | refine YF ?_ _ | refine YG ?_ | refine YH ?_ _)); refine blk_far ?_ NB136_137.out _; (with_reducible repeat (first | refine YF ?_ _ | refine YG ?_ | refine YH ?_ _)); refine blk_far ?_ NB136_137.out _; (with_reducible repeat (first | refine YF ?_ _ | refine YG ?_ | refine YH ?_ _)); refine blk_far ?_ NB136_137.out _; (with_reducible repeat (first | refine YF ?_ _ | refine YG ?_ | refine YH ?_ _)); refine blk_far ?_ NB136_137.out _; (with_reducible repeat (first | refine YF ?_ _ | refine YG ?_ | refine YH ?_ _)); refine blk_far ?_ NB136_137.out _; (with_reducible repeat (first | refine YF ?_ _ | refine YG ?_ | refine YH ?_ _)); exact BK136.out⟩, ⟨by (with_reducible repeat (first | refine YF ?_ _ | refine YG ?_ | refine YH ?_ _)); refine blk_put (cs := #[.int .i64 0, .int .i64 a0_1, .bool a0_2, .int .i64 a0_3, .int .i64 a0_4, .int .i64 a0_5, .int .i64 a0_6, .int .i64 a0_7, .int .i64 a0_8, .int .i64 a0_9, .int .i64 a0_10, .int .i64 a0_11]) ?_ 1 _ rfl; (with_reducible repeat (first | refine YF ?_ _ | refine YG ?_ | refine YH ?_ _)); refine blk_put (cs := #[.int .i64 a0_0, .int .i64 a0_1, .bool a0_2, .int .i64 a0_3, .int .i64 a0_4, .int .i64 a0_5, .int .i64 a0_6, .int .i64 a0_7, .int .i64 a0_8, .int .i64 a0_9, .int .i64 a0_10, .int .i64 a0_11]) ?_ 0 _ rfl; (with_reducible repeat (first | refine YF ?_ _ | refine YG ?_ | refine YH ?_ _)); refine blk_put (cs := #[.int .i64 a0_0, .int .i64 a0_1, .bool a0_2, .int .i64 a0_3, .int .i64 a0_4, .int .i64 a0_5, .int .i64 a0_6, .int .i64 a0_7, .int .i64 a0_8, .int .i64 a0_9, .int .i64 a0_10, .int .i64 0]) ?_ 11 _ rfl; (with_reducible repeat (first | refine YF ?_ _ | refine YG ?_ | refine YH ?_ _)); refine blk_put (cs := #[.int .i64 a0_0, .int .i64 a0_1, .bool a0_2, .int .i64 a0_3, .int .i64 a0_4, .int .i64 a0_5, .int .i64 a0_6, .int .i64 a0_7, .int .i64 a0_8, .int .i64 a0_9, .int .i64 0, .int .i64 0]) ?_ 10 _ rfl; (with_reducible repeat (first | refine YF ?_ _ | refine YG ?_ | refine YH ?_ _)); refine blk_put (cs := #[.int .i64 a0_0, .int .i64 a0_1, .bool a0_2, .int .i64 a0_3, .int .i64 a0_4, .int .i64 a0_5, .int .i64 a0_6, .int .i64 a0_7, .int .i64 a0_8, .int .i64 0, .int .i64 0, .int .i64 0]) ?_ 9 _ rfl; (with_reducible repeat (first | refine YF ?_ _ | refine YG ?_ | refine YH ?_ _)); refine blk_put (cs := #[.int .i64 a0_0, .int .i64 a0_1, .bool a0_2, .int .i64 a0_3, .int .i64 a0_4, .int .i64 a0_5, .int .i64 a0_6, .int .i64 a0_7, .int .i64 0, .int .i64 0, .int .i64 0, .int .i64 0]) ?_ 8 _ rfl; (with_reducible repeat (first | refine YF ?_ _ | refine YG ?_ | refine YH ?_ _)); refine blk_put (cs := #[.int .i64 a0_0, .int .i64 a0_1, .bool a0_2, .int .i64 a0_3, .int .i64 a0_4, .int .i64 a0_5, .int .i64 a0_6, .int .i64 0, .int .i64 0, .int .i64 0, .int .i64 0, .int .i64 0]) ?_ 7 _ rfl; (with_reducible repeat (first | refine YF ?_ _ | refine YG ?_ | refine YH ?_ _)); refine blk_put (cs := #[.int .i64 a0_0, .int .i64 a0_1, .bool a0_2, .int .i64 a0_3, .int .i64 a0_4, .int .i64 a0_5, .int .i64 0, .int .i64 0, .int .i64 0, .int .i64 0, .int .i64 0, .int .i64 0]) ?_ 6 _ rfl; (with_reducible repeat (first | refine YF ?_ _ | refine YG ?_ | refine YH ?_ _)); refine blk_put (cs := #[.int .i64 a0_0, .int .i64 a0_1, .bool a0_2, .int .i64 a0_3, .int .i64 a0_4, .int .i64 0, .int .i64 0, .int .i64 0, .int .i64 0, .int .i64 0, .int .i64 0, .int .i64 0]) ?_ 5 _ rfl; (with_reducible repeat (first | refine YF ?_ _ | refine YG ?_ | refine YH ?_ _)); refine blk_put (cs := #[.int .i64 a0_0, .int .i64 a0_1, .bool a0_2, .int .i64 a0_3, .int .i64 0, .int .i64 0, .int .i64 0, .int .i64 0, .int .i64 0, .int .i64 0, .int .i64 0, .int .i64 0]) ?_ 4 _ rfl; (with_reducible repeat (first | refine YF ?_ _ | refine YG ?_ | refine YH ?_ _)); refine blk_put (cs := #[.int .i64 a0_0, .int .i64 a0_1, .bool a0_2, .int .i64 0, .int .i64 0, .int .i64 0, .int .i64 0, .int .i64 0, .int .i64 0, .int .i64 0, .int .i64 0, .int .i64 0]) ?_ 3 _ rfl; (with_reducible repeat (first | refine YF ?_ _ | refine YG ?_ | refine YH ?_ _)); refine blk_put (cs := #[.int .i64 a0_0, .int .i64 a0_1, .bool false, .int .i64 0, .int .i64 0, .int .i64 0, .int .i64 0, .int .i64 0, .int .i64 0, .int .i64 0, .int .i64 0, .int .i64 0]) ?_ 2 _ rfl; (with_reducible repeat (first | refine YF ?_ _ | refine YG ?_ | refine YH ?_ _)); refine blk_put (cs := #[.int .i64 a0_0, .int .i64 0, .bool false, .int .i64 0, .int .i64 0, .int .i64 0, .int .i64 0, .int .i64 0, .int .i64 0, .int .i64 0, .int .i64 0, .int .i64 0]) ?_ 1 _ rfl; (with_reducible repeat (first | refine YF ?_ _ | refine YG ?_ | refine YH ?_ _)); refine blk_put (cs := #[.int .i64 0, .int .i64 0, .bool false, .int .i64 0, .int .i64 0, .int .i64 0, .int .i64 0, .int .i64 0, .int .i64 0, .int .i64 0, .int .i64 0, .int .i64 0]) ?_ 0 _ rfl; (with_reducible repeat (first | refine YF ?_ _ | refine YG ?_ | refine YH ?_ _)); exact BK137.out⟩, ⟨by repeat (first | (with_reducible first | exact HB.out | apply YA | apply YB | apply YC | refine below_set ?_ GE136.out | refine below_set ?_ GE137.out) | exact HB.out)⟩⟩
  rw [if_neg c8] at H; have c8b0 : decide (0 ≤ a0_1) = false := decide_eq_false c8; clear c8
  (first | rw [c8b0] | (simp only [i64_w, i32_w]; rw [c8b0]) | rw [c8b1] | skip)
  have H' := YL H
  clear H
  have hnb11 := NB136_137.out
  have hnc11 := NB137_136.out
  have q12_0 : w5.cell? ⟨gb136, 0, none⟩ = some (.int .i64 a0_0) := (YI BK136.out 0).trans rfl
  have q12_1 : w5.cell? ⟨gb136, 1, none⟩ = some (.int .i64 a0_1) := (YI BK136.out 1).trans rfl
  have q12_2 : w5.cell? ⟨gb136, 2, none⟩ = some (.bool a0_2) := (YI BK136.out 2).trans rfl
  have q12_3 : w5.cell? ⟨gb136, 3, none⟩ = some (.int .i64 a0_3) := (YI BK136.out 3).trans rfl
  have q12_4 : w5.cell? ⟨gb136, 4, none⟩ = some (.int .i64 a0_4) := (YI BK136.out 4).trans rfl
  have q12_5 : w5.cell? ⟨gb136, 5, none⟩ = some (.int .i64 a0_5) := (YI BK136.out 5).trans rfl
  have q12_6 : w5.cell? ⟨gb136, 6, none⟩ = some (.int .i64 a0_6) := (YI BK136.out 6).trans rfl
  have q12_7 : w5.cell? ⟨gb136, 7, none⟩ = some (.int .i64 a0_7) := (YI BK136.out 7).trans rfl
  have q12_8 : w5.cell? ⟨gb136, 8, none⟩ = some (.int .i64 a0_8) := (YI BK136.out 8).trans rfl
  have q12_9 : w5.cell? ⟨gb136, 9, none⟩ = some (.int .i64 a0_9) := (YI BK136.out 9).trans rfl
  have q12_10 : w5.cell? ⟨gb136, 10, none⟩ = some (.int .i64 a0_10) := (YI BK136.out 10).trans rfl
  have q12_11 : w5.cell? ⟨gb136, 11, none⟩ = some (.int .i64 a0_11) := (YI BK136.out 11).trans rfl
  have f12_0 := YJ BK136.out 0
  have f12_1 := YJ BK136.out 1
  have f12_2 := YJ BK136.out 2
  have f12_3 := YJ BK136.out 3
  have f12_4 := YJ BK136.out 4
  have f12_5 := YJ BK136.out 5
  have f12_6 := YJ BK136.out 6
  have f12_7 := YJ BK136.out 7
  have f12_8 := YJ BK136.out 8
  have f12_9 := YJ BK136.out 9
  have f12_10 := YJ BK136.out 10
  have f12_11 := YJ BK136.out 11
  go_wp2
  go_meet
  case rel => exact ⟨_, (false), (by first | rfl | (simp; done) | (simp [*]; done)), H', ⟨by first | omega | exact Nat.le_refl _⟩, ⟨by (with_reducible repeat (first | refine YF ?_ _ | refine YG ?_ | refine YH ?_ _)); refine blk_far ?_ NB136_137.out _; (with_reducible repeat (first | refine YF ?_ _ | refine YG ?_ | refine YH ?_ _)); refine blk_far ?_ NB136_137.out _; (with_reducible repeat (first | refine YF ?_ _ | refine YG ?_ | refine YH ?_ _)); refine blk_far ?_ NB136_137.out _; (with_reducible repeat (first | refine YF ?_ _ | refine YG ?_ | refine YH ?_ _)); refine blk_far ?_ NB136_137.out _; (with_reducible repeat (first | refine YF ?_ _ | refine YG ?_ | refine YH ?_ _)); refine blk_far ?_ NB136_137.out _; (with_reducible repeat (first | refine YF ?_ _ | refine YG ?_ | refine YH ?_ _)); refine blk_far ?_ NB136_137.out _; (with_reducible repeat (first | refine YF ?_ _ | refine YG ?_ | refine YH ?_ _)); refine blk_far ?_ NB136_137.out _; (with_reducible repeat (first | refine YF ?_ _ | refine YG ?_ | refine YH ?_ _)); refine blk_far ?_ NB136_137.out _; (with_reducible repeat (first | refine YF ?_ _ | refine YG ?_ | refine YH ?_ _)); refine blk_far ?_ NB136_137.out _; (with_reducible repeat (first | refine YF ?_ _ | refine YG ?_ | refine YH ?_ _)); refine blk_far ?_ NB136_137.out _; (with_reducible repeat (first | refine YF ?_ _ | refine YG ?_ | refine YH ?_ _)); refine blk_far ?_ NB136_137.out _; (with_reducible repeat (first | refine YF ?_ _ | refine YG ?_ | refine YH ?_ _)); refine blk_far ?_ NB136_137.out _; (with_reducible repeat (first | refine YF ?_ _ | refine YG ?_ | refine YH ?_ _)); refine blk_far ?_ NB136_137.out _; (with_reducible repeat (first | refine YF ?_ _ | refine YG ?_ | refine YH ?_ _)); refine blk_far ?_ NB136_137.out _; (with_reducible repeat (first | refine YF ?_ _ | refine YG ?_ | refine YH ?_ _)); exact BK136.out⟩, ⟨by (with_reducible repeat (first | refine YF ?_ _ | refine YG ?_ | refine YH ?_ _)); refine blk_put (cs := #[.int .i64 0, .int .i64 a0_1, .bool a0_2, .int .i64 a0_3, .int .i64 a0_4, .int .i64 a0_5, .int .i64 a0_6, .int .i64 a0_7, .int .i64 a0_8, .int .i64 a0_9, .int .i64 a0_10, .int .i64 a0_11]) ?_ 1 _ rfl; (with_reducible repeat (first | refine YF ?_ _ | refine YG ?_ | refine YH ?_ _)); refine blk_put (cs := #[.int .i64 a0_0, .int .i64 a0_1, .bool a0_2, .int .i64 a0_3, .int .i64 a0_4, .int .i64 a0_5, .int .i64 a0_6, .int .i64 a0_7, .int .i64 a0_8, .int .i64 a0_9, .int .i64 a0_10, .int .i64 a0_11]) ?_ 0 _ rfl; (with_reducible repeat (first | refine YF ?_ _ | refine YG ?_ | refine YH ?_ _)); refine blk_put (cs := #[.int .i64 a0_0, .int .i64 a0_1, .bool a0_2, .int .i64 a0_3, .int .i64 a0_4, .int .i64 a0_5, .int .i64 a0_6, .int .i64 a0_7, .int .i64 a0_8, .int .i64 a0_9, .int .i64 a0_10, .int .i64 0]) ?_ 11 _ rfl; (with_reducible repeat (first | refine YF ?_ _ | refine YG ?_ | refine YH ?_ _)); refine blk_put (cs := #[.int .i64 a0_0, .int .i64 a0_1, .bool a0_2, .int .i64 a0_3, .int .i64 a0_4, .int .i64 a0_5, .int .i64 a0_6, .int .i64 a0_7, .int .i64 a0_8, .int .i64 a0_9, .int .i64 0, .int .i64 0]) ?_ 10 _ rfl; (with_reducible repeat (first | refine YF ?_ _ | refine YG ?_ | refine YH ?_ _)); refine blk_put (cs := #[.int .i64 a0_0, .int .i64 a0_1, .bool a0_2, .int .i64 a0_3, .int .i64 a0_4, .int .i64 a0_5, .int .i64 a0_6, .int .i64 a0_7, .int .i64 a0_8, .int .i64 0, .int .i64 0, .int .i64 0]) ?_ 9 _ rfl; (with_reducible repeat (first | refine YF ?_ _ | refine YG ?_ | refine YH ?_ _)); refine blk_put (cs := #[.int .i64 a0_0, .int .i64 a0_1, .bool a0_2, .int .i64 a0_3, .int .i64 a0_4, .int .i64 a0_5, .int .i64 a0_6, .int .i64 a0_7, .int .i64 0, .int .i64 0, .int .i64 0, .int .i64 0]) ?_ 8 _ rfl; (with_reducible repeat (first | refine YF ?_ _ | refine YG ?_ | refine YH ?_ _)); refine blk_put (cs := #[.int .i64 a0_0, .int .i64 a0_1, .bool a0_2, .int .i64 a0_3, .int .i64 a0_4, .int .i64 a0_5, .int .i64 a0_6, .int .i64 0, .int .i64 0, .int .i64 0, .int .i64 0, .int .i64 0]) ?_ 7 _ rfl; (with_reducible repeat (first | refine YF ?_ _ | refine YG ?_ | refine YH ?_ _)); refine blk_put (cs := #[.int .i64 a0_0, .int .i64 a0_1, .bool a0_2, .int .i64 a0_3, .int .i64 a0_4, .int .i64 a0_5, .int .i64 0, .int .i64 0, .int .i64 0, .int .i64 0, .int .i64 0, .int .i64 0]) ?_ 6 _ rfl; (with_reducible repeat (first | refine YF ?_ _ | refine YG ?_ | refine YH ?_ _)); refine blk_put (cs := #[.int .i64 a0_0, .int .i64 a0_1, .bool a0_2, .int .i64 a0_3, .int .i64 a0_4, .int .i64 0, .int .i64 0, .int .i64 0, .int .i64 0, .int .i64 0, .int .i64 0, .int .i64 0]) ?_ 5 _ rfl; (with_reducible repeat (first | refine YF ?_ _ | refine YG ?_ | refine YH ?_ _)); refine blk_put (cs := #[.int .i64 a0_0, .int .i64 a0_1, .bool a0_2, .int .i64 a0_3, .int .i64 0, .int .i64 0, .int .i64 0, .int .i64 0, .int .i64 0, .int .i64 0, .int .i64 0, .int .i64 0]) ?_ 4 _ rfl; (with_reducible repeat (first | refine YF ?_ _ | refine YG ?_ | refine YH ?_ _)); refine blk_put (cs := #[.int .i64 a0_0, .int .i64 a0_1, .bool a0_2, .int .i64 0, .int .i64 0, .int .i64 0, .int .i64 0, .int .i64 0, .int .i64 0, .int .i64 0, .int .i64 0, .int .i64 0]) ?_ 3 _ rfl; (with_reducible repeat (first | refine YF ?_ _ | refine YG ?_ | refine YH ?_ _)); refine blk_put (cs := #[.int .i64 a0_0, .int .i64 a0_1, .bool false, .int .i64 0, .int .i64 0, .int .i64 0, .int .i64 0, .int .i64 0, .int .i64 0, .int .i64 0, .int .i64 0, .int .i64 0]) ?_ 2 _ rfl; (with_reducible repeat (first | refine YF ?_ _ | refine YG ?_ | refine YH ?_ _)); refine blk_put (cs := #[.int .i64 a0_0, .int .i64 0, .bool false, .int .i64 0, .int .i64 0, .int .i64 0, .int .i64 0, .int .i64 0, .int .i64 0, .int .i64 0, .int .i64 0, .int .i64 0]) ?_ 1 _ rfl; (with_reducible repeat (first | refine YF ?_ _ | refine YG ?_ | refine YH ?_ _)); refine blk_put (cs := #[.int .i64 0, .int .i64 0, .bool false, .int .i64 0, .int .i64 0, .int .i64 0, .int .i64 0, .int .i64 0, .int .i64 0, .int .i64 0, .int .i64 0, .int .i64 0]) ?_ 0 _ rfl; (with_reducible repeat (first | refine YF ?_ _ | refine YG ?_ | refine YH ?_ _)); exact BK137.out⟩, ⟨by repeat (first | (with_reducible first | exact HB.out | apply YA | apply YB | apply YC | refine below_set ?_ GE136.out | refine below_set ?_ GE137.out) | exact HB.out)⟩⟩
 case rest =>
  clear HC2
  try clear c1; try clear c2
  try clear p2; try clear c6
  try clear c8; try clear c8b0
  try clear c9; try clear c11
  try clear q10_0; try clear q10_1
  try clear q10_10; try clear q10_11
  try clear q10_2; try clear q10_3
  try clear q10_4; try clear q10_5
  try clear q10_6; try clear q10_7
  try clear q10_8; try clear q10_9
  try clear q12_0; try clear q12_1
  try clear q12_10; try clear q12_11
  try clear q12_2; try clear q12_3
  try clear q12_4; try clear q12_5
  try clear q12_6; try clear q12_7
  try clear q12_8; try clear q12_9
  try clear q4_0; try clear q4_1
  try clear q4_10; try clear q4_11
  try clear q4_2; try clear q4_3
  try clear q4_4; try clear q4_5
  try clear q4_6; try clear q4_7
  try clear q4_8; try clear q4_9
  try clear q7_0; try clear q7_1
  try clear q7_10; try clear q7_11
  try clear q7_2; try clear q7_3
  try clear q7_4; try clear q7_5
  try clear q7_6; try clear q7_7
  try clear q7_8; try clear q7_9
  try clear f10_0; try clear f10_1
  try clear f10_10; try clear f10_11
  try clear f10_2; try clear f10_3
  try clear f10_4; try clear f10_5
  try clear f10_6; try clear f10_7
  try clear f10_8; try clear f10_9
  try clear f12_0; try clear f12_1
  try clear f12_10; try clear f12_11
  try clear f12_2; try clear f12_3
  try clear f12_4; try clear f12_5
  try clear f12_6; try clear f12_7
  try clear f12_8; try clear f12_9
  try clear f4_0; try clear f4_1
  try clear f4_10; try clear f4_11
  try clear f4_2; try clear f4_3
  try clear f4_4; try clear f4_5
  try clear f4_6; try clear f4_7
  try clear f4_8; try clear f4_9
  try clear f7_0; try clear f7_1
  try clear f7_10; try clear f7_11
  try clear f7_2; try clear f7_3
  try clear f7_4; try clear f7_5
  try clear f7_6; try clear f7_7
  try clear f7_8; try clear f7_9
  obtain ⟨kq, x4_1, rfl, HA, HJ1, BK136, BK137, HB⟩ := hcut
  cases kq with
  | zero => exact absurd HA.out (by simp [object_Check.j0])
  | succ kj1 =>
   have H := HA.out
   clear HA
   simp only [object_Check.j0] at H
   have HC13 := YL H; clear H
   have hnb14 := NB136_137.out
   have hnc14 := NB137_136.out
   have q15_0 : wc.cell? ⟨gb136, 0, none⟩ = some (.int .i64 a0_0) := (YI BK136.out 0).trans rfl
   have q15_1 : wc.cell? ⟨gb136, 1, none⟩ = some (.int .i64 a0_1) := (YI BK136.out 1).trans rfl
   have q15_2 : wc.cell? ⟨gb136, 2, none⟩ = some (.bool a0_2) := (YI BK136.out 2).trans rfl
   have q15_3 : wc.cell? ⟨gb136, 3, none⟩ = some (.int .i64 a0_3) := (YI BK136.out 3).trans rfl
   have q15_4 : wc.cell? ⟨gb136, 4, none⟩ = some (.int .i64 a0_4) := (YI BK136.out 4).trans rfl
   have q15_5 : wc.cell? ⟨gb136, 5, none⟩ = some (.int .i64 a0_5) := (YI BK136.out 5).trans rfl
   have q15_6 : wc.cell? ⟨gb136, 6, none⟩ = some (.int .i64 a0_6) := (YI BK136.out 6).trans rfl
   have q15_7 : wc.cell? ⟨gb136, 7, none⟩ = some (.int .i64 a0_7) := (YI BK136.out 7).trans rfl
   have q15_8 : wc.cell? ⟨gb136, 8, none⟩ = some (.int .i64 a0_8) := (YI BK136.out 8).trans rfl
   have q15_9 : wc.cell? ⟨gb136, 9, none⟩ = some (.int .i64 a0_9) := (YI BK136.out 9).trans rfl
   have q15_10 : wc.cell? ⟨gb136, 10, none⟩ = some (.int .i64 a0_10) := (YI BK136.out 10).trans rfl
   have q15_11 : wc.cell? ⟨gb136, 11, none⟩ = some (.int .i64 a0_11) := (YI BK136.out 11).trans rfl
   have f15_0 := YJ BK136.out 0
   have f15_1 := YJ BK136.out 1
   have f15_2 := YJ BK136.out 2
   have f15_3 := YJ BK136.out 3
   have f15_4 := YJ BK136.out 4
   have f15_5 := YJ BK136.out 5
   have f15_6 := YJ BK136.out 6
   have f15_7 := YJ BK136.out 7
   have f15_8 := YJ BK136.out 8
   have f15_9 := YJ BK136.out 9
   have f15_10 := YJ BK136.out 10
   have f15_11 := YJ BK136.out 11
   go_upto_block 3 with (fail)
   go_cut [4] (fun v4 wc => ∃ (kq : Nat) (x4_12 : Bool) (x138011_12 : Int), v4 = .bool x4_12 ∧ Aside0 (object_Check.j1 kq x4_12 a0_0 a0_1 a0_2 a0_3 a0_4 a0_5 a0_6 a0_7 a0_8 a0_9 a0_10 a0_11 0 0 a0_2 a0_3 a0_4 a0_5 a0_6 a0_7 a0_8 a0_9 a0_10 x138011_12 = some r) ∧ Aside0 (kq ≤ kj1) ∧ Aside0 (wc.heap[gb136]? = some (.cells #[.int .i64 a0_0, .int .i64 a0_1, .bool a0_2, .int .i64 a0_3, .int .i64 a0_4, .int .i64 a0_5, .int .i64 a0_6, .int .i64 a0_7, .int .i64 a0_8, .int .i64 a0_9, .int .i64 a0_10, .int .i64 a0_11] 34 (0, 0))) ∧ Aside0 (wc.heap[gb137]? = some (.cells #[.int .i64 0, .int .i64 0, .bool a0_2, .int .i64 a0_3, .int .i64 a0_4, .int .i64 a0_5, .int .i64 a0_6, .int .i64 a0_7, .int .i64 a0_8, .int .i64 a0_9, .int .i64 a0_10, .int .i64 x138011_12] 34 (0, 0))) ∧ Aside0 (Below w.heap.size w wc))
   case first =>
    have H := HC13.out
    clear HC13
    by_cases c16 : a0_0 = 1
    ·rw [if_pos c16] at H
     have c16b0 : (a0_0 == 1) = true := beq_iff_eq.mpr c16
     have c16b1 : (a0_0 != 1) = false := bne_eq_false_iff_eq.mpr c16
     clear c16
     (first | rw [c16b0] | (simp only [i64_w, i32_w]; rw [c16b0]) | rw [c16b1] | skip)
     by_cases c17 : x4_1 = true
     ·subst c17
      have H1 : (if (!(0 == 0) || (!(0 == 0) || ((a0_2 || (!(a0_3 == 0) || (!(a0_4 == 0) || (!(a0_5 == 0) || (!(a0_6 == 0) || (!(a0_7 == 0))))))) || ((!(a0_8 == 0) || (!(a0_9 == 0) || (!(a0_10 == 0)))) || (!(a0_11 == 0)))))) = true then (some 1) else (some 0)) = some r := by rw [if_pos rfl] at H; exact H
      clear H
      have H := H1
      clear H1
      by_cases c18 : (!(0 == 0) || (!(0 == 0) || ((a0_2 || (!(a0_3 == 0) || (!(a0_4 == 0) || (!(a0_5 == 0) || (!(a0_6 == 0) || (!(a0_7 == 0))))))) || ((!(a0_8 == 0) || (!(a0_9 == 0) || (!(a0_10 == 0)))) || (!(a0_11 == 0)))))) = true
      ·rw [if_pos c18] at H
       have c18b0 : (!(0 == 0) || (!(0 == 0) || ((a0_2 || (!(a0_3 == 0) || (!(a0_4 == 0) || (!(a0_5 == 0) || (!(a0_6 == 0) || (!(a0_7 == 0))))))) || ((!(a0_8 == 0) || (!(a0_9 == 0) || (!(a0_10 == 0)))) || (!(a0_11 == 0)))))) = true := c18
       have c18b9 := c18b0
       (try simp only [beq_self_eq_true, Bool.not_true, Bool.not_false, Bool.false_or, Bool.true_and, Bool.or_false, Bool.and_true] at c18b9)
       clear c18
       obtain rfl := Option.some.inj H
       have hnb19 := NB137_136.out
       have hnc19 := NB136_137.out
       have q20_0 : wc.cell? ⟨gb137, 0, none⟩ = some (.int .i64 0) := (YI BK137.out 0).trans rfl
       have q20_1 : wc.cell? ⟨gb137, 1, none⟩ = some (.int .i64 0) := (YI BK137.out 1).trans rfl
       have q20_2 : wc.cell? ⟨gb137, 2, none⟩ = some (.bool a0_2) := (YI BK137.out 2).trans rfl
       have q20_3 : wc.cell? ⟨gb137, 3, none⟩ = some (.int .i64 a0_3) := (YI BK137.out 3).trans rfl
       have q20_4 : wc.cell? ⟨gb137, 4, none⟩ = some (.int .i64 a0_4) := (YI BK137.out 4).trans rfl
       have q20_5 : wc.cell? ⟨gb137, 5, none⟩ = some (.int .i64 a0_5) := (YI BK137.out 5).trans rfl
       have q20_6 : wc.cell? ⟨gb137, 6, none⟩ = some (.int .i64 a0_6) := (YI BK137.out 6).trans rfl
       have q20_7 : wc.cell? ⟨gb137, 7, none⟩ = some (.int .i64 a0_7) := (YI BK137.out 7).trans rfl
       have q20_8 : wc.cell? ⟨gb137, 8, none⟩ = some (.int .i64 a0_8) := (YI BK137.out 8).trans rfl
       have q20_9 : wc.cell? ⟨gb137, 9, none⟩ = some (.int .i64 a0_9) := (YI BK137.out 9).trans rfl
       have q20_10 : wc.cell? ⟨gb137, 10, none⟩ = some (.int .i64 a0_10) := (YI BK137.out 10).trans rfl
       have q20_11 : wc.cell? ⟨gb137, 11, none⟩ = some (.int .i64 a0_11) := (YI BK137.out 11).trans rfl
       have f20_0 := YJ BK137.out 0
       have f20_1 := YJ BK137.out 1
       have f20_2 := YJ BK137.out 2
       have f20_3 := YJ BK137.out 3
       have f20_4 := YJ BK137.out 4
       have f20_5 := YJ BK137.out 5
       have f20_6 := YJ BK137.out 6
       have f20_7 := YJ BK137.out 7
       have f20_8 := YJ BK137.out 8
       have f20_9 := YJ BK137.out 9
       have f20_10 := YJ BK137.out 10
       have f20_11 := YJ BK137.out 11
       go_wp2
       go_ret
       exact ⟨by first | rfl | (simp [errW_none, errW_some] <;> rfl) | (simp [*, errW_none, errW_some] <;> rfl), by repeat (first | (with_reducible first | exact HB.out | apply YA | apply YB | apply YC | refine below_set ?_ GE136.out | refine below_set ?_ GE137.out) | exact HB.out)⟩
      rw [if_neg c18] at H
      have c18b0 : (!(0 == 0) || (!(0 == 0) || ((a0_2 || (!(a0_3 == 0) || (!(a0_4 == 0) || (!(a0_5 == 0) || (!(a0_6 == 0) || (!(a0_7 == 0))))))) || ((!(a0_8 == 0) || (!(a0_9 == 0) || (!(a0_10 == 0)))) || (!(a0_11 == 0)))))) = false := by simpa using c18
      have c18b9 := c18b0
      (try simp only [beq_self_eq_true, Bool.not_true, Bool.not_false, Bool.false_or, Bool.true_and, Bool.or_false, Bool.and_true] at c18b9)
      clear c18
      obtain rfl := Option.some.inj H
      have hnb21 := NB137_136.out
      have hnc21 := NB136_137.out
      have q22_0 : wc.cell? ⟨gb137, 0, none⟩ = some (.int .i64 0) := (YI BK137.out 0).trans rfl
      have q22_1 : wc.cell? ⟨gb137, 1, none⟩ = some (.int .i64 0) := (YI BK137.out 1).trans rfl
      have q22_2 : wc.cell? ⟨gb137, 2, none⟩ = some (.bool a0_2) := (YI BK137.out 2).trans rfl
      have q22_3 : wc.cell? ⟨gb137, 3, none⟩ = some (.int .i64 a0_3) := (YI BK137.out 3).trans rfl
      have q22_4 : wc.cell? ⟨gb137, 4, none⟩ = some (.int .i64 a0_4) := (YI BK137.out 4).trans rfl
      have q22_5 : wc.cell? ⟨gb137, 5, none⟩ = some (.int .i64 a0_5) := (YI BK137.out 5).trans rfl
      have q22_6 : wc.cell? ⟨gb137, 6, none⟩ = some (.int .i64 a0_6) := (YI BK137.out 6).trans rfl
      have q22_7 : wc.cell? ⟨gb137, 7, none⟩ = some (.int .i64 a0_7) := (YI BK137.out 7).trans rfl
      have q22_8 : wc.cell? ⟨gb137, 8, none⟩ = some (.int .i64 a0_8) := (YI BK137.out 8).trans rfl
      have q22_9 : wc.cell? ⟨gb137, 9, none⟩ = some (.int .i64 a0_9) := (YI BK137.out 9).trans rfl
      have q22_10 : wc.cell? ⟨gb137, 10, none⟩ = some (.int .i64 a0_10) := (YI BK137.out 10).trans rfl
      have q22_11 : wc.cell? ⟨gb137, 11, none⟩ = some (.int .i64 a0_11) := (YI BK137.out 11).trans rfl
      have f22_0 := YJ BK137.out 0
      have f22_1 := YJ BK137.out 1
      have f22_2 := YJ BK137.out 2
      have f22_3 := YJ BK137.out 3
      have f22_4 := YJ BK137.out 4
      have f22_5 := YJ BK137.out 5
      have f22_6 := YJ BK137.out 6
      have f22_7 := YJ BK137.out 7
      have f22_8 := YJ BK137.out 8
      have f22_9 := YJ BK137.out 9
      have f22_10 := YJ BK137.out 10
      have f22_11 := YJ BK137.out 11
      go_wp2
      go_ret
      exact ⟨by first | rfl | (simp [errW_none, errW_some] <;> rfl) | (simp [*, errW_none, errW_some] <;> rfl), by repeat (first | (with_reducible first | exact HB.out | apply YA | apply YB | apply YC | refine below_set ?_ GE136.out | refine below_set ?_ GE137.out) | exact HB.out)⟩
     replace c17 := Bool.eq_false_iff.mpr c17
     subst c17
     have H1 : (some 1) = some r := by rw [if_neg (show ¬ (false = true) by decide)] at H; exact H
     clear H
     have H := H1
     clear H1
     obtain rfl := Option.some.inj H
     go_wp2
     go_ret
     exact ⟨by first | rfl | (simp [errW_none, errW_some] <;> rfl) | (simp [*, errW_none, errW_some] <;> rfl), by repeat (first | (with_reducible first | exact HB.out | apply YA | apply YB | apply YC | refine below_set ?_ GE136.out | refine below_set ?_ GE137.out) | exact HB.out)⟩
    rw [if_neg c16] at H
    have c16b0 : (a0_0 == 1) = false := beq_eq_false_iff_ne.mpr c16
    have c16b1 : (a0_0 != 1) = true := bne_iff_ne.mpr c16
    (first | rw [c16b0] | (simp only [i64_w, i32_w]; rw [c16b0]) | rw [c16b1] | skip)
    by_cases c23 : a0_0 = 4
    ·rw [if_pos c23] at H
     have c23b0 : (a0_0 == 4) = true := beq_iff_eq.mpr c23
     have c23b1 : (a0_0 != 4) = false := bne_eq_false_iff_eq.mpr c23
     clear c23
     by_cases c24 : x4_1 = true
     ·subst c24
      have H1 : (if a0_2 = true then (object_Check.j1 kj1 false a0_0 a0_1 true a0_3 a0_4 a0_5 a0_6 a0_7 a0_8 a0_9 a0_10 a0_11 0 0 a0_2 a0_3 a0_4 a0_5 a0_6 a0_7 a0_8 a0_9 a0_10 0) else (if a0_11 ≥ 0 then (object_Check.j1 kj1 (decide (a0_11 ≤ 65535)) a0_0 a0_1 false a0_3 a0_4 a0_5 a0_6 a0_7 a0_8 a0_9 a0_10 a0_11 0 0 a0_2 a0_3 a0_4 a0_5 a0_6 a0_7 a0_8 a0_9 a0_10 0) else (object_Check.j1 kj1 false a0_0 a0_1 false a0_3 a0_4 a0_5 a0_6 a0_7 a0_8 a0_9 a0_10 a0_11 0 0 a0_2 a0_3 a0_4 a0_5 a0_6 a0_7 a0_8 a0_9 a0_10 0))) = some r := by rw [if_pos rfl] at H; exact H
      clear H
      have H := H1
      clear H1
      by_cases c25 : a0_2 = true
      ·subst c25
       have H1 : (object_Check.j1 kj1 false a0_0 a0_1 true a0_3 a0_4 a0_5 a0_6 a0_7 a0_8 a0_9 a0_10 a0_11 0 0 true a0_3 a0_4 a0_5 a0_6 a0_7 a0_8 a0_9 a0_10 0) = some r := by rw [if_pos rfl] at H; exact H
       clear H
       have H := H1
       clear H1
       have H' := YL H
       clear H
       have hnb26 := NB136_137.out
       have hnc26 := NB137_136.out
       have q27_0 : wc.cell? ⟨gb136, 0, none⟩ = some (.int .i64 a0_0) := (YI BK136.out 0).trans rfl
       have q27_1 : wc.cell? ⟨gb136, 1, none⟩ = some (.int .i64 a0_1) := (YI BK136.out 1).trans rfl
       have q27_2 : wc.cell? ⟨gb136, 2, none⟩ = some (.bool true) := (YI BK136.out 2).trans rfl
       have q27_3 : wc.cell? ⟨gb136, 3, none⟩ = some (.int .i64 a0_3) := (YI BK136.out 3).trans rfl
       have q27_4 : wc.cell? ⟨gb136, 4, none⟩ = some (.int .i64 a0_4) := (YI BK136.out 4).trans rfl
       have q27_5 : wc.cell? ⟨gb136, 5, none⟩ = some (.int .i64 a0_5) := (YI BK136.out 5).trans rfl
       have q27_6 : wc.cell? ⟨gb136, 6, none⟩ = some (.int .i64 a0_6) := (YI BK136.out 6).trans rfl
       have q27_7 : wc.cell? ⟨gb136, 7, none⟩ = some (.int .i64 a0_7) := (YI BK136.out 7).trans rfl
       have q27_8 : wc.cell? ⟨gb136, 8, none⟩ = some (.int .i64 a0_8) := (YI BK136.out 8).trans rfl
       have q27_9 : wc.cell? ⟨gb136, 9, none⟩ = some (.int .i64 a0_9) := (YI BK136.out 9).trans rfl
       have q27_10 : wc.cell? ⟨gb136, 10, none⟩ = some (.int .i64 a0_10) := (YI BK136.out 10).trans rfl
       have q27_11 : wc.cell? ⟨gb136, 11, none⟩ = some (.int .i64 a0_11) := (YI BK136.out 11).trans rfl
       have f27_0 := YJ BK136.out 0
       have f27_1 := YJ BK136.out 1
       have f27_2 := YJ BK136.out 2
       have f27_3 := YJ BK136.out 3
       have f27_4 := YJ BK136.out 4
       have f27_5 := YJ BK136.out 5
       have f27_6 := YJ BK136.out 6
       have f27_7 := YJ BK136.out 7
       have f27_8 := YJ BK136.out 8
       have f27_9 := YJ BK136.out 9
       have f27_10 := YJ BK136.out 10
       have f27_11 := YJ BK136.out 11
       have q28_0 : wc.cell? ⟨gb137, 0, none⟩ = some (.int .i64 0) := (YI BK137.out 0).trans rfl
       have q28_1 : wc.cell? ⟨gb137, 1, none⟩ = some (.int .i64 0) := (YI BK137.out 1).trans rfl
       have q28_2 : wc.cell? ⟨gb137, 2, none⟩ = some (.bool true) := (YI BK137.out 2).trans rfl
       have q28_3 : wc.cell? ⟨gb137, 3, none⟩ = some (.int .i64 a0_3) := (YI BK137.out 3).trans rfl
       have q28_4 : wc.cell? ⟨gb137, 4, none⟩ = some (.int .i64 a0_4) := (YI BK137.out 4).trans rfl
       have q28_5 : wc.cell? ⟨gb137, 5, none⟩ = some (.int .i64 a0_5) := (YI BK137.out 5).trans rfl
       have q28_6 : wc.cell? ⟨gb137, 6, none⟩ = some (.int .i64 a0_6) := (YI BK137.out 6).trans rfl
       have q28_7 : wc.cell? ⟨gb137, 7, none⟩ = some (.int .i64 a0_7) := (YI BK137.out 7).trans rfl
       have q28_8 : wc.cell? ⟨gb137, 8, none⟩ = some (.int .i64 a0_8) := (YI BK137.out 8).trans rfl
       have q28_9 : wc.cell? ⟨gb137, 9, none⟩ = some (.int .i64 a0_9) := (YI BK137.out 9).trans rfl
       have q28_10 : wc.cell? ⟨gb137, 10, none⟩ = some (.int .i64 a0_10) := (YI BK137.out 10).trans rfl
       have q28_11 : wc.cell? ⟨gb137, 11, none⟩ = some (.int .i64 a0_11) := (YI BK137.out 11).trans rfl
       have f28_0 := YJ BK137.out 0
       have f28_1 := YJ BK137.out 1
       have f28_2 := YJ BK137.out 2
       have f28_3 := YJ BK137.out 3
       have f28_4 := YJ BK137.out 4
       have f28_5 := YJ BK137.out 5
       have f28_6 := YJ BK137.out 6
       have f28_7 := YJ BK137.out 7
       have f28_8 := YJ BK137.out 8
       have f28_9 := YJ BK137.out 9
       have f28_10 := YJ BK137.out 10
       have f28_11 := YJ BK137.out 11
       go_wp2
       go_meet
       case rel => exact ⟨_, (false), (0), (by first | rfl | (simp; done) | (simp [*]; done)), H', ⟨by have := HJ1.out; first | omega | exact Nat.le_refl _⟩, ⟨by (with_reducible repeat (first | refine YF ?_ _ | refine YG ?_ | refine YH ?_ _)); refine blk_far ?_ NB136_137.out _; (with_reducible repeat (first | refine YF ?_ _ | refine YG ?_ | refine YH ?_ _)); exact BK136.out⟩, ⟨by (with_reducible repeat (first | refine YF ?_ _ | refine YG ?_ | refine YH ?_ _)); refine blk_put (cs := #[.int .i64 0, .int .i64 0, .bool true, .int .i64 a0_3, .int .i64 a0_4, .int .i64 a0_5, .int .i64 a0_6, .int .i64 a0_7, .int .i64 a0_8, .int .i64 a0_9, .int .i64 a0_10, .int .i64 a0_11]) ?_ 11 _ rfl; (with_reducible repeat (first | refine YF ?_ _ | refine YG ?_ | refine YH ?_ _)); exact BK137.out⟩, ⟨by repeat (first | (with_reducible first | exact HB.out | apply YA | apply YB | apply YC | refine below_set ?_ GE136.out | refine below_set ?_ GE137.out) | exact HB.out)⟩⟩
      replace c25 := Bool.eq_false_iff.mpr c25
      subst c25
      have H1 : (if a0_11 ≥ 0 then (object_Check.j1 kj1 (decide (a0_11 ≤ 65535)) a0_0 a0_1 false a0_3 a0_4 a0_5 a0_6 a0_7 a0_8 a0_9 a0_10 a0_11 0 0 false a0_3 a0_4 a0_5 a0_6 a0_7 a0_8 a0_9 a0_10 0) else (object_Check.j1 kj1 false a0_0 a0_1 false a0_3 a0_4 a0_5 a0_6 a0_7 a0_8 a0_9 a0_10 a0_11 0 0 false a0_3 a0_4 a0_5 a0_6 a0_7 a0_8 a0_9 a0_10 0)) = some r := by rw [if_neg (show ¬ (false = true) by decide)] at H; exact H
      clear H
      have H := H1
      clear H1
      by_cases c29 : a0_11 ≥ 0
      ·rw [if_pos c29] at H
       have c29b0 : decide (0 ≤ a0_11) = true := decide_eq_true c29; clear c29
       have H' := YL H
       clear H
       have hnb30 := NB136_137.out
       have hnc30 := NB137_136.out
       have q31_0 : wc.cell? ⟨gb136, 0, none⟩ = some (.int .i64 a0_0) := (YI BK136.out 0).trans rfl
       have q31_1 : wc.cell? ⟨gb136, 1, none⟩ = some (.int .i64 a0_1) := (YI BK136.out 1).trans rfl
       have q31_2 : wc.cell? ⟨gb136, 2, none⟩ = some (.bool false) := (YI BK136.out 2).trans rfl
       have q31_3 : wc.cell? ⟨gb136, 3, none⟩ = some (.int .i64 a0_3) := (YI BK136.out 3).trans rfl
       have q31_4 : wc.cell? ⟨gb136, 4, none⟩ = some (.int .i64 a0_4) := (YI BK136.out 4).trans rfl
       have q31_5 : wc.cell? ⟨gb136, 5, none⟩ = some (.int .i64 a0_5) := (YI BK136.out 5).trans rfl
       have q31_6 : wc.cell? ⟨gb136, 6, none⟩ = some (.int .i64 a0_6) := (YI BK136.out 6).trans rfl
       have q31_7 : wc.cell? ⟨gb136, 7, none⟩ = some (.int .i64 a0_7) := (YI BK136.out 7).trans rfl
       have q31_8 : wc.cell? ⟨gb136, 8, none⟩ = some (.int .i64 a0_8) := (YI BK136.out 8).trans rfl
       have q31_9 : wc.cell? ⟨gb136, 9, none⟩ = some (.int .i64 a0_9) := (YI BK136.out 9).trans rfl
       have q31_10 : wc.cell? ⟨gb136, 10, none⟩ = some (.int .i64 a0_10) := (YI BK136.out 10).trans rfl
       have q31_11 : wc.cell? ⟨gb136, 11, none⟩ = some (.int .i64 a0_11) := (YI BK136.out 11).trans rfl
       have f31_0 := YJ BK136.out 0
       have f31_1 := YJ BK136.out 1
       have f31_2 := YJ BK136.out 2
       have f31_3 := YJ BK136.out 3
       have f31_4 := YJ BK136.out 4
       have f31_5 := YJ BK136.out 5
       have f31_6 := YJ BK136.out 6
       have f31_7 := YJ BK136.out 7
       have f31_8 := YJ BK136.out 8
       have f31_9 := YJ BK136.out 9
       have f31_10 := YJ BK136.out 10
       have f31_11 := YJ BK136.out 11
       have q32_0 : wc.cell? ⟨gb137, 0, none⟩ = some (.int .i64 0) := (YI BK137.out 0).trans rfl
       have q32_1 : wc.cell? ⟨gb137, 1, none⟩ = some (.int .i64 0) := (YI BK137.out 1).trans rfl
       have q32_2 : wc.cell? ⟨gb137, 2, none⟩ = some (.bool false) := (YI BK137.out 2).trans rfl
       have q32_3 : wc.cell? ⟨gb137, 3, none⟩ = some (.int .i64 a0_3) := (YI BK137.out 3).trans rfl
       have q32_4 : wc.cell? ⟨gb137, 4, none⟩ = some (.int .i64 a0_4) := (YI BK137.out 4).trans rfl
       have q32_5 : wc.cell? ⟨gb137, 5, none⟩ = some (.int .i64 a0_5) := (YI BK137.out 5).trans rfl
       have q32_6 : wc.cell? ⟨gb137, 6, none⟩ = some (.int .i64 a0_6) := (YI BK137.out 6).trans rfl
       have q32_7 : wc.cell? ⟨gb137, 7, none⟩ = some (.int .i64 a0_7) := (YI BK137.out 7).trans rfl
       have q32_8 : wc.cell? ⟨gb137, 8, none⟩ = some (.int .i64 a0_8) := (YI BK137.out 8).trans rfl
       have q32_9 : wc.cell? ⟨gb137, 9, none⟩ = some (.int .i64 a0_9) := (YI BK137.out 9).trans rfl
       have q32_10 : wc.cell? ⟨gb137, 10, none⟩ = some (.int .i64 a0_10) := (YI BK137.out 10).trans rfl
       have q32_11 : wc.cell? ⟨gb137, 11, none⟩ = some (.int .i64 a0_11) := (YI BK137.out 11).trans rfl
       have f32_0 := YJ BK137.out 0
       have f32_1 := YJ BK137.out 1
       have f32_2 := YJ BK137.out 2
       have f32_3 := YJ BK137.out 3
       have f32_4 := YJ BK137.out 4
       have f32_5 := YJ BK137.out 5
       have f32_6 := YJ BK137.out 6
       have f32_7 := YJ BK137.out 7
       have f32_8 := YJ BK137.out 8
       have f32_9 := YJ BK137.out 9
       have f32_10 := YJ BK137.out 10
       have f32_11 := YJ BK137.out 11
       go_wp2
       go_meet
       case rel => exact ⟨_, (decide (a0_11 ≤ 65535)), (0), (by first | rfl | (simp; done) | (simp [*]; done)), H', ⟨by have := HJ1.out; first | omega | exact Nat.le_refl _⟩, ⟨by (with_reducible repeat (first | refine YF ?_ _ | refine YG ?_ | refine YH ?_ _)); refine blk_far ?_ NB136_137.out _; (with_reducible repeat (first | refine YF ?_ _ | refine YG ?_ | refine YH ?_ _)); exact BK136.out⟩, ⟨by (with_reducible repeat (first | refine YF ?_ _ | refine YG ?_ | refine YH ?_ _)); refine blk_put (cs := #[.int .i64 0, .int .i64 0, .bool false, .int .i64 a0_3, .int .i64 a0_4, .int .i64 a0_5, .int .i64 a0_6, .int .i64 a0_7, .int .i64 a0_8, .int .i64 a0_9, .int .i64 a0_10, .int .i64 a0_11]) ?_ 11 _ rfl; (with_reducible repeat (first | refine YF ?_ _ | refine YG ?_ | refine YH ?_ _)); exact BK137.out⟩, ⟨by repeat (first | (with_reducible first | exact HB.out | apply YA | apply YB | apply YC | refine below_set ?_ GE136.out | refine below_set ?_ GE137.out) | exact HB.out)⟩⟩
      rw [if_neg c29] at H; have c29b0 : decide (0 ≤ a0_11) = false := decide_eq_false c29; clear c29
      have H' := YL H
      clear H
      have hnb33 := NB136_137.out
      have hnc33 := NB137_136.out
      have q34_0 : wc.cell? ⟨gb136, 0, none⟩ = some (.int .i64 a0_0) := (YI BK136.out 0).trans rfl
      have q34_1 : wc.cell? ⟨gb136, 1, none⟩ = some (.int .i64 a0_1) := (YI BK136.out 1).trans rfl
      have q34_2 : wc.cell? ⟨gb136, 2, none⟩ = some (.bool false) := (YI BK136.out 2).trans rfl
      have q34_3 : wc.cell? ⟨gb136, 3, none⟩ = some (.int .i64 a0_3) := (YI BK136.out 3).trans rfl
      have q34_4 : wc.cell? ⟨gb136, 4, none⟩ = some (.int .i64 a0_4) := (YI BK136.out 4).trans rfl
      have q34_5 : wc.cell? ⟨gb136, 5, none⟩ = some (.int .i64 a0_5) := (YI BK136.out 5).trans rfl
      have q34_6 : wc.cell? ⟨gb136, 6, none⟩ = some (.int .i64 a0_6) := (YI BK136.out 6).trans rfl
      have q34_7 : wc.cell? ⟨gb136, 7, none⟩ = some (.int .i64 a0_7) := (YI BK136.out 7).trans rfl
      have q34_8 : wc.cell? ⟨gb136, 8, none⟩ = some (.int .i64 a0_8) := (YI BK136.out 8).trans rfl
      have q34_9 : wc.cell? ⟨gb136, 9, none⟩ = some (.int .i64 a0_9) := (YI BK136.out 9).trans rfl
      have q34_10 : wc.cell? ⟨gb136, 10, none⟩ = some (.int .i64 a0_10) := (YI BK136.out 10).trans rfl
      have q34_11 : wc.cell? ⟨gb136, 11, none⟩ = some (.int .i64 a0_11) := (YI BK136.out 11).trans rfl
      have f34_0 := YJ BK136.out 0
      have f34_1 := YJ BK136.out 1
      have f34_2 := YJ BK136.out 2
      have f34_3 := YJ BK136.out 3
      have f34_4 := YJ BK136.out 4
      have f34_5 := YJ BK136.out 5
      have f34_6 := YJ BK136.out 6
      have f34_7 := YJ BK136.out 7
      have f34_8 := YJ BK136.out 8
      have f34_9 := YJ BK136.out 9
      have f34_10 := YJ BK136.out 10
      have f34_11 := YJ BK136.out 11
      have q35_0 : wc.cell? ⟨gb137, 0, none⟩ = some (.int .i64 0) := (YI BK137.out 0).trans rfl
      have q35_1 : wc.cell? ⟨gb137, 1, none⟩ = some (.int .i64 0) := (YI BK137.out 1).trans rfl
      have q35_2 : wc.cell? ⟨gb137, 2, none⟩ = some (.bool false) := (YI BK137.out 2).trans rfl
      have q35_3 : wc.cell? ⟨gb137, 3, none⟩ = some (.int .i64 a0_3) := (YI BK137.out 3).trans rfl
      have q35_4 : wc.cell? ⟨gb137, 4, none⟩ = some (.int .i64 a0_4) := (YI BK137.out 4).trans rfl
      have q35_5 : wc.cell? ⟨gb137, 5, none⟩ = some (.int .i64 a0_5) := (YI BK137.out 5).trans rfl
      have q35_6 : wc.cell? ⟨gb137, 6, none⟩ = some (.int .i64 a0_6) := (YI BK137.out 6).trans rfl
      have q35_7 : wc.cell? ⟨gb137, 7, none⟩ = some (.int .i64 a0_7) := (YI BK137.out 7).trans rfl
      have q35_8 : wc.cell? ⟨gb137, 8, none⟩ = some (.int .i64 a0_8) := (YI BK137.out 8).trans rfl
      have q35_9 : wc.cell? ⟨gb137, 9, none⟩ = some (.int .i64 a0_9) := (YI BK137.out 9).trans rfl
      have q35_10 : wc.cell? ⟨gb137, 10, none⟩ = some (.int .i64 a0_10) := (YI BK137.out 10).trans rfl
      have q35_11 : wc.cell? ⟨gb137, 11, none⟩ = some (.int .i64 a0_11) := (YI BK137.out 11).trans rfl
      have f35_0 := YJ BK137.out 0
      have f35_1 := YJ BK137.out 1
      have f35_2 := YJ BK137.out 2
      have f35_3 := YJ BK137.out 3
      have f35_4 := YJ BK137.out 4
      have f35_5 := YJ BK137.out 5
      have f35_6 := YJ BK137.out 6
      have f35_7 := YJ BK137.out 7
      have f35_8 := YJ BK137.out 8
      have f35_9 := YJ BK137.out 9
      have f35_10 := YJ BK137.out 10
      have f35_11 := YJ BK137.out 11
      go_wp2
      go_meet
      case rel => exact ⟨_, (false), (0), (by first | rfl | (simp; done) | (simp [*]; done)), H', ⟨by have := HJ1.out; first | omega | exact Nat.le_refl _⟩, ⟨by (with_reducible repeat (first | refine YF ?_ _ | refine YG ?_ | refine YH ?_ _)); refine blk_far ?_ NB136_137.out _; (with_reducible repeat (first | refine YF ?_ _ | refine YG ?_ | refine YH ?_ _)); exact BK136.out⟩, ⟨by (with_reducible repeat (first | refine YF ?_ _ | refine YG ?_ | refine YH ?_ _)); refine blk_put (cs := #[.int .i64 0, .int .i64 0, .bool false, .int .i64 a0_3, .int .i64 a0_4, .int .i64 a0_5, .int .i64 a0_6, .int .i64 a0_7, .int .i64 a0_8, .int .i64 a0_9, .int .i64 a0_10, .int .i64 a0_11]) ?_ 11 _ rfl; (with_reducible repeat (first | refine YF ?_ _ | refine YG ?_ | refine YH ?_ _)); exact BK137.out⟩, ⟨by repeat (first | (with_reducible first | exact HB.out | apply YA | apply YB | apply YC | refine below_set ?_ GE136.out | refine below_set ?_ GE137.out) | exact HB.out)⟩⟩
     replace c24 := Bool.eq_false_iff.mpr c24
     subst c24
     have H1 : (object_Check.j1 kj1 false a0_0 a0_1 a0_2 a0_3 a0_4 a0_5 a0_6 a0_7 a0_8 a0_9 a0_10 a0_11 0 0 a0_2 a0_3 a0_4 a0_5 a0_6 a0_7 a0_8 a0_9 a0_10 0) = some r := by rw [if_neg (show ¬ (false = true) by decide)] at H; exact H
     clear H
     have H := H1
     clear H1
     have H' := YL H
     clear H
     have hnb36 := NB137_136.out
     have hnc36 := NB136_137.out
     have q37_0 : wc.cell? ⟨gb137, 0, none⟩ = some (.int .i64 0) := (YI BK137.out 0).trans rfl
     have q37_1 : wc.cell? ⟨gb137, 1, none⟩ = some (.int .i64 0) := (YI BK137.out 1).trans rfl
     have q37_2 : wc.cell? ⟨gb137, 2, none⟩ = some (.bool a0_2) := (YI BK137.out 2).trans rfl
     have q37_3 : wc.cell? ⟨gb137, 3, none⟩ = some (.int .i64 a0_3) := (YI BK137.out 3).trans rfl
     have q37_4 : wc.cell? ⟨gb137, 4, none⟩ = some (.int .i64 a0_4) := (YI BK137.out 4).trans rfl
     have q37_5 : wc.cell? ⟨gb137, 5, none⟩ = some (.int .i64 a0_5) := (YI BK137.out 5).trans rfl
     have q37_6 : wc.cell? ⟨gb137, 6, none⟩ = some (.int .i64 a0_6) := (YI BK137.out 6).trans rfl
     have q37_7 : wc.cell? ⟨gb137, 7, none⟩ = some (.int .i64 a0_7) := (YI BK137.out 7).trans rfl
     have q37_8 : wc.cell? ⟨gb137, 8, none⟩ = some (.int .i64 a0_8) := (YI BK137.out 8).trans rfl
     have q37_9 : wc.cell? ⟨gb137, 9, none⟩ = some (.int .i64 a0_9) := (YI BK137.out 9).trans rfl
     have q37_10 : wc.cell? ⟨gb137, 10, none⟩ = some (.int .i64 a0_10) := (YI BK137.out 10).trans rfl
     have q37_11 : wc.cell? ⟨gb137, 11, none⟩ = some (.int .i64 a0_11) := (YI BK137.out 11).trans rfl
     have f37_0 := YJ BK137.out 0
     have f37_1 := YJ BK137.out 1
     have f37_2 := YJ BK137.out 2
     have f37_3 := YJ BK137.out 3
     have f37_4 := YJ BK137.out 4
     have f37_5 := YJ BK137.out 5
     have f37_6 := YJ BK137.out 6
     have f37_7 := YJ BK137.out 7
     have f37_8 := YJ BK137.out 8
     have f37_9 := YJ BK137.out 9
     have f37_10 := YJ BK137.out 10
     have f37_11 := YJ BK137.out 11
     go_wp2
     go_meet
     case rel => exact ⟨_, (false), (0), (by first | rfl | (simp; done) | (simp [*]; done)), H', ⟨by have := HJ1.out; first | omega | exact Nat.le_refl _⟩, ⟨by (with_reducible repeat (first | refine YF ?_ _ | refine YG ?_ | refine YH ?_ _)); refine blk_far ?_ NB136_137.out _; (with_reducible repeat (first | refine YF ?_ _ | refine YG ?_ | refine YH ?_ _)); exact BK136.out⟩, ⟨by (with_reducible repeat (first | refine YF ?_ _ | refine YG ?_ | refine YH ?_ _)); refine blk_put (cs := #[.int .i64 0, .int .i64 0, .bool a0_2, .int .i64 a0_3, .int .i64 a0_4, .int .i64 a0_5, .int .i64 a0_6, .int .i64 a0_7, .int .i64 a0_8, .int .i64 a0_9, .int .i64 a0_10, .int .i64 a0_11]) ?_ 11 _ rfl; (with_reducible repeat (first | refine YF ?_ _ | refine YG ?_ | refine YH ?_ _)); exact BK137.out⟩, ⟨by repeat (first | (with_reducible first | exact HB.out | apply YA | apply YB | apply YC | refine below_set ?_ GE136.out | refine below_set ?_ GE137.out) | exact HB.out)⟩⟩
    rw [if_neg c23] at H
    have c23b0 : (a0_0 == 4) = false := beq_eq_false_iff_ne.mpr c23
    have c23b1 : (a0_0 != 4) = true := bne_iff_ne.mpr c23
    by_cases c38 : a0_0 = 2
    ·rw [if_pos c38] at H
     have c38b0 : (a0_0 == 2) = true := beq_iff_eq.mpr c38
     have c38b1 : (a0_0 != 2) = false := bne_eq_false_iff_eq.mpr c38
     clear c38
     have H' := YL H
     clear H
     go_wp2
     go_meet
     case rel => exact ⟨_, (x4_1), (a0_11), (by first | rfl | (simp; done) | (simp [*]; done)), H', ⟨by have := HJ1.out; first | omega | exact Nat.le_refl _⟩, ⟨by (with_reducible repeat (first | refine YF ?_ _ | refine YG ?_ | refine YH ?_ _)); exact BK136.out⟩, ⟨by (with_reducible repeat (first | refine YF ?_ _ | refine YG ?_ | refine YH ?_ _)); exact BK137.out⟩, ⟨by repeat (first | (with_reducible first | exact HB.out | apply YA | apply YB | apply YC | refine below_set ?_ GE136.out | refine below_set ?_ GE137.out) | exact HB.out)⟩⟩
    rw [if_neg c38] at H
    have c38b0 : (a0_0 == 2) = false := beq_eq_false_iff_ne.mpr c38
    have c38b1 : (a0_0 != 2) = true := bne_iff_ne.mpr c38
    by_cases c39 : a0_0 = 3
    ·rw [if_pos c39] at H
     have c39b0 : (a0_0 == 3) = true := beq_iff_eq.mpr c39
     have c39b1 : (a0_0 != 3) = false := bne_eq_false_iff_eq.mpr c39
     clear c39; replace H := Option.bind_eq_some_iff.mp H
     obtain ⟨⟨t138, t139, t140, t141, t142, t143, t144⟩, A400, H⟩ := H
     replace H : (if x4_1 = true then (if t144 = 0 then (if (!(0 == 0) || (!(0 == 0) || ((a0_2 || (!(a0_3 == 0) || (!(a0_4 == 0) || (!(a0_5 == 0) || (!(a0_6 == 0) || (!(a0_7 == 0))))))) || (!(a0_11 == 0))))) = true then (some 1) else (some 0)) else (some 1)) else (some 1)) = some r := H
     have A40 := YL A400; clear A400
     by_cases c41 : x4_1 = true
     ·subst c41
      have H1 : (if t144 = 0 then (if (!(0 == 0) || (!(0 == 0) || ((a0_2 || (!(a0_3 == 0) || (!(a0_4 == 0) || (!(a0_5 == 0) || (!(a0_6 == 0) || (!(a0_7 == 0))))))) || (!(a0_11 == 0))))) = true then (some 1) else (some 0)) else (some 1)) = some r := by rw [if_pos rfl] at H; exact H
      clear H
      have H := H1
      clear H1
      by_cases c42 : t144 = 0
      ·rw [if_pos c42] at H
       have c42b0 : (t144 == 0) = true := beq_iff_eq.mpr c42
       have c42b1 : (t144 != 0) = false := bne_eq_false_iff_eq.mpr c42
       clear c42
       by_cases c43 : (!(0 == 0) || (!(0 == 0) || ((a0_2 || (!(a0_3 == 0) || (!(a0_4 == 0) || (!(a0_5 == 0) || (!(a0_6 == 0) || (!(a0_7 == 0))))))) || (!(a0_11 == 0))))) = true
       ·rw [if_pos c43] at H
        have c43b0 : (!(0 == 0) || (!(0 == 0) || ((a0_2 || (!(a0_3 == 0) || (!(a0_4 == 0) || (!(a0_5 == 0) || (!(a0_6 == 0) || (!(a0_7 == 0))))))) || (!(a0_11 == 0))))) = true := c43
        have c43b9 := c43b0
        (try simp only [beq_self_eq_true, Bool.not_true, Bool.not_false, Bool.false_or, Bool.true_and, Bool.or_false, Bool.and_true] at c43b9)
        clear c43
        obtain rfl := Option.some.inj H
        have hnb44 := NB136_137.out
        have hnc44 := NB137_136.out
        have q45_0 : wc.cell? ⟨gb136, 0, none⟩ = some (.int .i64 a0_0) := (YI BK136.out 0).trans rfl
        have q45_1 : wc.cell? ⟨gb136, 1, none⟩ = some (.int .i64 a0_1) := (YI BK136.out 1).trans rfl
        have q45_2 : wc.cell? ⟨gb136, 2, none⟩ = some (.bool a0_2) := (YI BK136.out 2).trans rfl
        have q45_3 : wc.cell? ⟨gb136, 3, none⟩ = some (.int .i64 a0_3) := (YI BK136.out 3).trans rfl
        have q45_4 : wc.cell? ⟨gb136, 4, none⟩ = some (.int .i64 a0_4) := (YI BK136.out 4).trans rfl
        have q45_5 : wc.cell? ⟨gb136, 5, none⟩ = some (.int .i64 a0_5) := (YI BK136.out 5).trans rfl
        have q45_6 : wc.cell? ⟨gb136, 6, none⟩ = some (.int .i64 a0_6) := (YI BK136.out 6).trans rfl
        have q45_7 : wc.cell? ⟨gb136, 7, none⟩ = some (.int .i64 a0_7) := (YI BK136.out 7).trans rfl
        have q45_8 : wc.cell? ⟨gb136, 8, none⟩ = some (.int .i64 a0_8) := (YI BK136.out 8).trans rfl
        have q45_9 : wc.cell? ⟨gb136, 9, none⟩ = some (.int .i64 a0_9) := (YI BK136.out 9).trans rfl
        have q45_10 : wc.cell? ⟨gb136, 10, none⟩ = some (.int .i64 a0_10) := (YI BK136.out 10).trans rfl
        have q45_11 : wc.cell? ⟨gb136, 11, none⟩ = some (.int .i64 a0_11) := (YI BK136.out 11).trans rfl
        have f45_0 := YJ BK136.out 0
        have f45_1 := YJ BK136.out 1
        have f45_2 := YJ BK136.out 2
        have f45_3 := YJ BK136.out 3
        have f45_4 := YJ BK136.out 4
        have f45_5 := YJ BK136.out 5
        have f45_6 := YJ BK136.out 6
        have f45_7 := YJ BK136.out 7
        have f45_8 := YJ BK136.out 8
        have f45_9 := YJ BK136.out 9
        have f45_10 := YJ BK136.out 10
        have f45_11 := YJ BK136.out 11
        go_wp2_with (first | ((with_reducible refine gate_callee (f := 49) rfl ?_); refine goesL_ (some 58) rfl rfl Try.func49 (by kernel_rfl) rfl #[.agg #[.int .i64 a0_8, .int .i64 a0_9, .int .i64 a0_10], .int .i64 0, .int .i64 0] rfl (by (try simp only [YM, List.map_cons, List.map_nil]); first | done | rfl | (simp only [YO, YN]; rfl)) ?_; (with_reducible refine (height_At.calls kj1 a0_8 a0_9 a0_10 0 0 t138 t139 t140 t141 t142 t143 t144 _ A40.out).mono ?_); rintro e w46 ⟨rfl, hb⟩; refine ⟨_, rfl, ?_⟩; have n0_ := YL (YK (g := gb136) (o := .cells #[.int .i64 a0_0, .int .i64 a0_1, .bool a0_2, .int .i64 a0_3, .int .i64 a0_4, .int .i64 a0_5, .int .i64 a0_6, .int .i64 a0_7, .int .i64 a0_8, .int .i64 a0_9, .int .i64 a0_10, .int .i64 a0_11] 34 (0, 0)) (by (with_reducible repeat (first | refine YF ?_ _ | refine YG ?_ | refine YH ?_ _)); exact BK136.out) hb); have n1_ := YL (YK (g := gb137) (o := .cells #[.int .i64 0, .int .i64 0, .bool a0_2, .int .i64 a0_3, .int .i64 a0_4, .int .i64 a0_5, .int .i64 a0_6, .int .i64 a0_7, .int .i64 a0_8, .int .i64 a0_9, .int .i64 a0_10, .int .i64 a0_11] 34 (0, 0)) (by (with_reducible repeat (first | refine YF ?_ _ | refine YG ?_ | refine YH ?_ _)); exact BK137.out) hb); have n2_ := YL (YD (by repeat (first | (with_reducible first | exact HB.out | apply YA | apply YB | apply YC | refine below_set ?_ GE136.out | refine below_set ?_ GE137.out) | exact HB.out)) hb); clear BK136; clear BK137; clear HB; have BK136 := n0_; have BK137 := n1_; have HB := n2_; clear n0_ n1_ n2_; (try clear hb); (try clear hb2); (try clear hk); (try clear hi)) | ((with_reducible refine gate_dst (N := 5) rfl ?_); refine box_event ?hg (N := 5) ?hd (cs := #[.bool false, .int .i64 0, .int .i64 0, .int .i64 0, .int .i64 0, .int .i64 0]) (t := 30) ?hr ?_; (case hd => rfl); (case hg => rfl); (case hr => first | (go_simp; done) | (go_simp; rfl)); intro gb145 hg w47 hbox hb; have n0_ := YL (YK (g := gb136) (o := .cells #[.int .i64 a0_0, .int .i64 a0_1, .bool a0_2, .int .i64 a0_3, .int .i64 a0_4, .int .i64 a0_5, .int .i64 a0_6, .int .i64 a0_7, .int .i64 a0_8, .int .i64 a0_9, .int .i64 a0_10, .int .i64 a0_11] 34 (0, 0)) (by (with_reducible repeat (first | refine YF ?_ _ | refine YG ?_ | refine YH ?_ _)); exact BK136.out) hb); have n1_ := YL (YK (g := gb137) (o := .cells #[.int .i64 0, .int .i64 0, .bool a0_2, .int .i64 a0_3, .int .i64 a0_4, .int .i64 a0_5, .int .i64 a0_6, .int .i64 a0_7, .int .i64 a0_8, .int .i64 a0_9, .int .i64 a0_10, .int .i64 a0_11] 34 (0, 0)) (by (with_reducible repeat (first | refine YF ?_ _ | refine YG ?_ | refine YH ?_ _)); exact BK137.out) hb); have n2_ := YL (YD (by repeat (first | (with_reducible first | exact HB.out | apply YA | apply YB | apply YC | refine below_set ?_ GE136.out | refine below_set ?_ GE137.out) | exact HB.out)) hb); have n3_ := YL (hbox); have n4_ := YL ((by rw [hg]; exact (YE (by repeat (first | (with_reducible first | exact HB.out | apply YA | apply YB | apply YC | refine below_set ?_ GE136.out | refine below_set ?_ GE137.out) | exact HB.out))) : w.heap.size ≤ gb145)); have n5_ := YL ((by rw [hg]; exact (YE (by repeat (first | (with_reducible first | exact HB.out | apply YA | apply YB | apply YC | refine below_set ?_ GE136.out | refine below_set ?_ GE137.out) | exact HB.out))) : w.heap.size ≤ gb145)); have n6_ := YL ((by rw [hg]; exact Nat.ne_of_lt (blk_lt (g := gb136) (o := .cells #[.int .i64 a0_0, .int .i64 a0_1, .bool a0_2, .int .i64 a0_3, .int .i64 a0_4, .int .i64 a0_5, .int .i64 a0_6, .int .i64 a0_7, .int .i64 a0_8, .int .i64 a0_9, .int .i64 a0_10, .int .i64 a0_11] 34 (0, 0)) (by (with_reducible repeat (first | refine YF ?_ _ | refine YG ?_ | refine YH ?_ _)); exact BK136.out)) : gb136 ≠ gb145)); have n7_ := YL ((by rw [hg]; exact Nat.ne_of_gt (blk_lt (g := gb136) (o := .cells #[.int .i64 a0_0, .int .i64 a0_1, .bool a0_2, .int .i64 a0_3, .int .i64 a0_4, .int .i64 a0_5, .int .i64 a0_6, .int .i64 a0_7, .int .i64 a0_8, .int .i64 a0_9, .int .i64 a0_10, .int .i64 a0_11] 34 (0, 0)) (by (with_reducible repeat (first | refine YF ?_ _ | refine YG ?_ | refine YH ?_ _)); exact BK136.out)) : gb145 ≠ gb136)); have n8_ := YL ((by rw [hg]; exact Nat.ne_of_lt (blk_lt (g := gb137) (o := .cells #[.int .i64 0, .int .i64 0, .bool a0_2, .int .i64 a0_3, .int .i64 a0_4, .int .i64 a0_5, .int .i64 a0_6, .int .i64 a0_7, .int .i64 a0_8, .int .i64 a0_9, .int .i64 a0_10, .int .i64 a0_11] 34 (0, 0)) (by (with_reducible repeat (first | refine YF ?_ _ | refine YG ?_ | refine YH ?_ _)); exact BK137.out)) : gb137 ≠ gb145)); have n9_ := YL ((by rw [hg]; exact Nat.ne_of_gt (blk_lt (g := gb137) (o := .cells #[.int .i64 0, .int .i64 0, .bool a0_2, .int .i64 a0_3, .int .i64 a0_4, .int .i64 a0_5, .int .i64 a0_6, .int .i64 a0_7, .int .i64 a0_8, .int .i64 a0_9, .int .i64 a0_10, .int .i64 a0_11] 34 (0, 0)) (by (with_reducible repeat (first | refine YF ?_ _ | refine YG ?_ | refine YH ?_ _)); exact BK137.out)) : gb145 ≠ gb137)); clear BK136; clear BK137; clear HB; have BK136 := n0_; have BK137 := n1_; have HB := n2_; have BK145 := n3_; have GW145 := n4_; have GE145 := n5_; have NB136_145 := n6_; have NB145_136 := n7_; have NB137_145 := n8_; have NB145_137 := n9_; clear n0_ n1_ n2_ n3_ n4_ n5_ n6_ n7_ n8_ n9_; clear hb hbox hg; have hnb48 := NB145_136.out; have hnc48 := NB136_145.out; have hnb49 := NB145_137.out; have hnc49 := NB137_145.out; have q50_0 : w47.cell? ⟨gb145, 0, none⟩ = some (.bool false) := (YI BK145.out 0).trans rfl; have q50_1 : w47.cell? ⟨gb145, 1, none⟩ = some (.int .i64 0) := (YI BK145.out 1).trans rfl; have q50_2 : w47.cell? ⟨gb145, 2, none⟩ = some (.int .i64 0) := (YI BK145.out 2).trans rfl; have q50_3 : w47.cell? ⟨gb145, 3, none⟩ = some (.int .i64 0) := (YI BK145.out 3).trans rfl; have q50_4 : w47.cell? ⟨gb145, 4, none⟩ = some (.int .i64 0) := (YI BK145.out 4).trans rfl; have q50_5 : w47.cell? ⟨gb145, 5, none⟩ = some (.int .i64 0) := (YI BK145.out 5).trans rfl; have f50_0 := YJ BK145.out 0; have f50_1 := YJ BK145.out 1; have f50_2 := YJ BK145.out 2; have f50_3 := YJ BK145.out 3; have f50_4 := YJ BK145.out 4; have f50_5 := YJ BK145.out 5; have q51_0 : w47.cell? ⟨gb137, 0, none⟩ = some (.int .i64 0) := (YI BK137.out 0).trans rfl; have q51_1 : w47.cell? ⟨gb137, 1, none⟩ = some (.int .i64 0) := (YI BK137.out 1).trans rfl; have q51_2 : w47.cell? ⟨gb137, 2, none⟩ = some (.bool a0_2) := (YI BK137.out 2).trans rfl; have q51_3 : w47.cell? ⟨gb137, 3, none⟩ = some (.int .i64 a0_3) := (YI BK137.out 3).trans rfl; have q51_4 : w47.cell? ⟨gb137, 4, none⟩ = some (.int .i64 a0_4) := (YI BK137.out 4).trans rfl; have q51_5 : w47.cell? ⟨gb137, 5, none⟩ = some (.int .i64 a0_5) := (YI BK137.out 5).trans rfl; have q51_6 : w47.cell? ⟨gb137, 6, none⟩ = some (.int .i64 a0_6) := (YI BK137.out 6).trans rfl; have q51_7 : w47.cell? ⟨gb137, 7, none⟩ = some (.int .i64 a0_7) := (YI BK137.out 7).trans rfl; have q51_8 : w47.cell? ⟨gb137, 8, none⟩ = some (.int .i64 a0_8) := (YI BK137.out 8).trans rfl; have q51_9 : w47.cell? ⟨gb137, 9, none⟩ = some (.int .i64 a0_9) := (YI BK137.out 9).trans rfl; have q51_10 : w47.cell? ⟨gb137, 10, none⟩ = some (.int .i64 a0_10) := (YI BK137.out 10).trans rfl; have q51_11 : w47.cell? ⟨gb137, 11, none⟩ = some (.int .i64 a0_11) := (YI BK137.out 11).trans rfl; have f51_0 := YJ BK137.out 0; have f51_1 := YJ BK137.out 1; have f51_2 := YJ BK137.out 2; have f51_3 := YJ BK137.out 3; have f51_4 := YJ BK137.out 4; have f51_5 := YJ BK137.out 5; have f51_6 := YJ BK137.out 6; have f51_7 := YJ BK137.out 7; have f51_8 := YJ BK137.out 8; have f51_9 := YJ BK137.out 9; have f51_10 := YJ BK137.out 10; have f51_11 := YJ BK137.out 11))
        go_ret
        exact ⟨by first | rfl | (simp [errW_none, errW_some] <;> rfl) | (simp [*, errW_none, errW_some] <;> rfl), by repeat (first | (with_reducible first | exact HB.out | apply YA | apply YB | apply YC | refine below_set ?_ GE136.out | refine below_set ?_ GE137.out | refine below_set ?_ GE145.out) | exact HB.out)⟩
       rw [if_neg c43] at H
       have c43b0 : (!(0 == 0) || (!(0 == 0) || ((a0_2 || (!(a0_3 == 0) || (!(a0_4 == 0) || (!(a0_5 == 0) || (!(a0_6 == 0) || (!(a0_7 == 0))))))) || (!(a0_11 == 0))))) = false := by simpa using c43
       have c43b9 := c43b0
       (try simp only [beq_self_eq_true, Bool.not_true, Bool.not_false, Bool.false_or, Bool.true_and, Bool.or_false, Bool.and_true] at c43b9)
       clear c43
       obtain rfl := Option.some.inj H
       have hnb52 := NB136_137.out
       have hnc52 := NB137_136.out
       have q53_0 : wc.cell? ⟨gb136, 0, none⟩ = some (.int .i64 a0_0) := (YI BK136.out 0).trans rfl
       have q53_1 : wc.cell? ⟨gb136, 1, none⟩ = some (.int .i64 a0_1) := (YI BK136.out 1).trans rfl
       have q53_2 : wc.cell? ⟨gb136, 2, none⟩ = some (.bool a0_2) := (YI BK136.out 2).trans rfl
       have q53_3 : wc.cell? ⟨gb136, 3, none⟩ = some (.int .i64 a0_3) := (YI BK136.out 3).trans rfl
       have q53_4 : wc.cell? ⟨gb136, 4, none⟩ = some (.int .i64 a0_4) := (YI BK136.out 4).trans rfl
       have q53_5 : wc.cell? ⟨gb136, 5, none⟩ = some (.int .i64 a0_5) := (YI BK136.out 5).trans rfl
       have q53_6 : wc.cell? ⟨gb136, 6, none⟩ = some (.int .i64 a0_6) := (YI BK136.out 6).trans rfl
       have q53_7 : wc.cell? ⟨gb136, 7, none⟩ = some (.int .i64 a0_7) := (YI BK136.out 7).trans rfl
       have q53_8 : wc.cell? ⟨gb136, 8, none⟩ = some (.int .i64 a0_8) := (YI BK136.out 8).trans rfl
       have q53_9 : wc.cell? ⟨gb136, 9, none⟩ = some (.int .i64 a0_9) := (YI BK136.out 9).trans rfl
       have q53_10 : wc.cell? ⟨gb136, 10, none⟩ = some (.int .i64 a0_10) := (YI BK136.out 10).trans rfl
       have q53_11 : wc.cell? ⟨gb136, 11, none⟩ = some (.int .i64 a0_11) := (YI BK136.out 11).trans rfl
       have f53_0 := YJ BK136.out 0
       have f53_1 := YJ BK136.out 1
       have f53_2 := YJ BK136.out 2
       have f53_3 := YJ BK136.out 3
       have f53_4 := YJ BK136.out 4
       have f53_5 := YJ BK136.out 5
       have f53_6 := YJ BK136.out 6
       have f53_7 := YJ BK136.out 7
       have f53_8 := YJ BK136.out 8
       have f53_9 := YJ BK136.out 9
       have f53_10 := YJ BK136.out 10
       have f53_11 := YJ BK136.out 11
       go_wp2_with (first | ((with_reducible refine gate_callee (f := 49) rfl ?_); refine goesL_ (some 58) rfl rfl Try.func49 (by kernel_rfl) rfl #[.agg #[.int .i64 a0_8, .int .i64 a0_9, .int .i64 a0_10], .int .i64 0, .int .i64 0] rfl (by (try simp only [YM, List.map_cons, List.map_nil]); first | done | rfl | (simp only [YO, YN]; rfl)) ?_; (with_reducible refine (height_At.calls kj1 a0_8 a0_9 a0_10 0 0 t138 t139 t140 t141 t142 t143 t144 _ A40.out).mono ?_); rintro e w54 ⟨rfl, hb⟩; refine ⟨_, rfl, ?_⟩; have n0_ := YL (YK (g := gb136) (o := .cells #[.int .i64 a0_0, .int .i64 a0_1, .bool a0_2, .int .i64 a0_3, .int .i64 a0_4, .int .i64 a0_5, .int .i64 a0_6, .int .i64 a0_7, .int .i64 a0_8, .int .i64 a0_9, .int .i64 a0_10, .int .i64 a0_11] 34 (0, 0)) (by (with_reducible repeat (first | refine YF ?_ _ | refine YG ?_ | refine YH ?_ _)); exact BK136.out) hb); have n1_ := YL (YK (g := gb137) (o := .cells #[.int .i64 0, .int .i64 0, .bool a0_2, .int .i64 a0_3, .int .i64 a0_4, .int .i64 a0_5, .int .i64 a0_6, .int .i64 a0_7, .int .i64 a0_8, .int .i64 a0_9, .int .i64 a0_10, .int .i64 a0_11] 34 (0, 0)) (by (with_reducible repeat (first | refine YF ?_ _ | refine YG ?_ | refine YH ?_ _)); exact BK137.out) hb); have n2_ := YL (YD (by repeat (first | (with_reducible first | exact HB.out | apply YA | apply YB | apply YC | refine below_set ?_ GE136.out | refine below_set ?_ GE137.out) | exact HB.out)) hb); clear BK136; clear BK137; clear HB; have BK136 := n0_; have BK137 := n1_; have HB := n2_; clear n0_ n1_ n2_; (try clear hb); (try clear hb2); (try clear hk); (try clear hi)) | ((with_reducible refine gate_dst (N := 5) rfl ?_); refine box_event ?hg (N := 5) ?hd (cs := #[.bool false, .int .i64 0, .int .i64 0, .int .i64 0, .int .i64 0, .int .i64 0]) (t := 30) ?hr ?_; (case hd => rfl); (case hg => rfl); (case hr => first | (go_simp; done) | (go_simp; rfl)); intro gb145 hg w55 hbox hb; have n0_ := YL (YK (g := gb136) (o := .cells #[.int .i64 a0_0, .int .i64 a0_1, .bool a0_2, .int .i64 a0_3, .int .i64 a0_4, .int .i64 a0_5, .int .i64 a0_6, .int .i64 a0_7, .int .i64 a0_8, .int .i64 a0_9, .int .i64 a0_10, .int .i64 a0_11] 34 (0, 0)) (by (with_reducible repeat (first | refine YF ?_ _ | refine YG ?_ | refine YH ?_ _)); exact BK136.out) hb); have n1_ := YL (YK (g := gb137) (o := .cells #[.int .i64 0, .int .i64 0, .bool a0_2, .int .i64 a0_3, .int .i64 a0_4, .int .i64 a0_5, .int .i64 a0_6, .int .i64 a0_7, .int .i64 a0_8, .int .i64 a0_9, .int .i64 a0_10, .int .i64 a0_11] 34 (0, 0)) (by (with_reducible repeat (first | refine YF ?_ _ | refine YG ?_ | refine YH ?_ _)); exact BK137.out) hb); have n2_ := YL (YD (by repeat (first | (with_reducible first | exact HB.out | apply YA | apply YB | apply YC | refine below_set ?_ GE136.out | refine below_set ?_ GE137.out) | exact HB.out)) hb); have n3_ := YL (hbox); have n4_ := YL ((by rw [hg]; exact (YE (by repeat (first | (with_reducible first | exact HB.out | apply YA | apply YB | apply YC | refine below_set ?_ GE136.out | refine below_set ?_ GE137.out) | exact HB.out))) : w.heap.size ≤ gb145)); have n5_ := YL ((by rw [hg]; exact (YE (by repeat (first | (with_reducible first | exact HB.out | apply YA | apply YB | apply YC | refine below_set ?_ GE136.out | refine below_set ?_ GE137.out) | exact HB.out))) : w.heap.size ≤ gb145)); have n6_ := YL ((by rw [hg]; exact Nat.ne_of_lt (blk_lt (g := gb136) (o := .cells #[.int .i64 a0_0, .int .i64 a0_1, .bool a0_2, .int .i64 a0_3, .int .i64 a0_4, .int .i64 a0_5, .int .i64 a0_6, .int .i64 a0_7, .int .i64 a0_8, .int .i64 a0_9, .int .i64 a0_10, .int .i64 a0_11] 34 (0, 0)) (by (with_reducible repeat (first | refine YF ?_ _ | refine YG ?_ | refine YH ?_ _)); exact BK136.out)) : gb136 ≠ gb145)); have n7_ := YL ((by rw [hg]; exact Nat.ne_of_gt (blk_lt (g := gb136) (o := .cells #[.int .i64 a0_0, .int .i64 a0_1, .bool a0_2, .int .i64 a0_3, .int .i64 a0_4, .int .i64 a0_5, .int .i64 a0_6, .int .i64 a0_7, .int .i64 a0_8, .int .i64 a0_9, .int .i64 a0_10, .int .i64 a0_11] 34 (0, 0)) (by (with_reducible repeat (first | refine YF ?_ _ | refine YG ?_ | refine YH ?_ _)); exact BK136.out)) : gb145 ≠ gb136)); have n8_ := YL ((by rw [hg]; exact Nat.ne_of_lt (blk_lt (g := gb137) (o := .cells #[.int .i64 0, .int .i64 0, .bool a0_2, .int .i64 a0_3, .int .i64 a0_4, .int .i64 a0_5, .int .i64 a0_6, .int .i64 a0_7, .int .i64 a0_8, .int .i64 a0_9, .int .i64 a0_10, .int .i64 a0_11] 34 (0, 0)) (by (with_reducible repeat (first | refine YF ?_ _ | refine YG ?_ | refine YH ?_ _)); exact BK137.out)) : gb137 ≠ gb145)); have n9_ := YL ((by rw [hg]; exact Nat.ne_of_gt (blk_lt (g := gb137) (o := .cells #[.int .i64 0, .int .i64 0, .bool a0_2, .int .i64 a0_3, .int .i64 a0_4, .int .i64 a0_5, .int .i64 a0_6, .int .i64 a0_7, .int .i64 a0_8, .int .i64 a0_9, .int .i64 a0_10, .int .i64 a0_11] 34 (0, 0)) (by (with_reducible repeat (first | refine YF ?_ _ | refine YG ?_ | refine YH ?_ _)); exact BK137.out)) : gb145 ≠ gb137)); clear BK136; clear BK137; clear HB; have BK136 := n0_; have BK137 := n1_; have HB := n2_; have BK145 := n3_; have GW145 := n4_; have GE145 := n5_; have NB136_145 := n6_; have NB145_136 := n7_; have NB137_145 := n8_; have NB145_137 := n9_; clear n0_ n1_ n2_ n3_ n4_ n5_ n6_ n7_ n8_ n9_; clear hb hbox hg; have hnb56 := NB145_136.out; have hnc56 := NB136_145.out; have hnb57 := NB145_137.out; have hnc57 := NB137_145.out; have q58_0 : w55.cell? ⟨gb145, 0, none⟩ = some (.bool false) := (YI BK145.out 0).trans rfl; have q58_1 : w55.cell? ⟨gb145, 1, none⟩ = some (.int .i64 0) := (YI BK145.out 1).trans rfl; have q58_2 : w55.cell? ⟨gb145, 2, none⟩ = some (.int .i64 0) := (YI BK145.out 2).trans rfl; have q58_3 : w55.cell? ⟨gb145, 3, none⟩ = some (.int .i64 0) := (YI BK145.out 3).trans rfl; have q58_4 : w55.cell? ⟨gb145, 4, none⟩ = some (.int .i64 0) := (YI BK145.out 4).trans rfl; have q58_5 : w55.cell? ⟨gb145, 5, none⟩ = some (.int .i64 0) := (YI BK145.out 5).trans rfl; have f58_0 := YJ BK145.out 0; have f58_1 := YJ BK145.out 1; have f58_2 := YJ BK145.out 2; have f58_3 := YJ BK145.out 3; have f58_4 := YJ BK145.out 4; have f58_5 := YJ BK145.out 5; have q59_0 : w55.cell? ⟨gb137, 0, none⟩ = some (.int .i64 0) := (YI BK137.out 0).trans rfl; have q59_1 : w55.cell? ⟨gb137, 1, none⟩ = some (.int .i64 0) := (YI BK137.out 1).trans rfl; have q59_2 : w55.cell? ⟨gb137, 2, none⟩ = some (.bool a0_2) := (YI BK137.out 2).trans rfl; have q59_3 : w55.cell? ⟨gb137, 3, none⟩ = some (.int .i64 a0_3) := (YI BK137.out 3).trans rfl; have q59_4 : w55.cell? ⟨gb137, 4, none⟩ = some (.int .i64 a0_4) := (YI BK137.out 4).trans rfl; have q59_5 : w55.cell? ⟨gb137, 5, none⟩ = some (.int .i64 a0_5) := (YI BK137.out 5).trans rfl; have q59_6 : w55.cell? ⟨gb137, 6, none⟩ = some (.int .i64 a0_6) := (YI BK137.out 6).trans rfl; have q59_7 : w55.cell? ⟨gb137, 7, none⟩ = some (.int .i64 a0_7) := (YI BK137.out 7).trans rfl; have q59_8 : w55.cell? ⟨gb137, 8, none⟩ = some (.int .i64 a0_8) := (YI BK137.out 8).trans rfl; have q59_9 : w55.cell? ⟨gb137, 9, none⟩ = some (.int .i64 a0_9) := (YI BK137.out 9).trans rfl; have q59_10 : w55.cell? ⟨gb137, 10, none⟩ = some (.int .i64 a0_10) := (YI BK137.out 10).trans rfl; have q59_11 : w55.cell? ⟨gb137, 11, none⟩ = some (.int .i64 a0_11) := (YI BK137.out 11).trans rfl; have f59_0 := YJ BK137.out 0; have f59_1 := YJ BK137.out 1; have f59_2 := YJ BK137.out 2; have f59_3 := YJ BK137.out 3; have f59_4 := YJ BK137.out 4; have f59_5 := YJ BK137.out 5; have f59_6 := YJ BK137.out 6; have f59_7 := YJ BK137.out 7; have f59_8 := YJ BK137.out 8; have f59_9 := YJ BK137.out 9; have f59_10 := YJ BK137.out 10; have f59_11 := YJ BK137.out 11))
       go_ret
       exact ⟨by first | rfl | (simp [errW_none, errW_some] <;> rfl) | (simp [*, errW_none, errW_some] <;> rfl), by repeat (first | (with_reducible first | exact HB.out | apply YA | apply YB | apply YC | refine below_set ?_ GE136.out | refine below_set ?_ GE137.out | refine below_set ?_ GE145.out) | exact HB.out)⟩
      rw [if_neg c42] at H
      have c42b0 : (t144 == 0) = false := beq_eq_false_iff_ne.mpr c42
      have c42b1 : (t144 != 0) = true := bne_iff_ne.mpr c42
      obtain rfl := Option.some.inj H
      have hnb60 := NB136_137.out
      have hnc60 := NB137_136.out
      have q61_0 : wc.cell? ⟨gb136, 0, none⟩ = some (.int .i64 a0_0) := (YI BK136.out 0).trans rfl
      have q61_1 : wc.cell? ⟨gb136, 1, none⟩ = some (.int .i64 a0_1) := (YI BK136.out 1).trans rfl
      have q61_2 : wc.cell? ⟨gb136, 2, none⟩ = some (.bool a0_2) := (YI BK136.out 2).trans rfl
      have q61_3 : wc.cell? ⟨gb136, 3, none⟩ = some (.int .i64 a0_3) := (YI BK136.out 3).trans rfl
      have q61_4 : wc.cell? ⟨gb136, 4, none⟩ = some (.int .i64 a0_4) := (YI BK136.out 4).trans rfl
      have q61_5 : wc.cell? ⟨gb136, 5, none⟩ = some (.int .i64 a0_5) := (YI BK136.out 5).trans rfl
      have q61_6 : wc.cell? ⟨gb136, 6, none⟩ = some (.int .i64 a0_6) := (YI BK136.out 6).trans rfl
      have q61_7 : wc.cell? ⟨gb136, 7, none⟩ = some (.int .i64 a0_7) := (YI BK136.out 7).trans rfl
      have q61_8 : wc.cell? ⟨gb136, 8, none⟩ = some (.int .i64 a0_8) := (YI BK136.out 8).trans rfl
      have q61_9 : wc.cell? ⟨gb136, 9, none⟩ = some (.int .i64 a0_9) := (YI BK136.out 9).trans rfl
      have q61_10 : wc.cell? ⟨gb136, 10, none⟩ = some (.int .i64 a0_10) := (YI BK136.out 10).trans rfl
      have q61_11 : wc.cell? ⟨gb136, 11, none⟩ = some (.int .i64 a0_11) := (YI BK136.out 11).trans rfl
      have f61_0 := YJ BK136.out 0
      have f61_1 := YJ BK136.out 1
      have f61_2 := YJ BK136.out 2
      have f61_3 := YJ BK136.out 3
      have f61_4 := YJ BK136.out 4
      have f61_5 := YJ BK136.out 5
      have f61_6 := YJ BK136.out 6
      have f61_7 := YJ BK136.out 7
      have f61_8 := YJ BK136.out 8
      have f61_9 := YJ BK136.out 9
      have f61_10 := YJ BK136.out 10
      have f61_11 := YJ BK136.out 11
      go_wp2_with (first | ((with_reducible refine gate_callee (f := 49) rfl ?_); refine goesL_ (some 58) rfl rfl Try.func49 (by kernel_rfl) rfl #[.agg #[.int .i64 a0_8, .int .i64 a0_9, .int .i64 a0_10], .int .i64 0, .int .i64 0] rfl (by (try simp only [YM, List.map_cons, List.map_nil]); first | done | rfl | (simp only [YO, YN]; rfl)) ?_; (with_reducible refine (height_At.calls kj1 a0_8 a0_9 a0_10 0 0 t138 t139 t140 t141 t142 t143 t144 _ A40.out).mono ?_); rintro e w62 ⟨rfl, hb⟩; refine ⟨_, rfl, ?_⟩; have n0_ := YL (YK (g := gb136) (o := .cells #[.int .i64 a0_0, .int .i64 a0_1, .bool a0_2, .int .i64 a0_3, .int .i64 a0_4, .int .i64 a0_5, .int .i64 a0_6, .int .i64 a0_7, .int .i64 a0_8, .int .i64 a0_9, .int .i64 a0_10, .int .i64 a0_11] 34 (0, 0)) (by (with_reducible repeat (first | refine YF ?_ _ | refine YG ?_ | refine YH ?_ _)); exact BK136.out) hb); have n1_ := YL (YK (g := gb137) (o := .cells #[.int .i64 0, .int .i64 0, .bool a0_2, .int .i64 a0_3, .int .i64 a0_4, .int .i64 a0_5, .int .i64 a0_6, .int .i64 a0_7, .int .i64 a0_8, .int .i64 a0_9, .int .i64 a0_10, .int .i64 a0_11] 34 (0, 0)) (by (with_reducible repeat (first | refine YF ?_ _ | refine YG ?_ | refine YH ?_ _)); exact BK137.out) hb); have n2_ := YL (YD (by repeat (first | (with_reducible first | exact HB.out | apply YA | apply YB | apply YC | refine below_set ?_ GE136.out | refine below_set ?_ GE137.out) | exact HB.out)) hb); clear BK136; clear BK137; clear HB; have BK136 := n0_; have BK137 := n1_; have HB := n2_; clear n0_ n1_ n2_; (try clear hb); (try clear hb2); (try clear hk); (try clear hi)) | ((with_reducible refine gate_dst (N := 5) rfl ?_); refine box_event ?hg (N := 5) ?hd (cs := #[.bool false, .int .i64 0, .int .i64 0, .int .i64 0, .int .i64 0, .int .i64 0]) (t := 30) ?hr ?_; (case hd => rfl); (case hg => rfl); (case hr => first | (go_simp; done) | (go_simp; rfl)); intro gb145 hg w63 hbox hb; have n0_ := YL (YK (g := gb136) (o := .cells #[.int .i64 a0_0, .int .i64 a0_1, .bool a0_2, .int .i64 a0_3, .int .i64 a0_4, .int .i64 a0_5, .int .i64 a0_6, .int .i64 a0_7, .int .i64 a0_8, .int .i64 a0_9, .int .i64 a0_10, .int .i64 a0_11] 34 (0, 0)) (by (with_reducible repeat (first | refine YF ?_ _ | refine YG ?_ | refine YH ?_ _)); exact BK136.out) hb); have n1_ := YL (YK (g := gb137) (o := .cells #[.int .i64 0, .int .i64 0, .bool a0_2, .int .i64 a0_3, .int .i64 a0_4, .int .i64 a0_5, .int .i64 a0_6, .int .i64 a0_7, .int .i64 a0_8, .int .i64 a0_9, .int .i64 a0_10, .int .i64 a0_11] 34 (0, 0)) (by (with_reducible repeat (first | refine YF ?_ _ | refine YG ?_ | refine YH ?_ _)); exact BK137.out) hb); have n2_ := YL (YD (by repeat (first | (with_reducible first | exact HB.out | apply YA | apply YB | apply YC | refine below_set ?_ GE136.out | refine below_set ?_ GE137.out) | exact HB.out)) hb); have n3_ := YL (hbox); have n4_ := YL ((by rw [hg]; exact (YE (by repeat (first | (with_reducible first | exact HB.out | apply YA | apply YB | apply YC | refine below_set ?_ GE136.out | refine below_set ?_ GE137.out) | exact HB.out))) : w.heap.size ≤ gb145)); have n5_ := YL ((by rw [hg]; exact (YE (by repeat (first | (with_reducible first | exact HB.out | apply YA | apply YB | apply YC | refine below_set ?_ GE136.out | refine below_set ?_ GE137.out) | exact HB.out))) : w.heap.size ≤ gb145)); have n6_ := YL ((by rw [hg]; exact Nat.ne_of_lt (blk_lt (g := gb136) (o := .cells #[.int .i64 a0_0, .int .i64 a0_1, .bool a0_2, .int .i64 a0_3, .int .i64 a0_4, .int .i64 a0_5, .int .i64 a0_6, .int .i64 a0_7, .int .i64 a0_8, .int .i64 a0_9, .int .i64 a0_10, .int .i64 a0_11] 34 (0, 0)) (by (with_reducible repeat (first | refine YF ?_ _ | refine YG ?_ | refine YH ?_ _)); exact BK136.out)) : gb136 ≠ gb145)); have n7_ := YL ((by rw [hg]; exact Nat.ne_of_gt (blk_lt (g := gb136) (o := .cells #[.int .i64 a0_0, .int .i64 a0_1, .bool a0_2, .int .i64 a0_3, .int .i64 a0_4, .int .i64 a0_5, .int .i64 a0_6, .int .i64 a0_7, .int .i64 a0_8, .int .i64 a0_9, .int .i64 a0_10, .int .i64 a0_11] 34 (0, 0)) (by (with_reducible repeat (first | refine YF ?_ _ | refine YG ?_ | refine YH ?_ _)); exact BK136.out)) : gb145 ≠ gb136)); have n8_ := YL ((by rw [hg]; exact Nat.ne_of_lt (blk_lt (g := gb137) (o := .cells #[.int .i64 0, .int .i64 0, .bool a0_2, .int .i64 a0_3, .int .i64 a0_4, .int .i64 a0_5, .int .i64 a0_6, .int .i64 a0_7, .int .i64 a0_8, .int .i64 a0_9, .int .i64 a0_10, .int .i64 a0_11] 34 (0, 0)) (by (with_reducible repeat (first | refine YF ?_ _ | refine YG ?_ | refine YH ?_ _)); exact BK137.out)) : gb137 ≠ gb145)); have n9_ := YL ((by rw [hg]; exact Nat.ne_of_gt (blk_lt (g := gb137) (o := .cells #[.int .i64 0, .int .i64 0, .bool a0_2, .int .i64 a0_3, .int .i64 a0_4, .int .i64 a0_5, .int .i64 a0_6, .int .i64 a0_7, .int .i64 a0_8, .int .i64 a0_9, .int .i64 a0_10, .int .i64 a0_11] 34 (0, 0)) (by (with_reducible repeat (first | refine YF ?_ _ | refine YG ?_ | refine YH ?_ _)); exact BK137.out)) : gb145 ≠ gb137)); clear BK136; clear BK137; clear HB; have BK136 := n0_; have BK137 := n1_; have HB := n2_; have BK145 := n3_; have GW145 := n4_; have GE145 := n5_; have NB136_145 := n6_; have NB145_136 := n7_; have NB137_145 := n8_; have NB145_137 := n9_; clear n0_ n1_ n2_ n3_ n4_ n5_ n6_ n7_ n8_ n9_; clear hb hbox hg; have hnb64 := NB145_136.out; have hnc64 := NB136_145.out; have hnb65 := NB145_137.out; have hnc65 := NB137_145.out; have q66_0 : w63.cell? ⟨gb145, 0, none⟩ = some (.bool false) := (YI BK145.out 0).trans rfl; have q66_1 : w63.cell? ⟨gb145, 1, none⟩ = some (.int .i64 0) := (YI BK145.out 1).trans rfl; have q66_2 : w63.cell? ⟨gb145, 2, none⟩ = some (.int .i64 0) := (YI BK145.out 2).trans rfl; have q66_3 : w63.cell? ⟨gb145, 3, none⟩ = some (.int .i64 0) := (YI BK145.out 3).trans rfl; have q66_4 : w63.cell? ⟨gb145, 4, none⟩ = some (.int .i64 0) := (YI BK145.out 4).trans rfl; have q66_5 : w63.cell? ⟨gb145, 5, none⟩ = some (.int .i64 0) := (YI BK145.out 5).trans rfl; have f66_0 := YJ BK145.out 0; have f66_1 := YJ BK145.out 1; have f66_2 := YJ BK145.out 2; have f66_3 := YJ BK145.out 3; have f66_4 := YJ BK145.out 4; have f66_5 := YJ BK145.out 5; have q67_0 : w63.cell? ⟨gb137, 0, none⟩ = some (.int .i64 0) := (YI BK137.out 0).trans rfl; have q67_1 : w63.cell? ⟨gb137, 1, none⟩ = some (.int .i64 0) := (YI BK137.out 1).trans rfl; have q67_2 : w63.cell? ⟨gb137, 2, none⟩ = some (.bool a0_2) := (YI BK137.out 2).trans rfl; have q67_3 : w63.cell? ⟨gb137, 3, none⟩ = some (.int .i64 a0_3) := (YI BK137.out 3).trans rfl; have q67_4 : w63.cell? ⟨gb137, 4, none⟩ = some (.int .i64 a0_4) := (YI BK137.out 4).trans rfl; have q67_5 : w63.cell? ⟨gb137, 5, none⟩ = some (.int .i64 a0_5) := (YI BK137.out 5).trans rfl; have q67_6 : w63.cell? ⟨gb137, 6, none⟩ = some (.int .i64 a0_6) := (YI BK137.out 6).trans rfl; have q67_7 : w63.cell? ⟨gb137, 7, none⟩ = some (.int .i64 a0_7) := (YI BK137.out 7).trans rfl; have q67_8 : w63.cell? ⟨gb137, 8, none⟩ = some (.int .i64 a0_8) := (YI BK137.out 8).trans rfl; have q67_9 : w63.cell? ⟨gb137, 9, none⟩ = some (.int .i64 a0_9) := (YI BK137.out 9).trans rfl; have q67_10 : w63.cell? ⟨gb137, 10, none⟩ = some (.int .i64 a0_10) := (YI BK137.out 10).trans rfl; have q67_11 : w63.cell? ⟨gb137, 11, none⟩ = some (.int .i64 a0_11) := (YI BK137.out 11).trans rfl; have f67_0 := YJ BK137.out 0; have f67_1 := YJ BK137.out 1; have f67_2 := YJ BK137.out 2; have f67_3 := YJ BK137.out 3; have f67_4 := YJ BK137.out 4; have f67_5 := YJ BK137.out 5; have f67_6 := YJ BK137.out 6; have f67_7 := YJ BK137.out 7; have f67_8 := YJ BK137.out 8; have f67_9 := YJ BK137.out 9; have f67_10 := YJ BK137.out 10; have f67_11 := YJ BK137.out 11))
      go_ret
      exact ⟨by first | rfl | (simp [errW_none, errW_some] <;> rfl) | (simp [*, errW_none, errW_some] <;> rfl), by repeat (first | (with_reducible first | exact HB.out | apply YA | apply YB | apply YC | refine below_set ?_ GE136.out | refine below_set ?_ GE137.out | refine below_set ?_ GE145.out) | exact HB.out)⟩
     replace c41 := Bool.eq_false_iff.mpr c41
     subst c41
     have H1 : (some 1) = some r := by rw [if_neg (show ¬ (false = true) by decide)] at H; exact H
     clear H
     have H := H1
     clear H1
     obtain rfl := Option.some.inj H
     have hnb68 := NB136_137.out
     have hnc68 := NB137_136.out
     have q69_0 : wc.cell? ⟨gb136, 0, none⟩ = some (.int .i64 a0_0) := (YI BK136.out 0).trans rfl
     have q69_1 : wc.cell? ⟨gb136, 1, none⟩ = some (.int .i64 a0_1) := (YI BK136.out 1).trans rfl
     have q69_2 : wc.cell? ⟨gb136, 2, none⟩ = some (.bool a0_2) := (YI BK136.out 2).trans rfl
     have q69_3 : wc.cell? ⟨gb136, 3, none⟩ = some (.int .i64 a0_3) := (YI BK136.out 3).trans rfl
     have q69_4 : wc.cell? ⟨gb136, 4, none⟩ = some (.int .i64 a0_4) := (YI BK136.out 4).trans rfl
     have q69_5 : wc.cell? ⟨gb136, 5, none⟩ = some (.int .i64 a0_5) := (YI BK136.out 5).trans rfl
     have q69_6 : wc.cell? ⟨gb136, 6, none⟩ = some (.int .i64 a0_6) := (YI BK136.out 6).trans rfl
     have q69_7 : wc.cell? ⟨gb136, 7, none⟩ = some (.int .i64 a0_7) := (YI BK136.out 7).trans rfl
     have q69_8 : wc.cell? ⟨gb136, 8, none⟩ = some (.int .i64 a0_8) := (YI BK136.out 8).trans rfl
     have q69_9 : wc.cell? ⟨gb136, 9, none⟩ = some (.int .i64 a0_9) := (YI BK136.out 9).trans rfl
     have q69_10 : wc.cell? ⟨gb136, 10, none⟩ = some (.int .i64 a0_10) := (YI BK136.out 10).trans rfl
     have q69_11 : wc.cell? ⟨gb136, 11, none⟩ = some (.int .i64 a0_11) := (YI BK136.out 11).trans rfl
     have f69_0 := YJ BK136.out 0
     have f69_1 := YJ BK136.out 1
     have f69_2 := YJ BK136.out 2
     have f69_3 := YJ BK136.out 3
     have f69_4 := YJ BK136.out 4
     have f69_5 := YJ BK136.out 5
     have f69_6 := YJ BK136.out 6
     have f69_7 := YJ BK136.out 7
     have f69_8 := YJ BK136.out 8
     have f69_9 := YJ BK136.out 9
     have f69_10 := YJ BK136.out 10
     have f69_11 := YJ BK136.out 11
     go_wp2_with (first | ((with_reducible refine gate_callee (f := 49) rfl ?_); refine goesL_ (some 58) rfl rfl Try.func49 (by kernel_rfl) rfl #[.agg #[.int .i64 a0_8, .int .i64 a0_9, .int .i64 a0_10], .int .i64 0, .int .i64 0] rfl (by (try simp only [YM, List.map_cons, List.map_nil]); first | done | rfl | (simp only [YO, YN]; rfl)) ?_; (with_reducible refine (height_At.calls kj1 a0_8 a0_9 a0_10 0 0 t138 t139 t140 t141 t142 t143 t144 _ A40.out).mono ?_); rintro e w70 ⟨rfl, hb⟩; refine ⟨_, rfl, ?_⟩; have n0_ := YL (YK (g := gb136) (o := .cells #[.int .i64 a0_0, .int .i64 a0_1, .bool a0_2, .int .i64 a0_3, .int .i64 a0_4, .int .i64 a0_5, .int .i64 a0_6, .int .i64 a0_7, .int .i64 a0_8, .int .i64 a0_9, .int .i64 a0_10, .int .i64 a0_11] 34 (0, 0)) (by (with_reducible repeat (first | refine YF ?_ _ | refine YG ?_ | refine YH ?_ _)); exact BK136.out) hb); have n1_ := YL (YK (g := gb137) (o := .cells #[.int .i64 0, .int .i64 0, .bool a0_2, .int .i64 a0_3, .int .i64 a0_4, .int .i64 a0_5, .int .i64 a0_6, .int .i64 a0_7, .int .i64 a0_8, .int .i64 a0_9, .int .i64 a0_10, .int .i64 a0_11] 34 (0, 0)) (by (with_reducible repeat (first | refine YF ?_ _ | refine YG ?_ | refine YH ?_ _)); exact BK137.out) hb); have n2_ := YL (YD (by repeat (first | (with_reducible first | exact HB.out | apply YA | apply YB | apply YC | refine below_set ?_ GE136.out | refine below_set ?_ GE137.out) | exact HB.out)) hb); clear BK136; clear BK137; clear HB; have BK136 := n0_; have BK137 := n1_; have HB := n2_; clear n0_ n1_ n2_; (try clear hb); (try clear hb2); (try clear hk); (try clear hi)) | ((with_reducible refine gate_dst (N := 5) rfl ?_); refine box_event ?hg (N := 5) ?hd (cs := #[.bool false, .int .i64 0, .int .i64 0, .int .i64 0, .int .i64 0, .int .i64 0]) (t := 30) ?hr ?_; (case hd => rfl); (case hg => rfl); (case hr => first | (go_simp; done) | (go_simp; rfl)); intro gb145 hg w71 hbox hb; have n0_ := YL (YK (g := gb136) (o := .cells #[.int .i64 a0_0, .int .i64 a0_1, .bool a0_2, .int .i64 a0_3, .int .i64 a0_4, .int .i64 a0_5, .int .i64 a0_6, .int .i64 a0_7, .int .i64 a0_8, .int .i64 a0_9, .int .i64 a0_10, .int .i64 a0_11] 34 (0, 0)) (by (with_reducible repeat (first | refine YF ?_ _ | refine YG ?_ | refine YH ?_ _)); exact BK136.out) hb); have n1_ := YL (YK (g := gb137) (o := .cells #[.int .i64 0, .int .i64 0, .bool a0_2, .int .i64 a0_3, .int .i64 a0_4, .int .i64 a0_5, .int .i64 a0_6, .int .i64 a0_7, .int .i64 a0_8, .int .i64 a0_9, .int .i64 a0_10, .int .i64 a0_11] 34 (0, 0)) (by (with_reducible repeat (first | refine YF ?_ _ | refine YG ?_ | refine YH ?_ _)); exact BK137.out) hb); have n2_ := YL (YD (by repeat (first | (with_reducible first | exact HB.out | apply YA | apply YB | apply YC | refine below_set ?_ GE136.out | refine below_set ?_ GE137.out) | exact HB.out)) hb); have n3_ := YL (hbox); have n4_ := YL ((by rw [hg]; exact (YE (by repeat (first | (with_reducible first | exact HB.out | apply YA | apply YB | apply YC | refine below_set ?_ GE136.out | refine below_set ?_ GE137.out) | exact HB.out))) : w.heap.size ≤ gb145)); have n5_ := YL ((by rw [hg]; exact (YE (by repeat (first | (with_reducible first | exact HB.out | apply YA | apply YB | apply YC | refine below_set ?_ GE136.out | refine below_set ?_ GE137.out) | exact HB.out))) : w.heap.size ≤ gb145)); have n6_ := YL ((by rw [hg]; exact Nat.ne_of_lt (blk_lt (g := gb136) (o := .cells #[.int .i64 a0_0, .int .i64 a0_1, .bool a0_2, .int .i64 a0_3, .int .i64 a0_4, .int .i64 a0_5, .int .i64 a0_6, .int .i64 a0_7, .int .i64 a0_8, .int .i64 a0_9, .int .i64 a0_10, .int .i64 a0_11] 34 (0, 0)) (by (with_reducible repeat (first | refine YF ?_ _ | refine YG ?_ | refine YH ?_ _)); exact BK136.out)) : gb136 ≠ gb145)); have n7_ := YL ((by rw [hg]; exact Nat.ne_of_gt (blk_lt (g := gb136) (o := .cells #[.int .i64 a0_0, .int .i64 a0_1, .bool a0_2, .int .i64 a0_3, .int .i64 a0_4, .int .i64 a0_5, .int .i64 a0_6, .int .i64 a0_7, .int .i64 a0_8, .int .i64 a0_9, .int .i64 a0_10, .int .i64 a0_11] 34 (0, 0)) (by (with_reducible repeat (first | refine YF ?_ _ | refine YG ?_ | refine YH ?_ _)); exact BK136.out)) : gb145 ≠ gb136)); have n8_ := YL ((by rw [hg]; exact Nat.ne_of_lt (blk_lt (g := gb137) (o := .cells #[.int .i64 0, .int .i64 0, .bool a0_2, .int .i64 a0_3, .int .i64 a0_4, .int .i64 a0_5, .int .i64 a0_6, .int .i64 a0_7, .int .i64 a0_8, .int .i64 a0_9, .int .i64 a0_10, .int .i64 a0_11] 34 (0, 0)) (by (with_reducible repeat (first | refine YF ?_ _ | refine YG ?_ | refine YH ?_ _)); exact BK137.out)) : gb137 ≠ gb145)); have n9_ := YL ((by rw [hg]; exact Nat.ne_of_gt (blk_lt (g := gb137) (o := .cells #[.int .i64 0, .int .i64 0, .bool a0_2, .int .i64 a0_3, .int .i64 a0_4, .int .i64 a0_5, .int .i64 a0_6, .int .i64 a0_7, .int .i64 a0_8, .int .i64 a0_9, .int .i64 a0_10, .int .i64 a0_11] 34 (0, 0)) (by (with_reducible repeat (first | refine YF ?_ _ | refine YG ?_ | refine YH ?_ _)); exact BK137.out)) : gb145 ≠ gb137)); clear BK136; clear BK137; clear HB; have BK136 := n0_; have BK137 := n1_; have HB := n2_; have BK145 := n3_; have GW145 := n4_; have GE145 := n5_; have NB136_145 := n6_; have NB145_136 := n7_; have NB137_145 := n8_; have NB145_137 := n9_; clear n0_ n1_ n2_ n3_ n4_ n5_ n6_ n7_ n8_ n9_; clear hb hbox hg; have hnb72 := NB145_136.out; have hnc72 := NB136_145.out; have hnb73 := NB145_137.out; have hnc73 := NB137_145.out; have q74_0 : w71.cell? ⟨gb145, 0, none⟩ = some (.bool false) := (YI BK145.out 0).trans rfl; have q74_1 : w71.cell? ⟨gb145, 1, none⟩ = some (.int .i64 0) := (YI BK145.out 1).trans rfl; have q74_2 : w71.cell? ⟨gb145, 2, none⟩ = some (.int .i64 0) := (YI BK145.out 2).trans rfl; have q74_3 : w71.cell? ⟨gb145, 3, none⟩ = some (.int .i64 0) := (YI BK145.out 3).trans rfl; have q74_4 : w71.cell? ⟨gb145, 4, none⟩ = some (.int .i64 0) := (YI BK145.out 4).trans rfl; have q74_5 : w71.cell? ⟨gb145, 5, none⟩ = some (.int .i64 0) := (YI BK145.out 5).trans rfl; have f74_0 := YJ BK145.out 0; have f74_1 := YJ BK145.out 1; have f74_2 := YJ BK145.out 2; have f74_3 := YJ BK145.out 3; have f74_4 := YJ BK145.out 4; have f74_5 := YJ BK145.out 5; have q75_0 : w71.cell? ⟨gb137, 0, none⟩ = some (.int .i64 0) := (YI BK137.out 0).trans rfl; have q75_1 : w71.cell? ⟨gb137, 1, none⟩ = some (.int .i64 0) := (YI BK137.out 1).trans rfl; have q75_2 : w71.cell? ⟨gb137, 2, none⟩ = some (.bool a0_2) := (YI BK137.out 2).trans rfl; have q75_3 : w71.cell? ⟨gb137, 3, none⟩ = some (.int .i64 a0_3) := (YI BK137.out 3).trans rfl; have q75_4 : w71.cell? ⟨gb137, 4, none⟩ = some (.int .i64 a0_4) := (YI BK137.out 4).trans rfl; have q75_5 : w71.cell? ⟨gb137, 5, none⟩ = some (.int .i64 a0_5) := (YI BK137.out 5).trans rfl; have q75_6 : w71.cell? ⟨gb137, 6, none⟩ = some (.int .i64 a0_6) := (YI BK137.out 6).trans rfl; have q75_7 : w71.cell? ⟨gb137, 7, none⟩ = some (.int .i64 a0_7) := (YI BK137.out 7).trans rfl; have q75_8 : w71.cell? ⟨gb137, 8, none⟩ = some (.int .i64 a0_8) := (YI BK137.out 8).trans rfl; have q75_9 : w71.cell? ⟨gb137, 9, none⟩ = some (.int .i64 a0_9) := (YI BK137.out 9).trans rfl; have q75_10 : w71.cell? ⟨gb137, 10, none⟩ = some (.int .i64 a0_10) := (YI BK137.out 10).trans rfl; have q75_11 : w71.cell? ⟨gb137, 11, none⟩ = some (.int .i64 a0_11) := (YI BK137.out 11).trans rfl; have f75_0 := YJ BK137.out 0; have f75_1 := YJ BK137.out 1; have f75_2 := YJ BK137.out 2; have f75_3 := YJ BK137.out 3; have f75_4 := YJ BK137.out 4; have f75_5 := YJ BK137.out 5; have f75_6 := YJ BK137.out 6; have f75_7 := YJ BK137.out 7; have f75_8 := YJ BK137.out 8; have f75_9 := YJ BK137.out 9; have f75_10 := YJ BK137.out 10; have f75_11 := YJ BK137.out 11))
     go_ret
     exact ⟨by first | rfl | (simp [errW_none, errW_some] <;> rfl) | (simp [*, errW_none, errW_some] <;> rfl), by repeat (first | (with_reducible first | exact HB.out | apply YA | apply YB | apply YC | refine below_set ?_ GE136.out | refine below_set ?_ GE137.out | refine below_set ?_ GE145.out) | exact HB.out)⟩
    rw [if_neg c39] at H
    have c39b0 : (a0_0 == 3) = false := beq_eq_false_iff_ne.mpr c39
    have c39b1 : (a0_0 != 3) = true := bne_iff_ne.mpr c39
    obtain rfl := Option.some.inj H
    go_wp2
    go_ret
    exact ⟨by first | rfl | (simp [errW_none, errW_some] <;> rfl) | (simp [*, errW_none, errW_some] <;> rfl), by repeat (first | (with_reducible first | exact HB.out | apply YA | apply YB | apply YC | refine below_set ?_ GE136.out | refine below_set ?_ GE137.out) | exact HB.out)⟩
   case rest =>
    clear HC13
    try clear c1; try clear c2
    try clear p2; try clear c3
    try clear c4; try clear c5
    try clear c6; try clear c7
    try clear c14; try clear c16
    try clear c16b0; try clear c16b1
    try clear c17; try clear c18
    try clear c18b0; try clear c19
    try clear c21; try clear c23
    try clear c23b0; try clear c23b1
    try clear c24; try clear c25
    try clear c26; try clear c29
    try clear c29b0; try clear c30
    try clear c33; try clear c36
    try clear c38; try clear c38b0
    try clear c38b1; try clear c39
    try clear c39b0; try clear c39b1
    try clear c41; try clear c42
    try clear c42b0; try clear c42b1
    try clear c43; try clear c43b0
    try clear c44; try clear c48
    try clear c49; try clear c52
    try clear c56; try clear c57
    try clear c60; try clear c64
    try clear c65; try clear c68
    try clear c72; try clear c73
    try clear q15_0; try clear q15_1
    try clear q15_10; try clear q15_11
    try clear q15_2; try clear q15_3
    try clear q15_4; try clear q15_5
    try clear q15_6; try clear q15_7
    try clear q15_8; try clear q15_9
    try clear q20_0; try clear q20_1
    try clear q20_10; try clear q20_11
    try clear q20_2; try clear q20_3
    try clear q20_4; try clear q20_5
    try clear q20_6; try clear q20_7
    try clear q20_8; try clear q20_9
    try clear q22_0; try clear q22_1
    try clear q22_10; try clear q22_11
    try clear q22_2; try clear q22_3
    try clear q22_4; try clear q22_5
    try clear q22_6; try clear q22_7
    try clear q22_8; try clear q22_9
    try clear q27_0; try clear q27_1
    try clear q27_10; try clear q27_11
    try clear q27_2; try clear q27_3
    try clear q27_4; try clear q27_5
    try clear q27_6; try clear q27_7
    try clear q27_8; try clear q27_9
    try clear q28_0; try clear q28_1
    try clear q28_10; try clear q28_11
    try clear q28_2; try clear q28_3
    try clear q28_4; try clear q28_5
    try clear q28_6; try clear q28_7
    try clear q28_8; try clear q28_9
    try clear q31_0; try clear q31_1
    try clear q31_10; try clear q31_11
    try clear q31_2; try clear q31_3
    try clear q31_4; try clear q31_5
    try clear q31_6; try clear q31_7
    try clear q31_8; try clear q31_9
    try clear q32_0; try clear q32_1
    try clear q32_10; try clear q32_11
    try clear q32_2; try clear q32_3
    try clear q32_4; try clear q32_5
    try clear q32_6; try clear q32_7
    try clear q32_8; try clear q32_9
    try clear q34_0; try clear q34_1
    try clear q34_10; try clear q34_11
    try clear q34_2; try clear q34_3
    try clear q34_4; try clear q34_5
    try clear q34_6; try clear q34_7
    try clear q34_8; try clear q34_9
    try clear q35_0; try clear q35_1
    try clear q35_10; try clear q35_11
    try clear q35_2; try clear q35_3
    try clear q35_4; try clear q35_5
    try clear q35_6; try clear q35_7
    try clear q35_8; try clear q35_9
    try clear q37_0; try clear q37_1
    try clear q37_10; try clear q37_11
    try clear q37_2; try clear q37_3
    try clear q37_4; try clear q37_5
    try clear q37_6; try clear q37_7
    try clear q37_8; try clear q37_9
    try clear q45_0; try clear q45_1
    try clear q45_10; try clear q45_11
    try clear q45_2; try clear q45_3
    try clear q45_4; try clear q45_5
    try clear q45_6; try clear q45_7
    try clear q45_8; try clear q45_9
    try clear q50_0; try clear q50_1
    try clear q50_2; try clear q50_3
    try clear q50_4; try clear q50_5
    try clear q51_0; try clear q51_1
    try clear q51_10; try clear q51_11
    try clear q51_2; try clear q51_3
    try clear q51_4; try clear q51_5
    try clear q51_6; try clear q51_7
    try clear q51_8; try clear q51_9
    try clear q53_0; try clear q53_1
    try clear q53_10; try clear q53_11
    try clear q53_2; try clear q53_3
    try clear q53_4; try clear q53_5
    try clear q53_6; try clear q53_7
    try clear q53_8; try clear q53_9
    try clear q58_0; try clear q58_1
    try clear q58_2; try clear q58_3
    try clear q58_4; try clear q58_5
    try clear q59_0; try clear q59_1
    try clear q59_10; try clear q59_11
    try clear q59_2; try clear q59_3
    try clear q59_4; try clear q59_5
    try clear q59_6; try clear q59_7
    try clear q59_8; try clear q59_9
    try clear q61_0; try clear q61_1
    try clear q61_10; try clear q61_11
    try clear q61_2; try clear q61_3
    try clear q61_4; try clear q61_5
    try clear q61_6; try clear q61_7
    try clear q61_8; try clear q61_9
    try clear q66_0; try clear q66_1
    try clear q66_2; try clear q66_3
    try clear q66_4; try clear q66_5
    try clear q67_0; try clear q67_1
    try clear q67_10; try clear q67_11
    try clear q67_2; try clear q67_3
    try clear q67_4; try clear q67_5
    try clear q67_6; try clear q67_7
    try clear q67_8; try clear q67_9
    try clear q69_0; try clear q69_1
    try clear q69_10; try clear q69_11
    try clear q69_2; try clear q69_3
    try clear q69_4; try clear q69_5
    try clear q69_6; try clear q69_7
    try clear q69_8; try clear q69_9
    try clear q74_0; try clear q74_1
    try clear q74_2; try clear q74_3
    try clear q74_4; try clear q74_5
    try clear q75_0; try clear q75_1
    try clear q75_10; try clear q75_11
    try clear q75_2; try clear q75_3
    try clear q75_4; try clear q75_5
    try clear q75_6; try clear q75_7
    try clear q75_8; try clear q75_9
    try clear q7_5; try clear q7_6
    try clear q7_7; try clear q7_8
    try clear q7_9; try clear f10_0
    try clear f10_1; try clear f10_10
    try clear f10_11; try clear f10_2
    try clear f10_3; try clear f10_4
    try clear f10_5; try clear f10_6
    try clear f10_7; try clear f10_8
    try clear f10_9; try clear f12_0
    try clear f12_1; try clear f12_10
    try clear f12_11; try clear f12_2
    try clear f12_3; try clear f12_4
    try clear f12_5; try clear f12_6
    try clear f12_7; try clear f12_8
    try clear f12_9; try clear f15_0
    try clear f15_1; try clear f15_10
    try clear f15_11; try clear f15_2
    try clear f15_3; try clear f15_4
    try clear f15_5; try clear f15_6
    try clear f15_7; try clear f15_8
    try clear f15_9; try clear f20_0
    try clear f20_1; try clear f20_10
    try clear f20_11; try clear f20_2
    try clear f20_3; try clear f20_4
    try clear f20_5; try clear f20_6
    try clear f20_7; try clear f20_8
    try clear f20_9; try clear f22_0
    try clear f22_1; try clear f22_10
    try clear f22_11; try clear f22_2
    try clear f22_3; try clear f22_4
    try clear f22_5; try clear f22_6
    try clear f22_7; try clear f22_8
    try clear f22_9; try clear f27_0
    try clear f27_1; try clear f27_10
    try clear f27_11; try clear f27_2
    try clear f27_3; try clear f27_4
    try clear f27_5; try clear f27_6
    try clear f27_7; try clear f27_8
    try clear f27_9; try clear f28_0
    try clear f28_1; try clear f28_10
    try clear f28_11; try clear f28_2
    try clear f28_3; try clear f28_4
    try clear f28_5; try clear f28_6
    try clear f28_7; try clear f28_8
    try clear f28_9; try clear f31_0
    try clear f31_1; try clear f31_10
    try clear f31_11; try clear f31_2
    try clear f31_3; try clear f31_4
    try clear f31_5; try clear f31_6
    try clear f31_7; try clear f31_8
    try clear f31_9; try clear f32_0
    try clear f32_1; try clear f32_10
    try clear f32_11; try clear f32_2
    try clear f32_3; try clear f32_4
    try clear f32_5; try clear f32_6
    try clear f32_7; try clear f32_8
    try clear f32_9; try clear f34_0
    try clear f34_1; try clear f34_10
    try clear f34_11; try clear f34_2
    try clear f34_3; try clear f34_4
    try clear f34_5; try clear f34_6
    try clear f34_7; try clear f34_8
    try clear f34_9; try clear f35_0
    try clear f35_1; try clear f35_10
    try clear f35_11; try clear f35_2
    try clear f35_3; try clear f35_4
    try clear f35_5; try clear f35_6
    try clear f35_7; try clear f35_8
    try clear f35_9; try clear f37_0
    try clear f37_1; try clear f37_10
    try clear f37_11; try clear f37_2
    try clear f37_3; try clear f37_4
    try clear f37_5; try clear f37_6
    try clear f37_7; try clear f37_8
    try clear f37_9; try clear f45_0
    try clear f45_1; try clear f45_10
    try clear f45_11; try clear f45_2
    try clear f45_3; try clear f45_4
    try clear f45_5; try clear f45_6
    try clear f45_7; try clear f45_8
    try clear f45_9; try clear f4_0
    try clear f4_1; try clear f4_10
    try clear f4_11; try clear f4_2
    try clear f4_3; try clear f4_4
    try clear f4_5; try clear f4_6
    try clear f4_7; try clear f4_8
    try clear f4_9; try clear f50_0
    try clear f50_1; try clear f50_2
    try clear f50_3; try clear f50_4
    try clear f50_5; try clear f51_0
    try clear f51_1; try clear f51_10
    try clear f51_11; try clear f51_2
    try clear f51_3; try clear f51_4
    try clear f51_5; try clear f51_6
    try clear f51_7; try clear f51_8
    try clear f51_9; try clear f53_0
    try clear f53_1; try clear f53_10
    try clear f53_11; try clear f53_2
    try clear f53_3; try clear f53_4
    try clear f53_5; try clear f53_6
    try clear f53_7; try clear f53_8
    try clear f53_9; try clear f58_0
    try clear f58_1; try clear f58_2
    try clear f58_3; try clear f58_4
    try clear f58_5; try clear f59_0
    try clear f59_1; try clear f59_10
    try clear f59_11; try clear f59_2
    try clear f59_3; try clear f59_4
    try clear f59_5; try clear f59_6
    try clear f59_7; try clear f59_8
    try clear f59_9; try clear f61_0
    try clear f61_1; try clear f61_10
    try clear f61_11; try clear f61_2
    try clear f61_3; try clear f61_4
    try clear f61_5; try clear f61_6
    try clear f61_7; try clear f61_8
    try clear f61_9; try clear f66_0
    try clear f66_1; try clear f66_2
    try clear f66_3; try clear f66_4
    try clear f66_5; try clear f67_0
    try clear f67_1; try clear f67_10
    try clear f67_11; try clear f67_2
    try clear f67_3; try clear f67_4
    try clear f67_5; try clear f67_6
    try clear f67_7; try clear f67_8
    try clear f67_9; try clear f69_0
    try clear f69_1; try clear f69_10
    try clear f69_11; try clear f69_2
    try clear f69_3; try clear f69_4
    try clear f69_5; try clear f69_6
    try clear f69_7; try clear f69_8
    try clear f69_9; try clear f74_0
    try clear f74_1; try clear f74_2
    try clear f74_3; try clear f74_4
    try clear f74_5; try clear f75_0
    try clear f75_1; try clear f75_10
    try clear f75_11; try clear f75_2
    try clear f75_3; try clear f75_4
    try clear f75_5; try clear f75_6
    try clear f75_7; try clear f75_8
    try clear f75_9; try clear f7_0
    try clear f7_1; try clear f7_10
    try clear f7_11; try clear f7_2
    try clear f7_3; try clear f7_4
    try clear f7_5; try clear f7_6
    try clear f7_7; try clear f7_8; try clear f7_9
    obtain ⟨kq, x4_12, x138011_12, rfl, HA, HJ12, BK136, BK137, HB⟩ := hcut
    cases kq with
    | zero => exact absurd HA.out (by simp [object_Check.j1])
    | succ kj12 =>
     have H := HA.out
     clear HA
     simp only [object_Check.j1] at H
     by_cases c76 : x4_12 = true
     ·subst c76
      have H1 : ((height_Check.f kj12 a0_2 a0_3 a0_4 a0_5 a0_6 a0_7).bind fun t146 => (if t146 = 0 then (if (!(0 == 0) || (!(0 == 0) || ((!(a0_8 == 0) || (!(a0_9 == 0) || (!(a0_10 == 0)))) || (!(x138011_12 == 0))))) = true then (some 1) else (some 0)) else (some 1))) = some r := by rw [if_pos rfl] at H; exact H
      clear H
      have H := H1
      clear H1; replace H := Option.bind_eq_some_iff.mp H; obtain ⟨t146, A770, H⟩ := H
      replace H : (if t146 = 0 then (if (!(0 == 0) || (!(0 == 0) || ((!(a0_8 == 0) || (!(a0_9 == 0) || (!(a0_10 == 0)))) || (!(x138011_12 == 0))))) = true then (some 1) else (some 0)) else (some 1)) = some r := H
      have A77 := YL A770; clear A770
      by_cases c78 : t146 = 0
      ·rw [if_pos c78] at H
       have c78b0 : (t146 == 0) = true := beq_iff_eq.mpr c78
       have c78b1 : (t146 != 0) = false := bne_eq_false_iff_eq.mpr c78
       clear c78
       by_cases c79 : (!(0 == 0) || (!(0 == 0) || ((!(a0_8 == 0) || (!(a0_9 == 0) || (!(a0_10 == 0)))) || (!(x138011_12 == 0))))) = true
       ·rw [if_pos c79] at H
        have c79b0 : (!(0 == 0) || (!(0 == 0) || ((!(a0_8 == 0) || (!(a0_9 == 0) || (!(a0_10 == 0)))) || (!(x138011_12 == 0))))) = true := c79
        have c79b9 := c79b0
        (try simp only [beq_self_eq_true, Bool.not_true, Bool.not_false, Bool.false_or, Bool.true_and, Bool.or_false, Bool.and_true] at c79b9)
        clear c79
        obtain rfl := Option.some.inj H
        have hnb80 := NB136_137.out
        have hnc80 := NB137_136.out
        have q81_0 : wc.cell? ⟨gb136, 0, none⟩ = some (.int .i64 a0_0) := (YI BK136.out 0).trans rfl
        have q81_1 : wc.cell? ⟨gb136, 1, none⟩ = some (.int .i64 a0_1) := (YI BK136.out 1).trans rfl
        have q81_2 : wc.cell? ⟨gb136, 2, none⟩ = some (.bool a0_2) := (YI BK136.out 2).trans rfl
        have q81_3 : wc.cell? ⟨gb136, 3, none⟩ = some (.int .i64 a0_3) := (YI BK136.out 3).trans rfl
        have q81_4 : wc.cell? ⟨gb136, 4, none⟩ = some (.int .i64 a0_4) := (YI BK136.out 4).trans rfl
        have q81_5 : wc.cell? ⟨gb136, 5, none⟩ = some (.int .i64 a0_5) := (YI BK136.out 5).trans rfl
        have q81_6 : wc.cell? ⟨gb136, 6, none⟩ = some (.int .i64 a0_6) := (YI BK136.out 6).trans rfl
        have q81_7 : wc.cell? ⟨gb136, 7, none⟩ = some (.int .i64 a0_7) := (YI BK136.out 7).trans rfl
        have q81_8 : wc.cell? ⟨gb136, 8, none⟩ = some (.int .i64 a0_8) := (YI BK136.out 8).trans rfl
        have q81_9 : wc.cell? ⟨gb136, 9, none⟩ = some (.int .i64 a0_9) := (YI BK136.out 9).trans rfl
        have q81_10 : wc.cell? ⟨gb136, 10, none⟩ = some (.int .i64 a0_10) := (YI BK136.out 10).trans rfl
        have q81_11 : wc.cell? ⟨gb136, 11, none⟩ = some (.int .i64 a0_11) := (YI BK136.out 11).trans rfl
        have f81_0 := YJ BK136.out 0
        have f81_1 := YJ BK136.out 1
        have f81_2 := YJ BK136.out 2
        have f81_3 := YJ BK136.out 3
        have f81_4 := YJ BK136.out 4
        have f81_5 := YJ BK136.out 5
        have f81_6 := YJ BK136.out 6
        have f81_7 := YJ BK136.out 7
        have f81_8 := YJ BK136.out 8
        have f81_9 := YJ BK136.out 9
        have f81_10 := YJ BK136.out 10
        have f81_11 := YJ BK136.out 11
        go_wp2_with (first | (go_at_call 48; (with_reducible refine (height_Check.calls kj12 a0_2 a0_3 a0_4 a0_5 a0_6 a0_7 t146 _ A77.out).mono ?_); rintro e w82 ⟨rfl, hb⟩; have n0_ := YL (YK (g := gb136) (o := .cells #[.int .i64 a0_0, .int .i64 a0_1, .bool a0_2, .int .i64 a0_3, .int .i64 a0_4, .int .i64 a0_5, .int .i64 a0_6, .int .i64 a0_7, .int .i64 a0_8, .int .i64 a0_9, .int .i64 a0_10, .int .i64 a0_11] 34 (0, 0)) (by (with_reducible repeat (first | refine YF ?_ _ | refine YG ?_ | refine YH ?_ _)); exact BK136.out) hb); have n1_ := YL (YK (g := gb137) (o := .cells #[.int .i64 0, .int .i64 0, .bool a0_2, .int .i64 a0_3, .int .i64 a0_4, .int .i64 a0_5, .int .i64 a0_6, .int .i64 a0_7, .int .i64 a0_8, .int .i64 a0_9, .int .i64 a0_10, .int .i64 x138011_12] 34 (0, 0)) (by (with_reducible repeat (first | refine YF ?_ _ | refine YG ?_ | refine YH ?_ _)); exact BK137.out) hb); have n2_ := YL (YD (by repeat (first | (with_reducible first | exact HB.out | apply YA | apply YB | apply YC | refine below_set ?_ GE136.out | refine below_set ?_ GE137.out) | exact HB.out)) hb); clear BK136; clear BK137; clear HB; have BK136 := n0_; have BK137 := n1_; have HB := n2_; clear n0_ n1_ n2_; (try clear hb); (try clear hb2); (try clear hk); (try clear hi); have q83_0 : w82.cell? ⟨gb137, 0, none⟩ = some (.int .i64 0) := (YI BK137.out 0).trans rfl; have q83_1 : w82.cell? ⟨gb137, 1, none⟩ = some (.int .i64 0) := (YI BK137.out 1).trans rfl; have q83_2 : w82.cell? ⟨gb137, 2, none⟩ = some (.bool a0_2) := (YI BK137.out 2).trans rfl; have q83_3 : w82.cell? ⟨gb137, 3, none⟩ = some (.int .i64 a0_3) := (YI BK137.out 3).trans rfl; have q83_4 : w82.cell? ⟨gb137, 4, none⟩ = some (.int .i64 a0_4) := (YI BK137.out 4).trans rfl; have q83_5 : w82.cell? ⟨gb137, 5, none⟩ = some (.int .i64 a0_5) := (YI BK137.out 5).trans rfl; have q83_6 : w82.cell? ⟨gb137, 6, none⟩ = some (.int .i64 a0_6) := (YI BK137.out 6).trans rfl; have q83_7 : w82.cell? ⟨gb137, 7, none⟩ = some (.int .i64 a0_7) := (YI BK137.out 7).trans rfl; have q83_8 : w82.cell? ⟨gb137, 8, none⟩ = some (.int .i64 a0_8) := (YI BK137.out 8).trans rfl; have q83_9 : w82.cell? ⟨gb137, 9, none⟩ = some (.int .i64 a0_9) := (YI BK137.out 9).trans rfl; have q83_10 : w82.cell? ⟨gb137, 10, none⟩ = some (.int .i64 a0_10) := (YI BK137.out 10).trans rfl; have q83_11 : w82.cell? ⟨gb137, 11, none⟩ = some (.int .i64 x138011_12) := (YI BK137.out 11).trans rfl; have f83_0 := YJ BK137.out 0; have f83_1 := YJ BK137.out 1; have f83_2 := YJ BK137.out 2; have f83_3 := YJ BK137.out 3; have f83_4 := YJ BK137.out 4; have f83_5 := YJ BK137.out 5; have f83_6 := YJ BK137.out 6; have f83_7 := YJ BK137.out 7; have f83_8 := YJ BK137.out 8; have f83_9 := YJ BK137.out 9; have f83_10 := YJ BK137.out 10; have f83_11 := YJ BK137.out 11))
        go_ret
        exact ⟨by first | rfl | (simp [errW_none, errW_some] <;> rfl) | (simp [*, errW_none, errW_some] <;> rfl), by repeat (first | (with_reducible first | exact HB.out | apply YA | apply YB | apply YC | refine below_set ?_ GE136.out | refine below_set ?_ GE137.out) | exact HB.out)⟩
       rw [if_neg c79] at H
       have c79b0 : (!(0 == 0) || (!(0 == 0) || ((!(a0_8 == 0) || (!(a0_9 == 0) || (!(a0_10 == 0)))) || (!(x138011_12 == 0))))) = false := by simpa using c79
       have c79b9 := c79b0
       (try simp only [beq_self_eq_true, Bool.not_true, Bool.not_false, Bool.false_or, Bool.true_and, Bool.or_false, Bool.and_true] at c79b9)
       clear c79
       obtain rfl := Option.some.inj H
       have hnb84 := NB136_137.out
       have hnc84 := NB137_136.out
       have q85_0 : wc.cell? ⟨gb136, 0, none⟩ = some (.int .i64 a0_0) := (YI BK136.out 0).trans rfl
       have q85_1 : wc.cell? ⟨gb136, 1, none⟩ = some (.int .i64 a0_1) := (YI BK136.out 1).trans rfl
       have q85_2 : wc.cell? ⟨gb136, 2, none⟩ = some (.bool a0_2) := (YI BK136.out 2).trans rfl
       have q85_3 : wc.cell? ⟨gb136, 3, none⟩ = some (.int .i64 a0_3) := (YI BK136.out 3).trans rfl
       have q85_4 : wc.cell? ⟨gb136, 4, none⟩ = some (.int .i64 a0_4) := (YI BK136.out 4).trans rfl
       have q85_5 : wc.cell? ⟨gb136, 5, none⟩ = some (.int .i64 a0_5) := (YI BK136.out 5).trans rfl
       have q85_6 : wc.cell? ⟨gb136, 6, none⟩ = some (.int .i64 a0_6) := (YI BK136.out 6).trans rfl
       have q85_7 : wc.cell? ⟨gb136, 7, none⟩ = some (.int .i64 a0_7) := (YI BK136.out 7).trans rfl
       have q85_8 : wc.cell? ⟨gb136, 8, none⟩ = some (.int .i64 a0_8) := (YI BK136.out 8).trans rfl
       have q85_9 : wc.cell? ⟨gb136, 9, none⟩ = some (.int .i64 a0_9) := (YI BK136.out 9).trans rfl
       have q85_10 : wc.cell? ⟨gb136, 10, none⟩ = some (.int .i64 a0_10) := (YI BK136.out 10).trans rfl
       have q85_11 : wc.cell? ⟨gb136, 11, none⟩ = some (.int .i64 a0_11) := (YI BK136.out 11).trans rfl
       have f85_0 := YJ BK136.out 0
       have f85_1 := YJ BK136.out 1
       have f85_2 := YJ BK136.out 2
       have f85_3 := YJ BK136.out 3
       have f85_4 := YJ BK136.out 4
       have f85_5 := YJ BK136.out 5
       have f85_6 := YJ BK136.out 6
       have f85_7 := YJ BK136.out 7
       have f85_8 := YJ BK136.out 8
       have f85_9 := YJ BK136.out 9
       have f85_10 := YJ BK136.out 10
       have f85_11 := YJ BK136.out 11
       go_wp2_with (first | (go_at_call 48; (with_reducible refine (height_Check.calls kj12 a0_2 a0_3 a0_4 a0_5 a0_6 a0_7 t146 _ A77.out).mono ?_); rintro e w86 ⟨rfl, hb⟩; have n0_ := YL (YK (g := gb136) (o := .cells #[.int .i64 a0_0, .int .i64 a0_1, .bool a0_2, .int .i64 a0_3, .int .i64 a0_4, .int .i64 a0_5, .int .i64 a0_6, .int .i64 a0_7, .int .i64 a0_8, .int .i64 a0_9, .int .i64 a0_10, .int .i64 a0_11] 34 (0, 0)) (by (with_reducible repeat (first | refine YF ?_ _ | refine YG ?_ | refine YH ?_ _)); exact BK136.out) hb); have n1_ := YL (YK (g := gb137) (o := .cells #[.int .i64 0, .int .i64 0, .bool a0_2, .int .i64 a0_3, .int .i64 a0_4, .int .i64 a0_5, .int .i64 a0_6, .int .i64 a0_7, .int .i64 a0_8, .int .i64 a0_9, .int .i64 a0_10, .int .i64 x138011_12] 34 (0, 0)) (by (with_reducible repeat (first | refine YF ?_ _ | refine YG ?_ | refine YH ?_ _)); exact BK137.out) hb); have n2_ := YL (YD (by repeat (first | (with_reducible first | exact HB.out | apply YA | apply YB | apply YC | refine below_set ?_ GE136.out | refine below_set ?_ GE137.out) | exact HB.out)) hb); clear BK136; clear BK137; clear HB; have BK136 := n0_; have BK137 := n1_; have HB := n2_; clear n0_ n1_ n2_; (try clear hb); (try clear hb2); (try clear hk); (try clear hi); have q87_0 : w86.cell? ⟨gb137, 0, none⟩ = some (.int .i64 0) := (YI BK137.out 0).trans rfl; have q87_1 : w86.cell? ⟨gb137, 1, none⟩ = some (.int .i64 0) := (YI BK137.out 1).trans rfl; have q87_2 : w86.cell? ⟨gb137, 2, none⟩ = some (.bool a0_2) := (YI BK137.out 2).trans rfl; have q87_3 : w86.cell? ⟨gb137, 3, none⟩ = some (.int .i64 a0_3) := (YI BK137.out 3).trans rfl; have q87_4 : w86.cell? ⟨gb137, 4, none⟩ = some (.int .i64 a0_4) := (YI BK137.out 4).trans rfl; have q87_5 : w86.cell? ⟨gb137, 5, none⟩ = some (.int .i64 a0_5) := (YI BK137.out 5).trans rfl; have q87_6 : w86.cell? ⟨gb137, 6, none⟩ = some (.int .i64 a0_6) := (YI BK137.out 6).trans rfl; have q87_7 : w86.cell? ⟨gb137, 7, none⟩ = some (.int .i64 a0_7) := (YI BK137.out 7).trans rfl; have q87_8 : w86.cell? ⟨gb137, 8, none⟩ = some (.int .i64 a0_8) := (YI BK137.out 8).trans rfl; have q87_9 : w86.cell? ⟨gb137, 9, none⟩ = some (.int .i64 a0_9) := (YI BK137.out 9).trans rfl; have q87_10 : w86.cell? ⟨gb137, 10, none⟩ = some (.int .i64 a0_10) := (YI BK137.out 10).trans rfl; have q87_11 : w86.cell? ⟨gb137, 11, none⟩ = some (.int .i64 x138011_12) := (YI BK137.out 11).trans rfl; have f87_0 := YJ BK137.out 0; have f87_1 := YJ BK137.out 1; have f87_2 := YJ BK137.out 2; have f87_3 := YJ BK137.out 3; have f87_4 := YJ BK137.out 4; have f87_5 := YJ BK137.out 5; have f87_6 := YJ BK137.out 6; have f87_7 := YJ BK137.out 7; have f87_8 := YJ BK137.out 8; have f87_9 := YJ BK137.out 9; have f87_10 := YJ BK137.out 10; have f87_11 := YJ BK137.out 11))
       go_ret
       exact ⟨by first | rfl | (simp [errW_none, errW_some] <;> rfl) | (simp [*, errW_none, errW_some] <;> rfl), by repeat (first | (with_reducible first | exact HB.out | apply YA | apply YB | apply YC | refine below_set ?_ GE136.out | refine below_set ?_ GE137.out) | exact HB.out)⟩
      rw [if_neg c78] at H
      have c78b0 : (t146 == 0) = false := beq_eq_false_iff_ne.mpr c78
      have c78b1 : (t146 != 0) = true := bne_iff_ne.mpr c78
      obtain rfl := Option.some.inj H
      have hnb88 := NB136_137.out
      have hnc88 := NB137_136.out
      have q89_0 : wc.cell? ⟨gb136, 0, none⟩ = some (.int .i64 a0_0) := (YI BK136.out 0).trans rfl
      have q89_1 : wc.cell? ⟨gb136, 1, none⟩ = some (.int .i64 a0_1) := (YI BK136.out 1).trans rfl
      have q89_2 : wc.cell? ⟨gb136, 2, none⟩ = some (.bool a0_2) := (YI BK136.out 2).trans rfl
      have q89_3 : wc.cell? ⟨gb136, 3, none⟩ = some (.int .i64 a0_3) := (YI BK136.out 3).trans rfl
      have q89_4 : wc.cell? ⟨gb136, 4, none⟩ = some (.int .i64 a0_4) := (YI BK136.out 4).trans rfl
      have q89_5 : wc.cell? ⟨gb136, 5, none⟩ = some (.int .i64 a0_5) := (YI BK136.out 5).trans rfl
      have q89_6 : wc.cell? ⟨gb136, 6, none⟩ = some (.int .i64 a0_6) := (YI BK136.out 6).trans rfl
      have q89_7 : wc.cell? ⟨gb136, 7, none⟩ = some (.int .i64 a0_7) := (YI BK136.out 7).trans rfl
      have q89_8 : wc.cell? ⟨gb136, 8, none⟩ = some (.int .i64 a0_8) := (YI BK136.out 8).trans rfl
      have q89_9 : wc.cell? ⟨gb136, 9, none⟩ = some (.int .i64 a0_9) := (YI BK136.out 9).trans rfl
      have q89_10 : wc.cell? ⟨gb136, 10, none⟩ = some (.int .i64 a0_10) := (YI BK136.out 10).trans rfl
      have q89_11 : wc.cell? ⟨gb136, 11, none⟩ = some (.int .i64 a0_11) := (YI BK136.out 11).trans rfl
      have f89_0 := YJ BK136.out 0
      have f89_1 := YJ BK136.out 1
      have f89_2 := YJ BK136.out 2
      have f89_3 := YJ BK136.out 3
      have f89_4 := YJ BK136.out 4
      have f89_5 := YJ BK136.out 5
      have f89_6 := YJ BK136.out 6
      have f89_7 := YJ BK136.out 7
      have f89_8 := YJ BK136.out 8
      have f89_9 := YJ BK136.out 9
      have f89_10 := YJ BK136.out 10
      have f89_11 := YJ BK136.out 11
      go_wp2_with (first | (go_at_call 48; (with_reducible refine (height_Check.calls kj12 a0_2 a0_3 a0_4 a0_5 a0_6 a0_7 t146 _ A77.out).mono ?_); rintro e w90 ⟨rfl, hb⟩; have n0_ := YL (YK (g := gb136) (o := .cells #[.int .i64 a0_0, .int .i64 a0_1, .bool a0_2, .int .i64 a0_3, .int .i64 a0_4, .int .i64 a0_5, .int .i64 a0_6, .int .i64 a0_7, .int .i64 a0_8, .int .i64 a0_9, .int .i64 a0_10, .int .i64 a0_11] 34 (0, 0)) (by (with_reducible repeat (first | refine YF ?_ _ | refine YG ?_ | refine YH ?_ _)); exact BK136.out) hb); have n1_ := YL (YK (g := gb137) (o := .cells #[.int .i64 0, .int .i64 0, .bool a0_2, .int .i64 a0_3, .int .i64 a0_4, .int .i64 a0_5, .int .i64 a0_6, .int .i64 a0_7, .int .i64 a0_8, .int .i64 a0_9, .int .i64 a0_10, .int .i64 x138011_12] 34 (0, 0)) (by (with_reducible repeat (first | refine YF ?_ _ | refine YG ?_ | refine YH ?_ _)); exact BK137.out) hb); have n2_ := YL (YD (by repeat (first | (with_reducible first | exact HB.out | apply YA | apply YB | apply YC | refine below_set ?_ GE136.out | refine below_set ?_ GE137.out) | exact HB.out)) hb); clear BK136; clear BK137; clear HB; have BK136 := n0_; have BK137 := n1_; have HB := n2_; clear n0_ n1_ n2_; (try clear hb); (try clear hb2); (try clear hk); (try clear hi); have q91_0 : w90.cell? ⟨gb137, 0, none⟩ = some (.int .i64 0) := (YI BK137.out 0).trans rfl; have q91_1 : w90.cell? ⟨gb137, 1, none⟩ = some (.int .i64 0) := (YI BK137.out 1).trans rfl; have q91_2 : w90.cell? ⟨gb137, 2, none⟩ = some (.bool a0_2) := (YI BK137.out 2).trans rfl; have q91_3 : w90.cell? ⟨gb137, 3, none⟩ = some (.int .i64 a0_3) := (YI BK137.out 3).trans rfl; have q91_4 : w90.cell? ⟨gb137, 4, none⟩ = some (.int .i64 a0_4) := (YI BK137.out 4).trans rfl; have q91_5 : w90.cell? ⟨gb137, 5, none⟩ = some (.int .i64 a0_5) := (YI BK137.out 5).trans rfl; have q91_6 : w90.cell? ⟨gb137, 6, none⟩ = some (.int .i64 a0_6) := (YI BK137.out 6).trans rfl; have q91_7 : w90.cell? ⟨gb137, 7, none⟩ = some (.int .i64 a0_7) := (YI BK137.out 7).trans rfl; have q91_8 : w90.cell? ⟨gb137, 8, none⟩ = some (.int .i64 a0_8) := (YI BK137.out 8).trans rfl; have q91_9 : w90.cell? ⟨gb137, 9, none⟩ = some (.int .i64 a0_9) := (YI BK137.out 9).trans rfl; have q91_10 : w90.cell? ⟨gb137, 10, none⟩ = some (.int .i64 a0_10) := (YI BK137.out 10).trans rfl; have q91_11 : w90.cell? ⟨gb137, 11, none⟩ = some (.int .i64 x138011_12) := (YI BK137.out 11).trans rfl; have f91_0 := YJ BK137.out 0; have f91_1 := YJ BK137.out 1; have f91_2 := YJ BK137.out 2; have f91_3 := YJ BK137.out 3; have f91_4 := YJ BK137.out 4; have f91_5 := YJ BK137.out 5; have f91_6 := YJ BK137.out 6; have f91_7 := YJ BK137.out 7; have f91_8 := YJ BK137.out 8; have f91_9 := YJ BK137.out 9; have f91_10 := YJ BK137.out 10; have f91_11 := YJ BK137.out 11))
      go_ret
      exact ⟨by first | rfl | (simp [errW_none, errW_some] <;> rfl) | (simp [*, errW_none, errW_some] <;> rfl), by repeat (first | (with_reducible first | exact HB.out | apply YA | apply YB | apply YC | refine below_set ?_ GE136.out | refine below_set ?_ GE137.out) | exact HB.out)⟩
     replace c76 := Bool.eq_false_iff.mpr c76
     subst c76
     have H1 : (some 1) = some r := by rw [if_neg (show ¬ (false = true) by decide)] at H; exact H
     clear H
     have H := H1
     clear H1
     obtain rfl := Option.some.inj H
     have hnb92 := NB137_136.out
     have hnc92 := NB136_137.out
     have q93_0 : wc.cell? ⟨gb137, 0, none⟩ = some (.int .i64 0) := (YI BK137.out 0).trans rfl
     have q93_1 : wc.cell? ⟨gb137, 1, none⟩ = some (.int .i64 0) := (YI BK137.out 1).trans rfl
     have q93_2 : wc.cell? ⟨gb137, 2, none⟩ = some (.bool a0_2) := (YI BK137.out 2).trans rfl
     have q93_3 : wc.cell? ⟨gb137, 3, none⟩ = some (.int .i64 a0_3) := (YI BK137.out 3).trans rfl
     have q93_4 : wc.cell? ⟨gb137, 4, none⟩ = some (.int .i64 a0_4) := (YI BK137.out 4).trans rfl
     have q93_5 : wc.cell? ⟨gb137, 5, none⟩ = some (.int .i64 a0_5) := (YI BK137.out 5).trans rfl
     have q93_6 : wc.cell? ⟨gb137, 6, none⟩ = some (.int .i64 a0_6) := (YI BK137.out 6).trans rfl
     have q93_7 : wc.cell? ⟨gb137, 7, none⟩ = some (.int .i64 a0_7) := (YI BK137.out 7).trans rfl
     have q93_8 : wc.cell? ⟨gb137, 8, none⟩ = some (.int .i64 a0_8) := (YI BK137.out 8).trans rfl
     have q93_9 : wc.cell? ⟨gb137, 9, none⟩ = some (.int .i64 a0_9) := (YI BK137.out 9).trans rfl
     have q93_10 : wc.cell? ⟨gb137, 10, none⟩ = some (.int .i64 a0_10) := (YI BK137.out 10).trans rfl
     have q93_11 : wc.cell? ⟨gb137, 11, none⟩ = some (.int .i64 x138011_12) := (YI BK137.out 11).trans rfl
     have f93_0 := YJ BK137.out 0
     have f93_1 := YJ BK137.out 1
     have f93_2 := YJ BK137.out 2
     have f93_3 := YJ BK137.out 3
     have f93_4 := YJ BK137.out 4
     have f93_5 := YJ BK137.out 5
     have f93_6 := YJ BK137.out 6
     have f93_7 := YJ BK137.out 7
     have f93_8 := YJ BK137.out 8
     have f93_9 := YJ BK137.out 9
     have f93_10 := YJ BK137.out 10
     have f93_11 := YJ BK137.out 11
     go_wp2
     go_ret
     exact ⟨by first | rfl | (simp [errW_none, errW_some] <;> rfl) | (simp [*, errW_none, errW_some] <;> rfl), by repeat (first | (with_reducible first | exact HB.out | apply YA | apply YB | apply YC | refine below_set ?_ GE136.out | refine below_set ?_ GE137.out) | exact HB.out)⟩
end Go.Proofs.Ytclbempnhelmoaa.P
namespace Go.Proofs.Ytclbempnhelmoaa.P
open Go.RowKit YtclbempnhelmoaaW.PrintWords YtclbempnhelmoaaW.PrintLast YtclbempnhelmoaaW.PrintMore
def Wr (g : Nat) (vw vo : Value) (O : List (It × Int)) (k : Nat) : Prop := k = g ∨ some k = vw.ownBlock ∨ some k = vo.ownBlock ∨ ∃ o ∈ O, k = o.1.p
theorem Sd.wr {w0 w : World} {F : Nat → Prop} {g : Nat} {wn tr nx : Int} {W : List S34} {O : List (It × Int)} {vw vo : Value} (h : Sd w0 w F g wn tr W O nx vw vo) : ∀ k, Wr g vw vo O k → F k := by
 rintro k (rfl | e | e | ⟨o, ho, rfl⟩)
 ·exact h.fg
 ·exact (h.roww.1 k e.symm).1
 ·exact (h.rowo.1 k e.symm).1
 ·exact (h.cnt o ho).1
structure SX (w : World) (F R : Nat → Prop) (w' : World) (F' R' : Nat → Prop) : Prop where
 sz : w.heap.size ≤ w'.heap.size
 fr : ∀ k, k < w.heap.size → ¬ R k → w'.heap[k]? = w.heap[k]?
 fp : ∀ k, F' k → F k ∨ w.heap.size ≤ k
 wr : ∀ k, R' k → R k ∨ w.heap.size ≤ k
theorem SX.refl (w : World) (F R : Nat → Prop) : SX w F R w F R := ⟨Nat.le_refl _, fun _ _ _ => rfl, fun _ h => .inl h, fun _ h => .inl h⟩
theorem SX.of_below {w w' : World} (F R : Nat → Prop) (hb : Below w.heap.size w w') : SX w F R w' F R := ⟨hb.size, fun k hk _ => hb.block k hk, fun _ h => .inl h, fun _ h => .inl h⟩
theorem SX.trans {w w1 w2 : World} {F R F1 R1 F2 R2 : Nat → Prop} (h : SX w F R w1 F1 R1) (h2 : SX w1 F1 R1 w2 F2 R2) : SX w F R w2 F2 R2 := by
 refine ⟨Nat.le_trans h.sz h2.sz, fun k hk hr => ?_, fun k hk => ?_, fun k hk => ?_⟩
 ·refine (h2.fr k (Nat.lt_of_lt_of_le hk h.sz) (fun hr1 => ?_)).trans (h.fr k hk hr)
  rcases h.wr k hr1 with e | e
  ·exact hr e
  ·omega
 ·rcases h2.fp k hk with e | e
  ·exact h.fp k e
  ·exact .inr (Nat.le_trans h.sz e)
 ·rcases h2.wr k hk with e | e
  ·exact h.wr k e
  ·exact .inr (Nat.le_trans h.sz e)
theorem SX.below {w w1 w2 : World} {F R F1 R1 : Nat → Prop} (h : SX w F R w1 F1 R1) (hb : Below w1.heap.size w1 w2) : SX w F R w2 F1 R1 := h.trans (SX.of_below F1 R1 hb)
theorem lit1_step {P : Program} {ops : Array Oper} {o : Oper} {a : Act} {Q : Exit → Act → World → Prop} {Kc : Act → World → Prop} {W : World} (hw : Region.wanted o (yielded ops a.tmps) = true) {N : Tmp} (_hd : o.dst = some N) {cs : Array Value} {t : TypeId} {n : Nat}
  (hrun : (execOp a.eval o).run P W = .ok (.value (.slice (some ⟨W.heap.size, 0, none⟩) n n)) (W.alloc (.cells cs t (0, 0))))
  (h : ∀ g, g = W.heap.size → ∀ w1, w1.heap[g]? = some (.cells cs t (0, 0)) → Below W.heap.size W w1 → Kc (a.put o.dst (.slice (some ⟨g, 0, none⟩) n n)) w1) : if Region.wanted o (yielded ops a.tmps) = true then Oper.wp P o a W Kc Q else Kc (a.put o.dst undef) W :=
 event_step hw hrun (h _ rfl _ (blk_new W _) (below_alloc (Below.refl _ _) _))
theorem lit1_event {P : Program} {ops : Array Oper} {rest : List Oper} {o : Oper} {a : Act} {Q : Exit → Act → World → Prop} {W : World} (hgd : o.guard = none) {N : Tmp} (_hd : o.dst = some N) {cs : Array Value} {t : TypeId} {n : Nat}
  (hrun : (execOp a.eval o).run P W = .ok (.value (.slice (some ⟨W.heap.size, 0, none⟩) n n)) (W.alloc (.cells cs t (0, 0))))
  (h : ∀ g, g = W.heap.size → ∀ w1, w1.heap[g]? = some (.cells cs t (0, 0)) → Below W.heap.size W w1 → wpList P ops Q rest (a.put o.dst (.slice (some ⟨g, 0, none⟩) n n)) w1) : wpList P ops Q (o :: rest) a W :=
 Kd.event_run hgd hrun (h _ rfl _ (blk_new W _) (below_alloc (Below.refl _ _) _))
section
variable {w0 w w' : World} {F : Nat → Prop} {g : Nat} {wn tr nx : Int} {W : List S34} {O : List (It × Int)} {vw vo : Value}
theorem Sd.keep (h : Sd w0 w F g wn tr W O nx vw vo) (hk : ∀ k, F k → w'.heap[k]? = w.heap[k]?) (hs : w.heap.size ≤ w'.heap.size) (hb : Below w0.heap.size w0 w') : Sd w0 w' F g wn tr W O nx vw vo :=
 ⟨hb, (hk g h.fg).trans h.blk, h.new, fun k hF => Nat.lt_of_lt_of_le (h.lt k hF) hs, h.fg, Kd.R_step h.roww (fun k ho _ => hk k ho.1), Kd.R_step h.rowo (fun k ho _ => hk k ho.1), fun o ho => ⟨(h.cnt o ho).1, (h.cnt o ho).2.1, (h.cnt o ho).2.2.1, (hk _ (h.cnt o ho).1).trans (h.cnt o ho).2.2.2⟩, h.apart⟩
theorem Sd.below (h : Sd w0 w F g wn tr W O nx vw vo) (hb : Below w.heap.size w w') : Sd w0 w' F g wn tr W O nx vw vo :=
 h.keep (fun k hk => hb.block k (h.lt k hk)) hb.size (below_step h.bl hb)
theorem Sd.push (h : Sd w0 w F g wn tr W O nx vw vo) {v2 : Value} {W2 : List S34} (hr : k34.R 34 w' w0.heap.size (fun k => (F k ∨ w.heap.size ≤ k) ∧ k ≠ g ∧ some k ≠ vo.ownBlock ∧ ∀ o ∈ O, k ≠ o.1.p) v2 W2) (hg : w.grownBy w' vw.ownBlock) (hat : v2.ownBlock = vw.ownBlock ∨ ∃ b, v2.ownBlock = some b ∧ w.heap.size ≤ b) :
  Sd w0 (w'.setCell ⟨g, 2, none⟩ v2) (fun k => (F k ∨ w.heap.size ≤ k) ∧ k < w'.heap.size) g wn tr W2 O nx v2 vo := by
 have hw0 := below_size h.bl
 have hbase : ∀ k, vw.ownBlock = some k → w0.heap.size ≤ k := fun k hk => Kd.R_base h.roww k hk
 have hgl := blk_lt h.blk
 have hgw : some g ≠ vw.ownBlock := fun e => (h.roww.1 g e.symm).2.1 rfl
 have hx := (hg.block g hgl hgw).trans h.blk
 have hsz : w'.heap.size ≤ (w'.setCell ⟨g, 2, none⟩ v2).heap.size := ((Below.refl 0 w').setCell (Nat.zero_le g) v2).size
 refine ⟨(pw_below_grown h.bl _ hw0 hg hbase).setCell h.new _, blk_put hx 2 v2 rfl, h.new, fun k hk => Nat.lt_of_lt_of_le hk.2 hsz, ⟨.inl h.fg, blk_lt hx⟩, ?_, ?_, fun o ho => ?_, h.apart⟩
 ·exact Kd.R_mono (Kd.R_far (Kd.R_bound hr) (fun k hk e => hk.1.2.1 e) v2) (fun k hk => ⟨⟨hk.1.1, hk.2.2.1⟩, hk.1.2⟩)
 ·have hb := Kd.R_bound h.rowo
  refine Kd.R_mono (Kd.R_far (Kd.R_grown (Kd.R_mono hb (ok' := fun k => (F k ∧ k ≠ g ∧ some k ≠ vw.ownBlock ∧ ∀ o ∈ O, k ≠ o.1.p) ∧ k < w.heap.size) (fun k hk => ⟨hk.1, hk.2.2.1⟩)) hg (fun k hk => hk.1.2.2.1)) (fun k hk e => hk.1.2.1 e) v2) (fun k hk => ⟨⟨.inl hk.1.1, Nat.lt_of_lt_of_le hk.2 hg.size⟩, hk.1.2.1, fun e => ?_, hk.1.2.2.2⟩)
  rcases hat with e2 | ⟨b, e2, hbl⟩
  ·exact hk.1.2.2.1 (e.trans e2)
  ·have := Option.some.inj (e.trans e2)
   have := hk.2
   omega
 ·obtain ⟨a, b, c, d⟩ := h.cnt o ho
  have hne : some o.1.p ≠ vw.ownBlock := fun e => (h.roww.1 _ e.symm).2.2.2 o ho rfl
  have hd := (hg.block _ (blk_lt d) hne).trans d
  exact ⟨⟨.inl a, blk_lt hd⟩, b, c, (Below.heap_setCell w' ⟨g, 2, none⟩ v2 o.1.p b).trans hd⟩
theorem Sd.pushX (h : Sd w0 w F g wn tr W O nx vw vo) {v2 : Value} (hg : w.grownBy w' vw.ownBlock) (hat : v2.ownBlock = vw.ownBlock ∨ ∃ b, v2.ownBlock = some b ∧ w.heap.size ≤ b) :
  SX w F (Wr g vw vo O) (w'.setCell ⟨g, 2, none⟩ v2) (fun k => (F k ∨ w.heap.size ≤ k) ∧ k < w'.heap.size) (Wr g v2 vo O) := by
 have hsz : w'.heap.size ≤ (w'.setCell ⟨g, 2, none⟩ v2).heap.size := ((Below.refl 0 w').setCell (Nat.zero_le g) v2).size
 refine ⟨Nat.le_trans hg.size hsz, fun k hk hr => ?_, fun k hk => hk.1, fun k hk => ?_⟩
 ·exact (Below.heap_setCell w' ⟨g, 2, none⟩ v2 k (fun e => hr (.inl e))).trans (hg.block k hk (fun e => hr (.inr (.inl e))))
 ·rcases hk with e | e | e | e
  ·exact .inl (.inl e)
  ·rcases hat with e2 | ⟨b, e2, hbl⟩
   ·exact .inl (.inr (.inl (e.trans e2)))
   ·have := Option.some.inj (e.trans e2)
    exact .inr (this ▸ hbl)
  ·exact .inl (.inr (.inr (.inl e)))
  ·exact .inl (.inr (.inr (.inr e)))
end
theorem RO_some {w : World} {base : Nat} {ok : Nat → Prop} {v : Value} {X : List S34} (h : k34.R 34 w base ok v X) : ∃ A m c, v = .slice A m c := by
 obtain ⟨A, c, e, _⟩ := Kd.R_reads h
 exact ⟨A, _, c, e⟩
theorem oneO_C {w : World} {h : Nat} {x : S34} (hv : w.heap[h]? = some (.cells #[.int .i64 x.f0, .int .i64 x.f1, .bool x.f2.f0, .int .i64 x.f2.f1, .int .i64 x.f2.f2, .int .i64 x.f2.f3, .int .i64 x.f2.f4, .int .i64 x.f2.f5, .int .i64 x.f3.f0, .int .i64 x.f3.f1, .int .i64 x.f3.f2, .int .i64 x.f4] 34 (0, 0))) : k34.C w (some ⟨h, 0, none⟩) 1 [x] := by
 refine ⟨rfl, by omega, fun _ => ⟨_, rfl, fun j p hp => ?_⟩⟩
 have hj : j = 0 := by have := (List.getElem?_eq_some_iff.1 hp).1; simpa using this
 subst hj
 obtain rfl : x = p := by simpa using hp
 refine ⟨[.int .i64 x.f0, .int .i64 x.f1, .bool x.f2.f0, .int .i64 x.f2.f1, .int .i64 x.f2.f2, .int .i64 x.f2.f3, .int .i64 x.f2.f4, .int .i64 x.f2.f5, .int .i64 x.f3.f0, .int .i64 x.f3.f1, .int .i64 x.f3.f2, .int .i64 x.f4], rfl, k34_mk w x, fun i u hu => ?_⟩
 rw [show 0 * k34.sz + i = i by omega, add_plain]
 exact (blk_cell hv i).trans (by simpa using hu)
theorem Sd.fresh {w0 w : World} {F : Nat → Prop} {g : Nat} {wn tr nx : Int} {W : List S34} {O : List (It × Int)} {vw vo : Value} (h : Sd w0 w F g wn tr W O nx vw vo) : ∀ k, w.heap.size ≤ k → (F k ∨ w.heap.size ≤ k) ∧ k ≠ g ∧ some k ≠ vo.ownBlock ∧ ∀ o ∈ O, k ≠ o.1.p := fun k hk =>
 ⟨.inr hk, fun e => by have := blk_lt h.blk; omega, fun e => by have := Kd.R_lt h.rowo k e.symm; omega, fun o ho e => by have := blk_lt (h.cnt o ho).2.2.2; omega⟩
def spu.T7 : Bool × List (List Nat × List Nat) := (true, [([], []), ([], []), ([1], [1]), ([2], [2]), ([3], [3]), ([], []), ([5], [5]), ([4, 6], [4, 6]), ([0, 0, 1, 2, 3, 4, 5, 6, 7], [0]), ([8, 0, 1, 2, 3, 4, 5, 6, 7], [8]), ([9, 7, 7, 0, 1, 2, 3, 4, 5, 6, 7], [7, 9])])
def spu.B7 : List Nat := [0, 0, 2, 6, 14, 0, 32, 126, 255, 511, 1023]
theorem spu.tab7 : rtab .any (opsOf Try.f11 7) = spu.T7 := by kernel_rfl
theorem spu.bits7 : waitsOk spu.T7.2 spu.B7 = true := by kernel_rfl
theorem spush_ok {w0 w : World} {F : Nat → Prop} {g : Nat} {wn tr nx : Int} {W : List S34} {O : List (It × Int)} {vw vo : Value} (h : Sd w0 w F g wn tr W O nx vw vo) (hl : W.length < 1024) (K : Nat) (a0 : Int) (a1 : Int) (a2 : Bool) (a3 : Int) (a4 : Int) (a5 : Int) (a6 : Int) (a7 : Int) (a8 : Int) (a9 : Int) (a10 : Int) (a11 : Int) (hk : object_Check.f K a0 a1 a2 a3 a4 a5 a6 a7 a8 a9 a10 a11 = some 0) :
  Calls Try.prog 11 #[.pointer (some ⟨g, 0, none⟩), .agg #[.int .i64 a0, .int .i64 a1, .bool a2, .int .i64 a3, .int .i64 a4, .int .i64 a5, .int .i64 a6, .int .i64 a7, .int .i64 a8, .int .i64 a9, .int .i64 a10, .int .i64 a11]] w fun e w' => e = .returned (.int .i64 0) ∧ ∃ F' v2, Sd w0 w' F' g wn tr (W ++ [⟨a0, a1, ⟨a2, a3, a4, a5, a6, a7⟩, ⟨a8, a9, a10⟩, a11⟩]) O nx v2 vo ∧ SX w F (Wr g vw vo O) w' F' (Wr g v2 vo O) := by
 obtain ⟨A, c, rfl, hlc, hC⟩ := Kd.R_reads h.roww
 have HS := Aside0.mk h
 have HK := Aside0.mk hk
 have HL := Aside0.mk hl
 have q4 : decide ((W.length : Int) ≥ 1024) = false := decide_eq_false (by omega)
 clear h hk hl hlc hC
 go_enter Try.func11, Try.ntmps11
 go_upto_region 7 with (first
  | ((with_reducible refine gate_dst (N := 3) rfl ?_); refine box_event ?hg (N := 3) ?hd (cs := #[.int .i64 a0, .int .i64 a1, .bool a2, .int .i64 a3, .int .i64 a4, .int .i64 a5, .int .i64 a6, .int .i64 a7, .int .i64 a8, .int .i64 a9, .int .i64 a10, .int .i64 a11]) (t := 34) ?hr ?_; (case hd => rfl); (case hg => rfl); (case hr => first | (go_simp; done) | (go_simp; rfl) | rfl | kernel_rfl); intro gb hgb w1 hbox hb; have BX := Aside0.mk hbox; have HS1 := Aside0.mk (HS.out.below hb); have BW1 := Aside0.mk hb; have o0 := (blk_cell BX.out 0).trans rfl; have o1 := (blk_cell BX.out 1).trans rfl; have o2 := (blk_cell BX.out 2).trans rfl; have o3 := (blk_cell BX.out 3).trans rfl; have o4 := (blk_cell BX.out 4).trans rfl; have o5 := (blk_cell BX.out 5).trans rfl; have o6 := (blk_cell BX.out 6).trans rfl; have o7 := (blk_cell BX.out 7).trans rfl; have o8 := (blk_cell BX.out 8).trans rfl; have o9 := (blk_cell BX.out 9).trans rfl; have o10 := (blk_cell BX.out 10).trans rfl; have o11 := (blk_cell BX.out 11).trans rfl; clear hb hbox hgb)
  | (go_at_call 26; (with_reducible refine (object_Check.calls K a0 a1 a2 a3 a4 a5 a6 a7 a8 a9 a10 a11 _ _ HK.out).mono ?_); rintro x_ w2 ⟨rfl, hb⟩; have HS2 := Aside0.mk (HS1.out.below hb); have BW2 := Aside0.mk (below_step BW1.out hb); have BY := Aside0.mk (blk_below BX.out hb); have hx : w2.cell? ⟨g, 2, none⟩ = some (.slice A W.length c) := (blk_cell HS2.out.blk 2).trans rfl; have p0 := (blk_cell BY.out 0).trans rfl; have p1 := (blk_cell BY.out 1).trans rfl; have p2 := (blk_cell BY.out 2).trans rfl; have p3 := (blk_cell BY.out 3).trans rfl; have p4 := (blk_cell BY.out 4).trans rfl; have p5 := (blk_cell BY.out 5).trans rfl; have p6 := (blk_cell BY.out 6).trans rfl; have p7 := (blk_cell BY.out 7).trans rfl; have p8 := (blk_cell BY.out 8).trans rfl; have p9 := (blk_cell BY.out 9).trans rfl; have p10 := (blk_cell BY.out 10).trans rfl; have p11 := (blk_cell BY.out 11).trans rfl; clear hb))
 refine start_ (n := 11) (S := fun w' => w'.cell? ⟨g, 2, none⟩ = some (.slice A W.length c) ∧ w'.cell? ⟨gb, 0, none⟩ = some (.int .i64 a0) ∧ w'.cell? ⟨gb, 1, none⟩ = some (.int .i64 a1) ∧ w'.cell? ⟨gb, 2, none⟩ = some (.bool a2) ∧ w'.cell? ⟨gb, 3, none⟩ = some (.int .i64 a3) ∧ w'.cell? ⟨gb, 4, none⟩ = some (.int .i64 a4) ∧ w'.cell? ⟨gb, 5, none⟩ = some (.int .i64 a5) ∧ w'.cell? ⟨gb, 6, none⟩ = some (.int .i64 a6) ∧ w'.cell? ⟨gb, 7, none⟩ = some (.int .i64 a7) ∧ w'.cell? ⟨gb, 8, none⟩ = some (.int .i64 a8) ∧ w'.cell? ⟨gb, 9, none⟩ = some (.int .i64 a9) ∧ w'.cell? ⟨gb, 10, none⟩ = some (.int .i64 a10) ∧ w'.cell? ⟨gb, 11, none⟩ = some (.int .i64 a11)) (ds := [7, 10]) #[false, false, false, false, false, false, false, false, false, false, false] (by kernel_rfl) rfl rfl ⟨hx, p0, p1, p2, p3, p4, p5, p6, p7, p8, p9, p10, p11⟩ (fun hHeld => ?_); refine with_tabW spu.tab7 spu.bits7 (fun HT_ HW_ => ?_)
 refine pure_ (i := 0) (N := some 19) (v := ?_) (a' := ?_) #[true, false, false, false, false, false, false, false, false, false, false] rfl rfl (any_of HT_.out (by kernel_rfl)) (fun _ _ _ h => h) (Or.inl ⟨by rfl, ?_⟩) ?_ ?_
 rotate_left
 ·intro w'
  go_simp
  with_reducible rfl
 rotate_left
 ·simp only [Act.put, List.setIfInBounds_toArray, List.set_cons_zero, List.set_cons_succ, i64_w, i32_w]
  rfl
 refine pure_ (i := 1) (N := some 20) (v := ?_) (a' := ?_) #[true, true, false, false, false, false, false, false, false, false, false] rfl rfl (any_of HT_.out (by kernel_rfl)) (fun _ _ _ h => h) (Or.inl ⟨by rfl, ?_⟩) ?_ ?_
 rotate_left
 ·intro w'
  go_simp
  with_reducible rfl
 rotate_left
 ·simp only [Act.put, List.setIfInBounds_toArray, List.set_cons_zero, List.set_cons_succ, i64_w, i32_w]
  rfl
 refine pure_ (i := 2) (N := some 21) (v := ?_) (a' := ?_) #[true, true, true, false, false, false, false, false, false, false, false] rfl rfl (any_of HT_.out (by kernel_rfl)) (fun _ _ _ h => h) (Or.inl ⟨by rfl, ?_⟩) ?_ ?_
 rotate_left
 ·intro w'
  go_simp
  with_reducible rfl
 rotate_left
 ·simp only [Act.put, List.setIfInBounds_toArray, List.set_cons_zero, List.set_cons_succ, i64_w, i32_w]
  rfl
 refine pure_ (i := 3) (N := some 22) (v := ?_) (a' := ?_) #[true, true, true, true, false, false, false, false, false, false, false] rfl rfl (any_of HT_.out (by kernel_rfl)) (fun _ _ _ h => h) (Or.inl ⟨by rfl, ?_⟩) ?_ ?_
 rotate_left
 ·intro w'
  go_simp
  with_reducible rfl
 rotate_left
 ·simp only [Act.put, List.setIfInBounds_toArray, List.set_cons_zero, List.set_cons_succ, i64_w, i32_w]
  rfl
 refine take_ (i := 4) (N := some 23) (v := ?_) (a' := ?_) #[true, true, true, true, true, false, false, false, false, false, false] rfl rfl (take_ofW HT_.out HW_.out (by kernel_rfl)) (fun _ _ _ h => h) (Or.inl ⟨by rfl, ?_⟩) hHeld ?_ ?_
 rotate_left
 ·rintro w' ⟨s0, s1, s2, s3, s4, s5, s6, s7, s8, s9, s10, s11, s12⟩
  go_simp
  with_reducible rfl
 rotate_left
 ·simp only [Act.put, List.setIfInBounds_toArray, List.set_cons_zero, List.set_cons_succ, i64_w, i32_w]
  rfl
 refine take_ (i := 5) (N := some 24) (v := ?_) (a' := ?_) #[true, true, true, true, true, true, false, false, false, false, false] rfl rfl (take_ofW HT_.out HW_.out (by kernel_rfl)) (fun _ _ _ h => h) (Or.inl ⟨by rfl, ?_⟩) hHeld ?_ ?_
 rotate_left
 ·rintro w' ⟨s0, s1, s2, s3, s4, s5, s6, s7, s8, s9, s10, s11, s12⟩
  go_simp
  with_reducible rfl
 rotate_left
 ·simp only [Act.put, List.setIfInBounds_toArray, List.set_cons_zero, List.set_cons_succ, i64_w, i32_w]
  rfl
 refine one_ (i := 6) (N := some 25) #[true, true, true, true, true, true, true, false, false, false, false] rfl rfl (one_of HT_.out (by kernel_rfl)) (by decide) (fun K hK => ?_)
 refine lit1_step ?hg (N := 25) ?hd (cs := #[.int .i64 a0, .int .i64 a1, .bool a2, .int .i64 a3, .int .i64 a4, .int .i64 a5, .int .i64 a6, .int .i64 a7, .int .i64 a8, .int .i64 a9, .int .i64 a10, .int .i64 a11]) (t := 34) (n := 1) ?hr ?_
 (case hd => rfl)
 (case hg => rfl)
 (case hr => first | (go_simp; done) | (go_simp; rfl))
 intro gl hgl w5 hbox hb
 have HS5 := Aside0.mk (HS2.out.below (below_step (below_drew (Below.refl _ _)) hb))
 have BW5 := Aside0.mk (below_step BW2.out (below_step (below_drew (Below.refl _ _)) hb))
 have BG := Aside0.mk hbox
 refine hK.out _ _ ⟨(hb.cell (World.block_lt_of_cell? _ _ hHeld.1)).trans hHeld.1, (hb.cell (World.block_lt_of_cell? _ _ hHeld.2.1)).trans hHeld.2.1, (hb.cell (World.block_lt_of_cell? _ _ hHeld.2.2.1)).trans hHeld.2.2.1, (hb.cell (World.block_lt_of_cell? _ _ hHeld.2.2.2.1)).trans hHeld.2.2.2.1, (hb.cell (World.block_lt_of_cell? _ _ hHeld.2.2.2.2.1)).trans hHeld.2.2.2.2.1, (hb.cell (World.block_lt_of_cell? _ _ hHeld.2.2.2.2.2.1)).trans hHeld.2.2.2.2.2.1, (hb.cell (World.block_lt_of_cell? _ _ hHeld.2.2.2.2.2.2.1)).trans hHeld.2.2.2.2.2.2.1, (hb.cell (World.block_lt_of_cell? _ _ hHeld.2.2.2.2.2.2.2.1)).trans hHeld.2.2.2.2.2.2.2.1, (hb.cell (World.block_lt_of_cell? _ _ hHeld.2.2.2.2.2.2.2.2.1)).trans hHeld.2.2.2.2.2.2.2.2.1, (hb.cell (World.block_lt_of_cell? _ _ hHeld.2.2.2.2.2.2.2.2.2.1)).trans hHeld.2.2.2.2.2.2.2.2.2.1, (hb.cell (World.block_lt_of_cell? _ _ hHeld.2.2.2.2.2.2.2.2.2.2.1)).trans hHeld.2.2.2.2.2.2.2.2.2.2.1, (hb.cell (World.block_lt_of_cell? _ _ hHeld.2.2.2.2.2.2.2.2.2.2.2.1)).trans hHeld.2.2.2.2.2.2.2.2.2.2.2.1, (hb.cell (World.block_lt_of_cell? _ _ hHeld.2.2.2.2.2.2.2.2.2.2.2.2)).trans hHeld.2.2.2.2.2.2.2.2.2.2.2.2⟩ (fun hHeld => ?_)
 clear hK K
 refine norm_ (a' := ?_) ?_ ?_
 rotate_left
 ·show Act.put _ (some 25) _ = _
  simp only [Act.put, List.setIfInBounds_toArray, List.set_cons_zero, List.set_cons_succ, i64_w, i32_w]
  rfl
 refine last_ (i := 7) (N := some 26) #[true, true, true, true, true, true, true, true, false, false, false] rfl rfl (one_of HT_.out (by kernel_rfl)) (by decide) (fun K hK => ?_)
 refine Kd.R_append_rows_step k34 (w0 := w5) w0.heap.size ?hw (.tmp 23) (.tmp 25) 46 34 (.agg #[(.int .i64 0), (.int .i64 0), (.bool false), (.int .i64 0), (.int .i64 0), (.int .i64 0), (.int .i64 0), (.int .i64 0), (.int .i64 0), (.int .i64 0), (.int .i64 0), (.int .i64 0)]) 96 rfl Try.underlying46 info34 rfl (by decide) (by omega) (.slice A W.length c) W [⟨a0, a1, ⟨a2, a3, a4, a5, a6, a7⟩, ⟨a8, a9, a10⟩, a11⟩] _ _ _ (fun k => (F k ∨ w5.heap.size ≤ k) ∧ k ≠ g ∧ some k ≠ vo.ownBlock ∧ ∀ o ∈ O, k ≠ o.1.p) (fun _ => False) rfl rfl ?aO ?aR (fun _ _ h => h) (fun _ h => h.elim) ?aF ?aB ?aS ?aL ?_
 (case hw => rfl)
 (case aR => exact oneO_C (x := ⟨a0, a1, ⟨a2, a3, a4, a5, a6, a7⟩, ⟨a8, a9, a10⟩, a11⟩) BG.out)
 (case aB => exact Below.refl _ _)
 (case aF => exact HS5.out.fresh)
 (case aO => exact Kd.R_mono HS5.out.roww (fun k hk => ⟨.inl hk.1, hk.2⟩))
 (case aS => exact below_size HS5.out.bl)
 (case aL => have := HL.out; omega)
 intro v2 w6 ho hb6 hg6 hat
 have HG := Aside0.mk ((hg6.block g (blk_lt HS5.out.blk) (fun e => (HS5.out.roww.1 g e.symm).2.1 rfl)).trans HS5.out.blk)
 have d3 : w6.cell? ⟨g, 2, none⟩ = some (.slice A W.length c) := (blk_cell HG.out 2).trans rfl
 have df : w6.frozen? ⟨g, 2, none⟩ = false := blk_frozen HG.out 2
 obtain ⟨A8, m8, c8, rfl⟩ := RO_some ho
 have HP := Aside0.mk (HS5.out.push ho hg6 hat)
 have HX := Aside0.mk ((SX.of_below F (Wr g (.slice A W.length c) vo O) BW5.out).trans (HS5.out.pushX hg6 hat))
 clear ho hb6 hg6 hat
 refine hK.out _ _ ?_
 clear hK K
 refine norm_ (a' := ?_) ?_ ?_
 rotate_left
 ·show Act.put _ (some 26) _ = _
  simp only [Act.put, List.setIfInBounds_toArray, List.set_cons_zero, List.set_cons_succ, i64_w, i32_w]
  rfl
 refine pure_ (i := 8) (N := some 27) (v := ?_) (a' := ?_) #[true, true, true, true, true, true, true, true, true, false, false] rfl rfl (any_of HT_.out (by kernel_rfl)) (fun _ _ _ h => h) (Or.inl ⟨by rfl, ?_⟩) ?_ ?_
 rotate_left
 ·intro w'
  go_simp
  with_reducible rfl
 rotate_left
 ·simp only [Act.put, List.setIfInBounds_toArray, List.set_cons_zero, List.set_cons_succ, i64_w, i32_w]
  rfl
 refine pure_ (i := 9) (N := some 28) (v := ?_) (a' := ?_) #[true, true, true, true, true, true, true, true, true, true, false] rfl rfl (any_of HT_.out (by kernel_rfl)) (fun _ _ _ h => h) (Or.inl ⟨by rfl, ?_⟩) ?_ ?_
 rotate_left
 ·intro w'
  go_simp
  with_reducible rfl
 rotate_left
 ·simp only [Act.put, List.setIfInBounds_toArray, List.set_cons_zero, List.set_cons_succ, i64_w, i32_w]
  rfl
 refine last_ (i := 10) (N := none) #[true, true, true, true, true, true, true, true, true, true, true] rfl rfl (one_of HT_.out (by kernel_rfl)) (by decide) (fun K hK => ?_)
 refine skip_ (w1 := ?_) (by rfl) rfl ?_ ?_
 rotate_left
 ·go_simp
  rfl
 refine hK.out _ _ ?_
 clear hK K
 refine done_ (done_of HT_.out (by kernel_rfl)) ?_
 go_wp2
 go_ret
 exact ⟨rfl, _, _, HP.out, HX.out⟩
theorem spush_bad {w0 w : World} {F : Nat → Prop} {g : Nat} {wn tr nx : Int} {W : List S34} {O : List (It × Int)} {vw vo : Value} (h : Sd w0 w F g wn tr W O nx vw vo) (K : Nat) (a0 : Int) (a1 : Int) (a2 : Bool) (a3 : Int) (a4 : Int) (a5 : Int) (a6 : Int) (a7 : Int) (a8 : Int) (a9 : Int) (a10 : Int) (a11 : Int) (r : Int) (hr : r ≠ 0) (hk : object_Check.f K a0 a1 a2 a3 a4 a5 a6 a7 a8 a9 a10 a11 = some r) :
  Calls Try.prog 11 #[.pointer (some ⟨g, 0, none⟩), .agg #[.int .i64 a0, .int .i64 a1, .bool a2, .int .i64 a3, .int .i64 a4, .int .i64 a5, .int .i64 a6, .int .i64 a7, .int .i64 a8, .int .i64 a9, .int .i64 a10, .int .i64 a11]] w fun e w' => e = .returned (.int .i64 1) ∧ Sd w0 w' F g wn tr W O nx vw vo ∧ Below w.heap.size w w' := by
 obtain ⟨A, c, rfl, hlc, hC⟩ := Kd.R_reads h.roww
 have HS := Aside0.mk h
 have HK := Aside0.mk hk
 have q4 : (r != 0) = true := bne_iff_ne.mpr hr
 clear h hk hlc hC hr
 go_enter Try.func11, Try.ntmps11
 go_wp2_with (first
  | ((with_reducible refine gate_dst (N := 3) rfl ?_); refine box_event ?hg (N := 3) ?hd (cs := #[.int .i64 a0, .int .i64 a1, .bool a2, .int .i64 a3, .int .i64 a4, .int .i64 a5, .int .i64 a6, .int .i64 a7, .int .i64 a8, .int .i64 a9, .int .i64 a10, .int .i64 a11]) (t := 34) ?hr ?_; (case hd => rfl); (case hg => rfl); (case hr => first | (go_simp; done) | (go_simp; rfl) | rfl | kernel_rfl); intro gb hgb w1 hbox hb; have BX := Aside0.mk hbox; have HS1 := Aside0.mk (HS.out.below hb); have BW1 := Aside0.mk hb; have o0 := (blk_cell BX.out 0).trans rfl; have o1 := (blk_cell BX.out 1).trans rfl; have o2 := (blk_cell BX.out 2).trans rfl; have o3 := (blk_cell BX.out 3).trans rfl; have o4 := (blk_cell BX.out 4).trans rfl; have o5 := (blk_cell BX.out 5).trans rfl; have o6 := (blk_cell BX.out 6).trans rfl; have o7 := (blk_cell BX.out 7).trans rfl; have o8 := (blk_cell BX.out 8).trans rfl; have o9 := (blk_cell BX.out 9).trans rfl; have o10 := (blk_cell BX.out 10).trans rfl; have o11 := (blk_cell BX.out 11).trans rfl; clear hb hbox hgb)
  | (go_at_call 26; (with_reducible refine (object_Check.calls K a0 a1 a2 a3 a4 a5 a6 a7 a8 a9 a10 a11 _ _ HK.out).mono ?_); rintro x_ w2 ⟨rfl, hb⟩; have HS2 := Aside0.mk (HS1.out.below hb); have BW2 := Aside0.mk (below_step BW1.out hb); have BY := Aside0.mk (blk_below BX.out hb); have hx : w2.cell? ⟨g, 2, none⟩ = some (.slice A W.length c) := (blk_cell HS2.out.blk 2).trans rfl; have p0 := (blk_cell BY.out 0).trans rfl; have p1 := (blk_cell BY.out 1).trans rfl; have p2 := (blk_cell BY.out 2).trans rfl; have p3 := (blk_cell BY.out 3).trans rfl; have p4 := (blk_cell BY.out 4).trans rfl; have p5 := (blk_cell BY.out 5).trans rfl; have p6 := (blk_cell BY.out 6).trans rfl; have p7 := (blk_cell BY.out 7).trans rfl; have p8 := (blk_cell BY.out 8).trans rfl; have p9 := (blk_cell BY.out 9).trans rfl; have p10 := (blk_cell BY.out 10).trans rfl; have p11 := (blk_cell BY.out 11).trans rfl; clear hb))
 go_ret
 exact ⟨rfl, HS2.out, BW2.out⟩
theorem spush_full {w0 w : World} {F : Nat → Prop} {g : Nat} {wn tr nx : Int} {W : List S34} {O : List (It × Int)} {vw vo : Value} (h : Sd w0 w F g wn tr W O nx vw vo) (hl : ¬ W.length < 1024) (K : Nat) (a0 : Int) (a1 : Int) (a2 : Bool) (a3 : Int) (a4 : Int) (a5 : Int) (a6 : Int) (a7 : Int) (a8 : Int) (a9 : Int) (a10 : Int) (a11 : Int) (hk : object_Check.f K a0 a1 a2 a3 a4 a5 a6 a7 a8 a9 a10 a11 = some 0) :
  Calls Try.prog 11 #[.pointer (some ⟨g, 0, none⟩), .agg #[.int .i64 a0, .int .i64 a1, .bool a2, .int .i64 a3, .int .i64 a4, .int .i64 a5, .int .i64 a6, .int .i64 a7, .int .i64 a8, .int .i64 a9, .int .i64 a10, .int .i64 a11]] w fun e w' => e = .returned (.int .i64 8) ∧ Sd w0 w' F g wn tr W O nx vw vo ∧ Below w.heap.size w w' := by
 obtain ⟨A, c, rfl, hlc, hC⟩ := Kd.R_reads h.roww
 have HS := Aside0.mk h
 have HK := Aside0.mk hk
 have q4 : decide ((W.length : Int) ≥ 1024) = true := decide_eq_true (by omega)
 clear h hk hl hlc hC
 go_enter Try.func11, Try.ntmps11
 go_wp2_with (first
  | ((with_reducible refine gate_dst (N := 3) rfl ?_); refine box_event ?hg (N := 3) ?hd (cs := #[.int .i64 a0, .int .i64 a1, .bool a2, .int .i64 a3, .int .i64 a4, .int .i64 a5, .int .i64 a6, .int .i64 a7, .int .i64 a8, .int .i64 a9, .int .i64 a10, .int .i64 a11]) (t := 34) ?hr ?_; (case hd => rfl); (case hg => rfl); (case hr => first | (go_simp; done) | (go_simp; rfl) | rfl | kernel_rfl); intro gb hgb w1 hbox hb; have BX := Aside0.mk hbox; have HS1 := Aside0.mk (HS.out.below hb); have BW1 := Aside0.mk hb; have o0 := (blk_cell BX.out 0).trans rfl; have o1 := (blk_cell BX.out 1).trans rfl; have o2 := (blk_cell BX.out 2).trans rfl; have o3 := (blk_cell BX.out 3).trans rfl; have o4 := (blk_cell BX.out 4).trans rfl; have o5 := (blk_cell BX.out 5).trans rfl; have o6 := (blk_cell BX.out 6).trans rfl; have o7 := (blk_cell BX.out 7).trans rfl; have o8 := (blk_cell BX.out 8).trans rfl; have o9 := (blk_cell BX.out 9).trans rfl; have o10 := (blk_cell BX.out 10).trans rfl; have o11 := (blk_cell BX.out 11).trans rfl; clear hb hbox hgb)
  | (go_at_call 26; (with_reducible refine (object_Check.calls K a0 a1 a2 a3 a4 a5 a6 a7 a8 a9 a10 a11 _ _ HK.out).mono ?_); rintro x_ w2 ⟨rfl, hb⟩; have HS2 := Aside0.mk (HS1.out.below hb); have BW2 := Aside0.mk (below_step BW1.out hb); have BY := Aside0.mk (blk_below BX.out hb); have hx : w2.cell? ⟨g, 2, none⟩ = some (.slice A W.length c) := (blk_cell HS2.out.blk 2).trans rfl; have p0 := (blk_cell BY.out 0).trans rfl; have p1 := (blk_cell BY.out 1).trans rfl; have p2 := (blk_cell BY.out 2).trans rfl; have p3 := (blk_cell BY.out 3).trans rfl; have p4 := (blk_cell BY.out 4).trans rfl; have p5 := (blk_cell BY.out 5).trans rfl; have p6 := (blk_cell BY.out 6).trans rfl; have p7 := (blk_cell BY.out 7).trans rfl; have p8 := (blk_cell BY.out 8).trans rfl; have p9 := (blk_cell BY.out 9).trans rfl; have p10 := (blk_cell BY.out 10).trans rfl; have p11 := (blk_cell BY.out 11).trans rfl; clear hb))
 go_ret
 exact ⟨rfl, HS2.out, BW2.out⟩
theorem at_ItM {w : World} {base n c : Nat} {ok : Nat → Prop} {A : Option Addr} {xs : List It} (h : kIt.R 73 w base ok (.slice A n c) xs) (i : Int) (h0 : 0 ≤ i) (h1 : i < n) : ∃ ad A1 c1, A = some ad ∧ w.cell? (ad.add (i.toNat * 3)) = some (.int .i64 (rd_It xs i).b.f0) ∧ w.cell? ⟨(ad.add (i.toNat * 3)).block, (ad.add (i.toNat * 3)).off + 1, none⟩ = some (.slice A1 (rd_It xs i).b.f1.length c1) ∧ w.cell? ⟨(ad.add (i.toNat * 3)).block, (ad.add (i.toNat * 3)).off + 2, none⟩ = some (.pointer (some ⟨(rd_It xs i).p, 0, none⟩)) ∧ k34.R 34 w base (fun k => ok k ∧ some k ≠ (Value.slice A n c).ownBlock) (.slice A1 (rd_It xs i).b.f1.length c1) (rd_It xs i).b.f1 := by
 obtain ⟨hn, _, hC⟩ := Kd.R_reads' h
 obtain ⟨ad, A1, c1, e, x0, x1, x2, _, _⟩ := at_It (n := n) (by rw [hn]; exact hC) i h0 h1
 obtain ⟨gq, cap, ev, _, _⟩ := Kd.R_form h (by omega)
 injection ev with ea en ec
 subst ea
 have hR := h
 obtain ⟨cs, _, hM, hcs, _⟩ := Kd.R_elem h zIt i h0 h1
 obtain ⟨v1, rfl, hv⟩ := kIt_openM hM
 cases e
 have h2 : w.cell? ⟨gq, i.toNat * 3 + 1, none⟩ = some v1 := hcs 1 v1 rfl
 have e1 : (⟨gq, 0, none⟩ : Addr).add (i.toNat * 3) = ⟨gq, i.toNat * 3, none⟩ := add_plain gq (i.toNat * 3)
 rw [e1] at x1
 have := Option.some.inj (h2.symm.trans x1)
 subst this
 refine ⟨_, A1, c1, rfl, x0, by rw [e1]; exact x1, x2, Kd.R_mono hv (fun k hk => ⟨hk.1, fun e => hk.2 ?_⟩)⟩
 simpa [Value.ownBlock] using e
theorem at_BM {w : World} {base n c : Nat} {ok : Nat → Prop} {A : Option Addr} {xs : List S48} (h : k48.R 48 w base ok (.slice A n c) xs) (i : Int) (h0 : 0 ≤ i) (h1 : i < n) : ∃ ad A1 c1, A = some ad ∧ w.cell? (ad.add (i.toNat * 2)) = some (.int .i64 (rd_T48 xs i).f0) ∧ w.cell? ⟨(ad.add (i.toNat * 2)).block, (ad.add (i.toNat * 2)).off + 1, none⟩ = some (.slice A1 (rd_T48 xs i).f1.length c1) ∧ k34.R 34 w base (fun k => ok k ∧ some k ≠ (Value.slice A n c).ownBlock) (.slice A1 (rd_T48 xs i).f1.length c1) (rd_T48 xs i).f1 := by
 obtain ⟨hn, _, hC⟩ := Kd.R_reads' h
 obtain ⟨ad, A1, c1, e, x0, x1, _, _⟩ := at_T48 (n := n) (by rw [hn]; exact hC) i h0 h1
 obtain ⟨gq, cap, ev, _, _⟩ := Kd.R_form h (by omega)
 injection ev with ea en ec
 subst ea
 obtain ⟨cs, _, hM, hcs, _⟩ := Kd.R_elem h z48 i h0 h1
 obtain ⟨v1, rfl, hv⟩ := k48_openM hM
 cases e
 have h2 : w.cell? ⟨gq, i.toNat * 2 + 1, none⟩ = some v1 := hcs 1 v1 rfl
 have e1 : (⟨gq, 0, none⟩ : Addr).add (i.toNat * 2) = ⟨gq, i.toNat * 2, none⟩ := add_plain gq (i.toNat * 2)
 rw [e1] at x1
 have := Option.some.inj (h2.symm.trans x1)
 subst this
 refine ⟨_, A1, c1, rfl, x0, by rw [e1]; exact x1, Kd.R_mono hv (fun k hk => ⟨hk.1, fun e => hk.2 ?_⟩)⟩
 simpa [Value.ownBlock] using e
theorem oneB_M {w : World} {base h : Nat} {ok : Nat → Prop} {x : S48} {v1 : Value} (hv : w.heap[h]? = some (.cells #[.int .i64 x.f0, v1] 48 (0, 0))) (hr : k34.R 34 w base ok v1 x.f1) : ReadsRow (k48.M w base ok) k48.sz w (some ⟨h, 0, none⟩) 1 [x] := by
 refine ⟨rfl, by omega, fun _ => ⟨_, rfl, fun j p hp => ?_⟩⟩
 have hj : j = 0 := by have := (List.getElem?_eq_some_iff.1 hp).1; simpa using this
 subst hj
 obtain rfl : x = p := by simpa using hp
 refine ⟨[.int .i64 x.f0, v1], rfl, k48_mkM w base ok x hr, fun i u hu => ?_⟩
 rw [show 0 * k48.sz + i = i by omega, add_plain]
 exact (blk_cell hv i).trans (by simpa using hu)
structure OuS (w0 w wr : World) (ok : Nat → Prop) (X : List S48) (v : Value) : Prop where
 bl : Below w.heap.size w wr
 b0 : Below w0.heap.size w0 wr
 row : k48.R 48 wr w0.heap.size (fun k => w.heap.size ≤ k ∨ ok k) v X
 own : ∀ k, v.ownBlock = some k → w.heap.size ≤ k
theorem OuS.sz {w0 w wr : World} {ok : Nat → Prop} {X : List S48} {v : Value} (h : OuS w0 w wr ok X v) : w.heap.size ≤ wr.heap.size := h.bl.size
theorem OuS.below {w0 w wr w' : World} {ok : Nat → Prop} {X : List S48} {v : Value} (h : OuS w0 w wr ok X v) (hb : Below wr.heap.size wr w') : OuS w0 w w' ok X v := ⟨below_step h.bl hb, below_step h.b0 hb, Kd.R_below h.row hb, h.own⟩
theorem OuS.appended {w0 w wr w' : World} {ok : Nat → Prop} {X X2 : List S48} {v v2 : Value} (h : OuS w0 w wr ok X v) (hw : w0.heap.size ≤ w.heap.size) (hr : k48.R 48 w' w0.heap.size (fun k => w.heap.size ≤ k ∨ ok k) v2 X2) (hb : Below w0.heap.size w0 w') (hg : wr.grownBy w' v.ownBlock) (hat : v2.ownBlock = v.ownBlock ∨ ∃ b, v2.ownBlock = some b ∧ wr.heap.size ≤ b) : OuS w0 w w' ok X2 v2 := by
 refine ⟨pw_below_grown h.bl v.ownBlock h.sz hg (fun k hk => h.own k hk), hb, hr, fun k hk => ?_⟩
 rcases hat with e | ⟨b, e, hbl⟩
 ·exact h.own k (e ▸ hk)
 ·have := Option.some.inj (e.symm.trans hk)
  have := h.sz
  omega
theorem cell_below' {w w1 : World} {a : Addr} {v : Value} (hb : Below w.heap.size w w1) (h : w.cell? a = some v) : w1.cell? a = some v := (hb.cell (World.block_lt_of_cell? _ _ h)).trans h
theorem it_rd {xs : List It} (i : Nat) (h : i < xs.length) : rd_It xs (i : Int) = xs[i] := by
 unfold rd_It
 rw [Int.toNat_natCast, List.getD_eq_getElem?_getD, List.getElem?_eq_getElem h]
 rfl
theorem sout_s {w0 w : World} {F : Nat → Prop} {g : Nat} {wn tr nx : Int} {W : List S34} {O : List (It × Int)} {vw vo : Value} (h : Sd w0 w F g wn tr W O nx vw vo) (hl : O.length ≤ 1000000) :
  Calls Try.prog 15 #[.pointer (some ⟨g, 0, none⟩)] w fun e w' => ∃ v, e = .returned v ∧ OuS w0 w w' (fun k => F k ∧ ¬ Wr g vw vo O k) ((O.map Prod.fst).map It.b) v := by
 obtain ⟨xs, hxs⟩ : ∃ xs, xs = O.map Prod.fst := ⟨_, rfl⟩
 obtain ⟨ok, hok⟩ : ∃ ok, ok = (fun k => F k ∧ ¬ Wr g vw vo O k) := ⟨_, rfl⟩
 obtain ⟨A, c, rfl, hlc, _⟩ := Kd.R_reads h.rowo
 have hrow := h.rowo
 rw [← hxs] at hrow
 rw [← hok, ← hxs]
 obtain ⟨n, hn⟩ : ∃ n, n = xs.length := ⟨_, rfl⟩
 have hx : w.cell? ⟨g, 3, none⟩ = some (.slice A n c) := by rw [hn, hxs]; exact (blk_cell h.blk 3).trans rfl
 have HR := Aside0.mk (Kd.R_mono hrow (ok' := fun k => F k ∧ k ≠ g ∧ some k ≠ vw.ownBlock ∧ ∀ o ∈ O, k ≠ o.1.p) (fun _ h => h))
 have HL := Aside0.mk (show xs.length ≤ 1000000 by rw [hxs, List.length_map]; exact hl)
 have HOK := Aside0.mk (show ∀ k, ok k → k < w.heap.size from fun k hk => by rw [hok] at hk; exact h.lt k hk.1)
 have HW0 := Aside0.mk (below_size h.bl)
 have HOW := Aside0.mk (show ∀ k, (F k ∧ k ≠ g ∧ some k ≠ vw.ownBlock ∧ ∀ o ∈ O, k ≠ o.1.p) ∧ some k ≠ (Value.slice A (O.map Prod.fst).length c).ownBlock → ok k from fun k hk => by
  rw [hok]
  refine ⟨hk.1.1, ?_⟩
  rintro (e | e | e | ⟨o, ho, e⟩)
  ·exact hk.1.2.1 e
  ·exact hk.1.2.2.1 e
  ·exact hk.2 e
  ·exact hk.1.2.2.2 o ho e)
 have S0 := Aside0.mk (show OuS w0 w w ok ((xs.take 0).map It.b) (.slice none 0 0) from ⟨Below.refl _ _, h.bl, Kd.R_nil _ _ _ _ _, fun k hk => by simp [Value.ownBlock] at hk⟩)
 have HN := Aside0.mk hn
 rw [← hxs, ← hn] at HOW
 rw [← hn] at HR
 clear h hl hrow hxs hok hn hlc
 go_enter Try.func15, Try.ntmps15
 go_wp2
 go_loopg [3, 13] n (fun kq v3' v13 wr => ∃ (x : Int) (v3 : Value), v13 = .int .i64 x ∧ v3 = v3' ∧ Aside0 (0 ≤ x) ∧ Aside0 (x + kq = n) ∧ Aside0 (OuS w0 w wr ok ((xs.take x.toNat).map It.b) v3))
 case atStart => exact ⟨0, _, rfl, rfl, ⟨by omega⟩, ⟨by omega⟩, S0⟩
 case round =>
  clear S0
  obtain ⟨x, v3, rfl, rfl, H0, HI, SS⟩ := hrel
  cases gk with
  | zero =>
   have hnl : decide (x < (n : Int)) = false := decide_eq_false (by have := HI.out; omega)
   go_wp2
   go_ret
   have hq : xs.take x.toNat = xs := List.take_of_length_le (by have := HI.out; have := HN.out; omega)
   rw [hq] at SS
   exact ⟨_, rfl, SS.out⟩
  | succ k1 =>
   have hlt := (show x < (n : Int) by have := HI.out; omega)
   have h0 := H0.out
   have hd : decide (x < (n : Int)) = true := decide_eq_true hlt
   have hb0 : x < 9223372036854775807 := by have := HL.out; have := HN.out; omega
   have hw : wrap64 (x + 1) = x + 1 := w64 (by omega) (by omega)
   have hxl : x.toNat < xs.length := by have := HN.out; omega
   have hrx : rd_It xs x = xs[x.toNat] := by rw [← it_rd x.toNat hxl]; congr 1; omega
   obtain ⟨ad, A1, c1, e_, y0, y1, y2, hi1⟩ := at_ItM HR.out x h0 hlt
   cases e_
   have HI1 := Aside0.mk (Kd.R_mono hi1 (fun k hk => HOW.out k hk))
   have hx0 := cell_below' SS.out.bl y0
   have hx1 := cell_below' SS.out.bl y1
   have hx2 := cell_below' SS.out.bl y2
   have HKE := Aside0.mk (show (xs.take x.toNat).map It.b ++ [(rd_It xs x).b] = (xs.take (x.toNat + 1)).map It.b by rw [hrx, List.take_succ_eq_append_getElem hxl, List.map_append]; rfl)
   have h0t := eq_true h0
   have hltt := eq_true hlt
   clear hrx y0 y1 y2 hi1 hxl
   go_wp2_with (first
    | ((with_reducible refine gate_dst (N := 5) rfl ?_); refine box_event ?hg (N := 5) ?hd (cs := #[.int .i64 0, .slice none 0 0, .pointer none]) (t := 73) ?hr ?_; (case hd => rfl); (case hg => rfl); (case hr => first | (go_simp; done) | (go_simp; rfl)); intro gt hg w3 hbox hb; have S3 := Aside0.mk (SS.out.below (show Below wr.heap.size wr (((w3.setCell ⟨gt, 0, none⟩ (.int .i64 (rd_It xs x).b.f0)).setCell ⟨gt, 1, none⟩ (.slice A1 (rd_It xs x).b.f1.length c1)).setCell ⟨gt, 2, none⟩ (.pointer (some ⟨(rd_It xs x).p, 0, none⟩))) from below_set (below_set (below_set hb (Nat.le_of_eq hg.symm)) (Nat.le_of_eq hg.symm)) (Nat.le_of_eq hg.symm))); have BT := Aside0.mk (blk_put (blk_put (blk_put hbox 0 (.int .i64 (rd_It xs x).b.f0) (cs' := #[.int .i64 (rd_It xs x).b.f0, .slice none 0 0, .pointer none]) rfl) 1 (.slice A1 (rd_It xs x).b.f1.length c1) (cs' := #[.int .i64 (rd_It xs x).b.f0, .slice A1 (rd_It xs x).b.f1.length c1, .pointer none]) rfl) 2 (.pointer (some ⟨(rd_It xs x).p, 0, none⟩)) (cs' := #[.int .i64 (rd_It xs x).b.f0, .slice A1 (rd_It xs x).b.f1.length c1, .pointer (some ⟨(rd_It xs x).p, 0, none⟩)]) rfl); have a0 := (blk_cell hbox 0).trans rfl; have a1 := (blk_cell hbox 1).trans rfl; have a2 := (blk_cell hbox 2).trans rfl; have af0 := blk_frozen hbox 0; have af1 := blk_frozen hbox 1; have af2 := blk_frozen hbox 2; have b0 := (blk_cell BT.out 0).trans rfl; have b1 := (blk_cell BT.out 1).trans rfl; clear hb hbox hg)
    | ((with_reducible refine gate_dst (N := 20) rfl ?_); refine lit1_event ?hg (N := 20) ?hd (cs := #[.int .i64 (rd_It xs x).b.f0, .slice A1 (rd_It xs x).b.f1.length c1]) (t := 48) (n := 1) ?hr ?_; (case hd => rfl); (case hg => rfl); (case hr => first | (go_simp; done) | (go_simp; rfl)); intro gl hg w5 hbox hb; have S5 := Aside0.mk (S3.out.below hb); have BL := Aside0.mk hbox; clear hb hbox hg)
    | ((with_reducible refine gate_builtin (b := .append) (xs := #[.tmp 17, .tmp 20]) rfl ?_); at_builtin; refine Kd.R_append_rows k48 (w0 := w0) w0.heap.size rfl (.tmp 17) (.tmp 20) 28 48 (.agg #[(.int .i64 0), (.slice none 0 0)]) 32 rfl Try.underlying28 info48 rfl (by decide) (by omega) v3 ((xs.take x.toNat).map It.b) [(rd_It xs x).b] _ _ _ (fun k => w.heap.size ≤ k ∨ ok k) ok rfl rfl ?aO ?aR (fun _ _ h => h) ?aP ?aF ?aB ?aS ?aL ?_; (case aR => exact oneB_M BL.out (Kd.R_below HI1.out S5.out.bl)); (case aB => exact S5.out.b0); (case aF => exact (fun k hk => .inl (Nat.le_trans S5.out.sz hk))); (case aP => exact (fun k hk => ⟨.inr hk, fun e => by have := S5.out.own k e.symm; have := HOK.out k hk; omega⟩)); (case aO => exact S5.out.row); (case aS => exact below_size S5.out.b0); (case aL => have := HL.out; rw [List.length_map, List.length_take]; omega); intro v2 w6 ho hb hg hat; rw [HKE.out] at ho; have SE := Aside0.mk (S5.out.appended HW0.out ho hb hg hat); clear ho hb hg hat))
   go_roundg k1
   case measure => have := HI.out; omega
   case rel => exact ⟨x + 1, _, by first | rfl | simp [hw], rfl, ⟨by omega⟩, ⟨by have := HI.out; omega⟩, ⟨by rw [show (x + 1).toNat = x.toNat + 1 by omega]; exact SE.out⟩⟩
section
variable {w0 w w' : World} {F F1 : Nat → Prop} {g : Nat} {wn tr nx : Int} {W : List S34} {O : List (It × Int)} {vw vo : Value}
theorem Sd.more (h : Sd w0 w F g wn tr W O nx vw vo) (hF : ∀ k, F k → F1 k) (hlt : ∀ k, F1 k → k < w.heap.size) : Sd w0 w F1 g wn tr W O nx vw vo :=
 ⟨h.bl, h.blk, h.new, hlt, hF g h.fg, Kd.R_mono h.roww (fun k hk => ⟨hF k hk.1, hk.2⟩), Kd.R_mono h.rowo (fun k hk => ⟨hF k hk.1, hk.2⟩), fun o ho => ⟨hF _ (h.cnt o ho).1, (h.cnt o ho).2⟩, h.apart⟩
theorem Sd.grown (h : Sd w0 w F g wn tr W O nx vw vo) {row : Option Nat} (hg : w.grownBy w' row) (hr : ∀ k, row = some k → w0.heap.size ≤ k ∧ ¬ F k) : Sd w0 w' F g wn tr W O nx vw vo :=
 h.keep (fun k hk => hg.block k (h.lt k hk) (fun e => (hr k e.symm).2 hk)) hg.size (pw_below_grown h.bl row (below_size h.bl) hg (fun k hk => (hr k hk).1))
theorem SX.more (w : World) {F F1 : Nat → Prop} (R : Nat → Prop) (h : ∀ k, F1 k → F k ∨ w.heap.size ≤ k) : SX w F R w F1 R := ⟨Nat.le_refl _, fun _ _ _ => rfl, h, fun _ h => .inl h⟩
theorem set_size (w : World) (a : Addr) (v : Value) : w.heap.size ≤ (w.setCell a v).heap.size := ((Below.refl 0 w).setCell (Nat.zero_le a.block) v).size
theorem Sd.setN (h : Sd w0 w F g wn tr W O nx vw vo) (n2 : Int) : Sd w0 (w.setCell ⟨g, 4, none⟩ (.int .i64 n2)) F g wn tr W O n2 vw vo :=
 ⟨h.bl.setCell h.new _, blk_put h.blk 4 _ rfl, h.new, fun k hk => Nat.lt_of_lt_of_le (h.lt k hk) (set_size _ _ _), h.fg, Kd.R_far (p := ⟨g, 4, none⟩) h.roww (fun k hk e => hk.2.1 e) _, Kd.R_far (p := ⟨g, 4, none⟩) h.rowo (fun k hk e => hk.2.1 e) _, fun o ho => ⟨(h.cnt o ho).1, (h.cnt o ho).2.1, (h.cnt o ho).2.2.1, (Below.heap_setCell w ⟨g, 4, none⟩ _ _ (h.cnt o ho).2.1).trans (h.cnt o ho).2.2.2⟩, h.apart⟩
theorem SX.set (w : World) (F R : Nat → Prop) {g : Nat} (i : Nat) (v : Value) (hR : R g) : SX w F R (w.setCell ⟨g, i, none⟩ v) F R := ⟨set_size _ _ _, fun k _ hk => Below.heap_setCell w ⟨g, i, none⟩ v k (fun e => hk (e ▸ hR)), fun _ h => .inl h, fun _ h => .inl h⟩
theorem SX.grown {w w' : World} (F R : Nat → Prop) {row : Option Nat} (hg : w.grownBy w' row) (hr : ∀ k, row = some k → w.heap.size ≤ k ∨ R k) : SX w F R w' F R := ⟨hg.size, fun k hk hR => hg.block k hk (fun e => by
 rcases hr k e.symm with e2 | e2
 ·omega
 ·exact hR e2), fun _ h => .inl h, fun _ h => .inl h⟩
theorem Sd.setW (h : Sd w0 w F g wn tr W O nx vw vo) {N : Nat → Prop} {v2 : Value} {W2 : List S34} (hN : ∀ k, N k → ¬ F k ∧ k < w.heap.size) (hr : k34.R 34 w w0.heap.size N v2 W2) :
  Sd w0 (w.setCell ⟨g, 2, none⟩ v2) (fun k => F k ∨ N k) g wn tr W2 O nx v2 vo := by
 refine ⟨h.bl.setCell h.new _, blk_put h.blk 2 v2 rfl, h.new, fun k hk => ?_, .inl h.fg, ?_, ?_, fun o ho => ?_, h.apart⟩
 ·rcases hk with hk | hk
  ·exact Nat.lt_of_lt_of_le (h.lt k hk) (set_size _ _ _)
  ·exact Nat.lt_of_lt_of_le (hN k hk).2 (set_size _ _ _)
 ·refine Kd.R_mono (Kd.R_far (p := ⟨g, 2, none⟩) hr (fun k hk e => (hN k hk).1 (by have : k = g := e; subst this; exact h.fg)) _) (fun k hk => ⟨.inr hk, fun e => (hN k hk).1 (e ▸ h.fg), fun e => (hN k hk).1 (h.rowo.1 k e.symm).1, fun o ho e => (hN k hk).1 (e ▸ (h.cnt o ho).1)⟩)
 ·exact Kd.R_mono (Kd.R_far (p := ⟨g, 2, none⟩) h.rowo (fun k hk e => hk.2.1 e) _) (fun k hk => ⟨.inl hk.1, hk.2.1, fun e => (hN k (hr.1 k e.symm)).1 hk.1, hk.2.2.2⟩)
 ·exact ⟨.inl (h.cnt o ho).1, (h.cnt o ho).2.1, (h.cnt o ho).2.2.1, (Below.heap_setCell w ⟨g, 2, none⟩ _ _ (h.cnt o ho).2.1).trans (h.cnt o ho).2.2.2⟩
theorem Sd.put (h : Sd w0 w F g wn tr W O nx vw vo) {v2 : Value} {x : It} {n : Int} (hp : w.heap[x.p]? = some (.cells #[.int .i32 n] 71 (0, 0))) (hpF : ¬ F x.p) (hp0 : w0.heap.size ≤ x.p)
  (hr : kIt.R 73 w' w0.heap.size (fun k => (F k ∨ w.heap.size ≤ k) ∧ k ≠ g ∧ some k ≠ vw.ownBlock ∧ ∀ o ∈ O, k ≠ o.1.p) v2 (O.map Prod.fst ++ [x])) (hg : w.grownBy w' vo.ownBlock) (hat : v2.ownBlock = vo.ownBlock ∨ ∃ b, v2.ownBlock = some b ∧ w.heap.size ≤ b) :
  Sd w0 (w'.setCell ⟨g, 3, none⟩ v2) (fun k => (F k ∨ k = x.p ∨ w.heap.size ≤ k) ∧ k < w'.heap.size) g wn tr W (O ++ [(x, n)]) nx vw v2 := by
 have hw0 := below_size h.bl
 have hbase : ∀ k, vo.ownBlock = some k → w0.heap.size ≤ k := fun k hk => Kd.R_base h.rowo k hk
 have hgl := blk_lt h.blk
 have hgw : some g ≠ vo.ownBlock := fun e => (h.rowo.1 g e.symm).2.1 rfl
 have hx := (hg.block g hgl hgw).trans h.blk
 have hpl := blk_lt hp
 have hpg : x.p ≠ g := fun e => hpF (e ▸ h.fg)
 have hpo : some x.p ≠ vo.ownBlock := fun e => hpF (h.rowo.1 _ e.symm).1
 have hsz : w'.heap.size ≤ (w'.setCell ⟨g, 3, none⟩ v2).heap.size := set_size _ _ _
 refine ⟨(pw_below_grown h.bl _ hw0 hg hbase).setCell h.new _, blk_put hx 3 v2 rfl, h.new, fun k hk => Nat.lt_of_lt_of_le hk.2 hsz, ⟨.inl h.fg, blk_lt hx⟩, ?_, ?_, fun o ho => ?_, ?_⟩
 ·have hb := Kd.R_bound h.roww
  refine Kd.R_mono (Kd.R_far (p := ⟨g, 3, none⟩) (Kd.R_grown (Kd.R_mono hb (ok' := fun k => (F k ∧ k ≠ g ∧ some k ≠ vo.ownBlock ∧ ∀ o ∈ O, k ≠ o.1.p) ∧ k < w.heap.size) (fun k hk => ⟨hk.1, hk.2.2.1⟩)) hg (fun k hk => hk.1.2.2.1)) (fun k hk e => hk.1.2.1 e) v2) (fun k hk => ⟨⟨.inl hk.1.1, Nat.lt_of_lt_of_le hk.2 hg.size⟩, hk.1.2.1, fun e => ?_, fun o ho => ?_⟩)
  ·rcases hat with e2 | ⟨b, e2, hbl⟩
   ·exact hk.1.2.2.1 (e.trans e2)
   ·have := Option.some.inj (e.trans e2)
    have := hk.2
    omega
  ·rcases List.mem_append.1 ho with ho | ho
   ·exact hk.1.2.2.2 o ho
   ·rw [List.mem_singleton.1 ho]
    exact fun e => hpF (e ▸ hk.1.1)
 ·rw [List.map_append, List.map_singleton]
  refine Kd.R_mono (Kd.R_far (p := ⟨g, 3, none⟩) (Kd.R_bound hr) (fun k hk e => hk.1.2.1 e) v2) (fun k hk => ⟨⟨?_, hk.2.2.1⟩, hk.1.2.1, hk.1.2.2.1, fun o ho => ?_⟩)
  ·rcases hk.1.1 with e | e
   ·exact .inl e
   ·exact .inr (.inr e)
  ·rcases List.mem_append.1 ho with ho | ho
   ·exact hk.1.2.2.2 o ho
   ·rw [List.mem_singleton.1 ho]
    rintro rfl
    rcases hk.1.1 with e | e
    ·exact hpF e
    ·have e2 : w.heap.size ≤ x.p := e
     omega
 ·rcases List.mem_append.1 ho with ho | ho
  ·obtain ⟨a, b, c, d⟩ := h.cnt o ho
   have hne : some o.1.p ≠ vo.ownBlock := fun e => (h.rowo.1 _ e.symm).2.2.2 o ho rfl
   have hd := (hg.block _ (blk_lt d) hne).trans d
   exact ⟨⟨.inl a, blk_lt hd⟩, b, c, (Below.heap_setCell w' ⟨g, 3, none⟩ v2 o.1.p b).trans hd⟩
  ·rw [List.mem_singleton.1 ho]
   have hd := (hg.block _ hpl hpo).trans hp
   exact ⟨⟨.inr (.inl rfl), blk_lt hd⟩, hpg, hp0, (Below.heap_setCell w' ⟨g, 3, none⟩ v2 x.p hpg).trans hd⟩
 ·refine List.pairwise_append.2 ⟨h.apart, List.pairwise_singleton _ _, fun a ha b hb e => ?_⟩
  rw [List.mem_singleton.1 hb] at e
  exact hpF (e ▸ (h.cnt a ha).1)
theorem Sd.putX (h : Sd w0 w F g wn tr W O nx vw vo) {v2 : Value} {x : It} {n : Int} {m : Nat} (hm : m ≤ x.p) (hmw : m ≤ w.heap.size) (hg : w.grownBy w' vo.ownBlock) (hat : v2.ownBlock = vo.ownBlock ∨ ∃ b, v2.ownBlock = some b ∧ w.heap.size ≤ b) {wm : World} {Fm Rm : Nat → Prop} (hs : SX wm Fm Rm w F (Wr g vw vo O)) (he : m = wm.heap.size) :
  SX wm Fm Rm (w'.setCell ⟨g, 3, none⟩ v2) (fun k => (F k ∨ k = x.p ∨ w.heap.size ≤ k) ∧ k < w'.heap.size) (Wr g vw v2 (O ++ [(x, n)])) := by
 subst he
 refine ⟨Nat.le_trans hs.sz (Nat.le_trans hg.size (set_size _ _ _)), fun k hk hr => ?_, fun k hk => ?_, fun k hk => ?_⟩
 ·have hn : ¬ Wr g vw vo O k := fun e => by
   rcases hs.wr k e with e | e
   ·exact hr e
   ·omega
  exact ((Below.heap_setCell w' ⟨g, 3, none⟩ v2 k (fun e => hn (.inl e))).trans (hg.block k (Nat.lt_of_lt_of_le hk hs.sz) (fun e => hn (.inr (.inr (.inl e)))))).trans (hs.fr k hk hr)
 ·rcases hk.1 with e | e | e
  ·exact hs.fp k e
  ·exact .inr (by omega)
  ·exact .inr (by omega)
 ·rcases hk with e | e | e | ⟨o, ho, e⟩
  ·exact hs.wr k (.inl e)
  ·exact hs.wr k (.inr (.inl e))
  ·rcases hat with e2 | ⟨b, e2, hbl⟩
   ·exact hs.wr k (.inr (.inr (.inl (e.trans e2))))
   ·have := Option.some.inj (e.trans e2)
    exact .inr (by omega)
  ·rcases List.mem_append.1 ho with ho | ho
   ·exact hs.wr k (.inr (.inr (.inr ⟨o, ho, e⟩)))
   ·rw [List.mem_singleton.1 ho] at e
    exact .inr (by rw [e]; exact hm)
end
theorem oneIt_M {w : World} {base h : Nat} {ok : Nat → Prop} {x : It} {v1 : Value} (hv : w.heap[h]? = some (.cells #[.int .i64 x.b.f0, v1, .pointer (some ⟨x.p, 0, none⟩)] 73 (0, 0))) (hr : k34.R 34 w base ok v1 x.b.f1) : ReadsRow (kIt.M w base ok) kIt.sz w (some ⟨h, 0, none⟩) 1 [x] := by
 refine ⟨rfl, by omega, fun _ => ⟨_, rfl, fun j p hp => ?_⟩⟩
 have hj : j = 0 := by have := (List.getElem?_eq_some_iff.1 hp).1; simpa using this
 subst hj
 obtain rfl : x = p := by simpa using hp
 refine ⟨[.int .i64 x.b.f0, v1, .pointer (some ⟨x.p, 0, none⟩)], rfl, kIt_mkM w base ok x hr, fun i u hu => ?_⟩
 rw [show 0 * kIt.sz + i = i by omega, add_plain]
 exact (blk_cell hv i).trans (by simpa using hu)
theorem info73 : (Try.prog.info? 73).map (fun i => (i.zero, i.size, i.bytes)) = some (some (.agg #[(.int .i64 0), (.slice none 0 0), (.pointer none)]), 3, 40) := by kernel_rfl
structure SeX (w0 w w1 : World) (F : Nat → Prop) (g : Nat) (wn tr : Int) (W : List S34) (O : List (It × Int)) (vw vo : Value) (wr : World) (F' : Nat → Prop) (O2 : List (It × Int)) (nx2 : Int) (vo2 : Value) (X : List S48) (v6 : Value) : Prop where
 sd : Sd w0 wr F' g wn tr W O2 nx2 vw vo2
 sx : SX w1 (fun k => F k ∨ (w.heap.size ≤ k ∧ k < w1.heap.size)) (Wr g vw vo O) wr F' (Wr g vw vo2 O2)
 sub : ∀ k, (F k ∨ (w.heap.size ≤ k ∧ k < w1.heap.size)) → F' k
 out : k48.R 48 wr w0.heap.size (fun k => w.heap.size ≤ k) v6 X
 own : ∀ k, v6.ownBlock = some k → w1.heap.size ≤ k ∧ ¬ F' k
structure SeF (w0 w w1 : World) (R : Nat → Prop) : Prop where
 h0 : w0.heap.size ≤ w.heap.size
 h1 : w.heap.size ≤ w1.heap.size
 lt : ∀ k, R k → k < w.heap.size
section
variable {w0 w w1 wr w' wc : World} {F F' : Nat → Prop} {g : Nat} {wn tr nx2 : Int} {W W2 : List S34} {O O2 : List (It × Int)} {vw vo vo2 v6 v2 v3 va : Value} {B X X2 : List S48}
theorem SeX.all (hf : SeF w0 w w1 (Wr g vw vo O)) (h : SeX w0 w w1 F g wn tr W O vw vo wr F' O2 nx2 vo2 X v6) (ha : k48.R 48 w1 w0.heap.size (fun k => w.heap.size ≤ k ∧ k < w1.heap.size) va B) : k48.R 48 wr w0.heap.size (fun k => w.heap.size ≤ k ∧ k < w1.heap.size) va B :=
 Kd.R_step ha (fun k hk _ => h.sx.fr k hk.2 (fun hR => by have := hf.lt k hR; omega))
theorem SeX.notW (hf : SeF w0 w w1 (Wr g vw vo O)) (h : SeX w0 w w1 F g wn tr W O vw vo wr F' O2 nx2 vo2 X v6) : ∀ k, (w.heap.size ≤ k ∧ k < w1.heap.size) → F' k ∧ ¬ Wr g vw vo2 O2 k := fun k hk => ⟨h.sub k (.inr hk), fun hR => by
 rcases h.sx.wr k hR with e | e
 ·have := hf.lt k e; omega
 ·omega⟩
theorem SeX.below (h : SeX w0 w w1 F g wn tr W O vw vo wr F' O2 nx2 vo2 X v6) (hb : Below wr.heap.size wr w') : SeX w0 w w1 F g wn tr W O vw vo w' F' O2 nx2 vo2 X v6 :=
 ⟨h.sd.below hb, h.sx.below hb, h.sub, Kd.R_below h.out hb, h.own⟩
theorem SeX.drew (h : SeX w0 w w1 F g wn tr W O vw vo wr F' O2 nx2 vo2 X v6) : SeX w0 w w1 F g wn tr W O vw vo wr.drew F' O2 nx2 vo2 X v6 := h.below (below_drew (Below.refl _ _))
theorem SeX.outp (hf : SeF w0 w w1 (Wr g vw vo O)) (h : SeX w0 w w1 F g wn tr W O vw vo wr F' O2 nx2 vo2 X v6) (hr : k48.R 48 w' w0.heap.size (fun k => w.heap.size ≤ k) v2 X2) (hg : wr.grownBy w' v6.ownBlock) (hat : v2.ownBlock = v6.ownBlock ∨ ∃ b, v2.ownBlock = some b ∧ wr.heap.size ≤ b) :
  SeX w0 w w1 F g wn tr W O vw vo w' F' O2 nx2 vo2 X2 v2 := by
 have h01 := hf.h0
 have h12 := hf.h1
 refine ⟨h.sd.grown hg (fun k hk => ⟨by have := (h.own k hk).1; omega, (h.own k hk).2⟩), ⟨Nat.le_trans h.sx.sz hg.size, fun k hk hR => ?_, h.sx.fp, h.sx.wr⟩, h.sub, hr, fun k hk => ?_⟩
 ·exact (hg.block k (Nat.lt_of_lt_of_le hk h.sx.sz) (fun e => by have := (h.own k e.symm).1; omega)).trans (h.sx.fr k hk hR)
 ·rcases hat with e | ⟨b, e, hbl⟩
  ·exact h.own k (e ▸ hk)
  ·obtain rfl := Option.some.inj (e.symm.trans hk)
   exact ⟨Nat.le_trans h.sx.sz hbl, fun hF => by have := h.sd.lt _ hF; omega⟩
theorem SeX.setp (hf : SeF w0 w w1 (Wr g vw vo O)) (h : SeX w0 w w1 F g wn tr W O vw vo wr F' O2 nx2 vo2 X v6) {p : Nat} {cs : Array Value} (hp : wr.heap[p]? = some (.cells cs 71 (0, 0))) (hpF : ¬ F' p) (hp1 : w1.heap.size ≤ p) (j : Nat) (u : Value) :
  SeX w0 w w1 F g wn tr W O vw vo (wr.setCell ⟨p, j, none⟩ u) F' O2 nx2 vo2 X v6 := by
 have h01 := hf.h0
 have h12 := hf.h1
 refine ⟨h.sd.keep (fun k hk => Below.heap_setCell wr ⟨p, j, none⟩ u k (fun e => hpF (by have e2 : k = p := e; exact e2 ▸ hk))) (set_size _ _ _) (below_set h.sd.bl (by omega)), ⟨Nat.le_trans h.sx.sz (set_size _ _ _), fun k hk hR => ?_, h.sx.fp, h.sx.wr⟩, h.sub, Kd.R_set h.out hp (by decide) j u, h.own⟩
 exact (Below.heap_setCell wr ⟨p, j, none⟩ u k (fun e => by have e2 : k = p := e; omega)).trans (h.sx.fr k hk hR)
theorem SeX.put (hf : SeF w0 w w1 (Wr g vw vo O)) (h : SeX w0 w w1 F g wn tr W O vw vo wr F' O2 nx2 vo2 X v6) {x : It} {n : Int} (hp : wr.heap[x.p]? = some (.cells #[.int .i32 n] 71 (0, 0))) (hpF : ¬ F' x.p) (hp1 : w1.heap.size ≤ x.p)
  (hr : kIt.R 73 w' w0.heap.size (fun k => (F' k ∨ wr.heap.size ≤ k) ∧ k ≠ g ∧ some k ≠ vw.ownBlock ∧ ∀ o ∈ O2, k ≠ o.1.p) v2 (O2.map Prod.fst ++ [x])) (hg : wr.grownBy w' vo2.ownBlock) (hat : v2.ownBlock = vo2.ownBlock ∨ ∃ b, v2.ownBlock = some b ∧ wr.heap.size ≤ b) :
  SeX w0 w w1 F g wn tr W O vw vo (w'.setCell ⟨g, 3, none⟩ v2) (fun k => (F' k ∨ k = x.p ∨ wr.heap.size ≤ k) ∧ k < w'.heap.size) (O2 ++ [(x, n)]) nx2 v2 X v6 := by
 have h01 := hf.h0
 have h12 := hf.h1
 have hsz := h.sx.sz
 have hgl : some g ≠ vo2.ownBlock := fun e => (h.sd.rowo.1 g e.symm).2.1 rfl
 have hx := (hg.block g (blk_lt h.sd.blk) hgl).trans h.sd.blk
 refine ⟨h.sd.put hp hpF (by omega) hr hg hat, h.sd.putX (m := w1.heap.size) hp1 hsz hg hat h.sx rfl, fun k hk => ⟨.inl (h.sub k hk), Nat.lt_of_lt_of_le (h.sd.lt k (h.sub k hk)) hg.size⟩, Kd.R_set (Kd.R_over' h.out (Kd.R_typed h.sd.rowo) (by decide) hg) hx (by decide) 3 v2, fun k hk => ⟨(h.own k hk).1, fun hF => ?_⟩⟩
 have hkl := Kd.R_lt h.out k hk
 rcases hF.1 with e | e | e
 ·exact (h.own k hk).2 e
 ·obtain ⟨cells, hc⟩ := Kd.R_typed h.out k hk
  rw [e, hp] at hc
  simp at hc
 ·omega
theorem SeX.setN (h : SeX w0 w w1 F g wn tr W O vw vo wr F' O2 nx2 vo2 X v6) (n2 : Int) : SeX w0 w w1 F g wn tr W O vw vo (wr.setCell ⟨g, 4, none⟩ (.int .i64 n2)) F' O2 n2 vo2 X v6 :=
 ⟨h.sd.setN n2, h.sx.trans (SX.set wr F' _ 4 _ (.inl rfl)), h.sub, Kd.R_set h.out h.sd.blk (by decide) 4 _, h.own⟩
theorem SeX.fin (hf : SeF w0 w w1 (Wr g vw vo O)) (hF : ∀ k, F k → k < w.heap.size) (hw : ∀ k, vw.ownBlock = some k → F k) (h : SeX w0 w w1 F g wn tr W O vw vo wr F' O2 nx2 vo2 X v6) (hb : Below wr.heap.size wr wc) (hr : k34.R 34 wc wr.heap.size (fun _ => True) v3 W2) (h1 : Below w.heap.size w w1) :
  ∃ F'', Sd w0 (wc.setCell ⟨g, 2, none⟩ v3) F'' g wn tr W2 O2 nx2 v3 vo2 ∧ SX w F (Wr g vw vo O) (wc.setCell ⟨g, 2, none⟩ v3) F'' (Wr g v3 vo2 O2) ∧ k48.R 48 (wc.setCell ⟨g, 2, none⟩ v3) w0.heap.size (fun k => w.heap.size ≤ k ∧ ¬ Wr g v3 vo2 O2 k) v6 X ∧ ∀ k, v6.ownBlock = some k → w.heap.size ≤ k ∧ ¬ F'' k := by
 have h01 := hf.h0
 have h12 := hf.h1
 have hsz := h.sx.sz
 have hc := h.below hb
 have hN : ∀ k, (wr.heap.size ≤ k ∧ k < wc.heap.size) → ¬ F' k ∧ k < wc.heap.size := fun k hk => ⟨fun e => by have := h.sd.lt k e; omega, hk.2⟩
 have hr' : k34.R 34 wc w0.heap.size (fun k => wr.heap.size ≤ k ∧ k < wc.heap.size) v3 W2 := Kd.R_lower (Kd.R_mono (Kd.R_bound hr) (fun k hk => ⟨hk.2.1, hk.2.2.1⟩)) (below_size h.sd.bl)
 have h3 : ∀ k, v3.ownBlock = some k → wr.heap.size ≤ k := fun k hk => (hr'.1 k hk).1
 refine ⟨_, hc.sd.setW hN hr', ?_, ?_, fun k hk => ⟨by have := (h.own k hk).1; omega, fun e => ?_⟩⟩
 ·have s0 : SX w F (Wr g vw vo O) w1 (fun k => F k ∨ (w.heap.size ≤ k ∧ k < w1.heap.size)) (Wr g vw vo O) := ⟨h1.size, fun k hk _ => h1.block k hk, fun k hk => hk.imp id (fun e => e.1), fun k hk => .inl hk⟩
  refine s0.trans (h.sx.trans ⟨Nat.le_trans hb.size (set_size _ _ _), fun k hk hR => (Below.heap_setCell wc ⟨g, 2, none⟩ v3 k (fun e => hR (.inl e))).trans (hb.block k hk), fun k hk => hk.imp id (fun e => e.1), fun k hk => ?_⟩)
  rcases hk with e | e | e | e
  ·exact .inl (.inl e)
  ·exact .inr (h3 k e.symm)
  ·exact .inl (.inr (.inr (.inl e)))
  ·exact .inl (.inr (.inr (.inr e)))
 ·have hb0 : k48.R 48 wr w0.heap.size (fun k => w.heap.size ≤ k ∧ ¬ Wr g v3 vo2 O2 k) v6 X := by
   refine Kd.R_mono (Kd.R_bound h.out) (fun k hk => ⟨hk.1, ?_⟩)
   obtain ⟨_, _, hlt, q, hq, cells, hcell⟩ := hk
   have q1 : ∀ q ∈ 48 :: k48.E, q ≠ 63 := by decide
   have q2 : ∀ q ∈ 48 :: k48.E, q ≠ 73 := by decide
   have q3 : ∀ q ∈ 48 :: k48.E, q ≠ 71 := by decide
   rintro (e | e | e | ⟨o, ho, e⟩)
   ·rw [e, h.sd.blk] at hcell
    simp at hcell
    exact q1 q hq hcell.2.symm
   ·have := h3 k e.symm
    omega
   ·obtain ⟨c2, hc2⟩ := Kd.R_typed h.sd.rowo k e.symm
    rw [hc2] at hcell
    simp at hcell
    exact q2 q hq hcell.2.symm
   ·rw [e, (h.sd.cnt o ho).2.2.2] at hcell
    simp at hcell
    exact q3 q hq hcell.2.symm
  exact Kd.R_far (p := ⟨g, 2, none⟩) (Kd.R_below hb0 hb) (fun k hk e => hk.2 (.inl e)) _
 ·rcases e with e | e
  ·exact (h.own k hk).2 e
  ·have := Kd.R_lt h.out k hk
   omega
theorem SeX.inn (hf : SeF w0 w w1 (Wr g vw vo O)) (h : SeX w0 w w1 F g wn tr W O vw vo wr F' O2 nx2 vo2 X v6) {v : Value} {Y : List S34} (ha : k34.R 34 w1 w0.heap.size (fun k => w.heap.size ≤ k ∧ k < w1.heap.size) v Y) : k34.R 34 wr w0.heap.size (fun k => w.heap.size ≤ k ∧ k < w1.heap.size) v Y :=
 Kd.R_step ha (fun k hk _ => h.sx.fr k hk.2 (fun hR => by have := hf.lt k hR; omega))
theorem SeX.at {A : Option Addr} {n c : Nat} (hf : SeF w0 w w1 (Wr g vw vo O)) (h : SeX w0 w w1 F g wn tr W O vw vo wr F' O2 nx2 vo2 X v6) (ha : k48.R 48 w1 w0.heap.size (fun k => w.heap.size ≤ k ∧ k < w1.heap.size) (.slice A n c) B) (i : Int) (h0 : 0 ≤ i) (h1 : i < n) :
  ∃ ad A1 c1, A = some ad ∧ wr.cell? (ad.add (i.toNat * 2)) = some (.int .i64 (rd_T48 B i).f0) ∧ wr.cell? ⟨(ad.add (i.toNat * 2)).block, (ad.add (i.toNat * 2)).off + 1, none⟩ = some (.slice A1 (rd_T48 B i).f1.length c1) ∧ k34.R 34 w1 w0.heap.size (fun k => w.heap.size ≤ k ∧ k < w1.heap.size) (.slice A1 (rd_T48 B i).f1.length c1) (rd_T48 B i).f1 := by
 obtain ⟨ad, A1, c1, rfl, x0, x1, hi⟩ := at_BM ha i h0 h1
 have hn := (Kd.R_reads' ha).1
 obtain ⟨gq, cap, ev, _, _⟩ := Kd.R_form ha (by omega)
 injection ev with ea en ec
 cases ea
 have hP := ha.1 gq (by simp [Value.ownBlock])
 have hh : wr.heap[gq]? = w1.heap[gq]? := h.sx.fr gq hP.2 (fun hR => by have := hf.lt gq hR; omega)
 have e1 : (⟨gq, 0, none⟩ : Addr).add (i.toNat * 2) = ⟨gq, i.toNat * 2, none⟩ := add_plain gq (i.toNat * 2)
 rw [e1] at x0 x1
 exact ⟨_, A1, c1, rfl, by rw [e1]; exact (World.cell?_of_block hh).trans x0, by rw [e1]; exact (World.cell?_of_block hh).trans x1, Kd.R_mono hi (fun k hk => hk.1)⟩
theorem SeX.szw (hf : SeF w0 w w1 (Wr g vw vo O)) (h : SeX w0 w w1 F g wn tr W O vw vo wr F' O2 nx2 vo2 X v6) : w.heap.size ≤ wr.heap.size := Nat.le_trans hf.h1 h.sx.sz
end
theorem Sd.freshO {w0 w : World} {F : Nat → Prop} {g : Nat} {wn tr nx : Int} {W : List S34} {O : List (It × Int)} {vw vo : Value} (h : Sd w0 w F g wn tr W O nx vw vo) : ∀ k, w.heap.size ≤ k → (F k ∨ w.heap.size ≤ k) ∧ k ≠ g ∧ some k ≠ vw.ownBlock ∧ ∀ o ∈ O, k ≠ o.1.p := fun k hk =>
 ⟨.inr hk, fun e => by have := blk_lt h.blk; omega, fun e => by have := Kd.R_lt h.roww k e.symm; omega, fun o ho e => by have := blk_lt (h.cnt o ho).2.2.2; omega⟩
def wire_bytes.f (v n : Int) : Option (List Int) := if 0 ≤ v ∧ 1 ≤ n ∧ n ≤ 8 then some (be n.toNat v) else none
theorem store_any (g : Nat) (u : Value) (v : Int) (w : World) (hb : w.heap[g]? = some (.cells #[u] 120 (0, 0))) :
  Calls Try.prog 75 #[.pointer (some ⟨g, 0, none⟩), .int .u64 v] w fun e w' => e = .returned (.tuple #[]) ∧ w.setCell ⟨g, 0, none⟩ (.int .u64 v) = w' := by
 have hc : w.cell? ⟨g, 0, none⟩ = some u := by rw [blk_cell hb]; rfl
 have hz : w.frozen? ⟨g, 0, none⟩ = false := blk_frozen hb 0
 have hst := fun y => run_call_store (P := Try.prog) Try.func77 (by kernel_rfl) (by kernel_rfl) (by kernel_rfl) (by kernel_rfl) (k := .u64) (y := y) hc hz
 clear hb
 go_enter Try.func75, Try.ntmps75
 go_wp2
 go_end0
 exact ⟨rfl, rfl⟩
theorem low_any (g : Nat) (v : Int) (w : World) (h0 : 0 ≤ v) (hb : w.heap[g]? = some (.cells #[.int .u64 v] 120 (0, 0))) :
  Calls Try.prog 76 #[.pointer (some ⟨g, 0, none⟩)] w fun e w' => e = .returned (.int .u8 (v % 256)) ∧ w.setCell ⟨g, 0, none⟩ (.int .u64 (v / 256)) = w' := by
 have hc : w.cell? ⟨g, 0, none⟩ = some (.int .u64 v) := by rw [blk_cell hb]; rfl
 have hz : w.frozen? ⟨g, 0, none⟩ = false := blk_frozen hb 0
 have hld := run_call_load (P := Try.prog) Try.func79 (by kernel_rfl) (by kernel_rfl) (by kernel_rfl) .u64 (by kernel_rfl) hc
 have hst := fun y => run_call_store (P := Try.prog) Try.func77 (by kernel_rfl) (by kernel_rfl) (by kernel_rfl) (by kernel_rfl) (k := .u64) (y := y) hc hz
 clear hb
 go_enter Try.func76, Try.ntmps76
 go_wp2
 go_end0
 go_wp2
 go_ret
 exact ⟨rfl, rfl⟩
theorem wire_bytes.calls (a0 : Int) (a1 : Int) (r : List Int) (w : World) (h : wire_bytes.f a0 a1 = some r) :
  Calls Try.prog 73 #[.int .u64 a0, .int .i64 a1] w fun e w' => ∃ v0_ : Value, e = .returned (v0_) ∧ Kd.R (Kd.int .u8) 5 w' w.heap.size (fun _ => True) v0_ r ∧ Below w.heap.size w w' := by
 have hh : (0 ≤ a0 ∧ 1 ≤ a1 ∧ a1 ≤ 8) ∧ be a1.toNat a0 = r := by
  unfold wire_bytes.f at h
  split at h
  ·rename_i hc
   exact ⟨hc, Option.some.inj h⟩
  ·exact absurd h (by simp)
 clear h
 obtain ⟨⟨h0, h1, h2⟩, rfl⟩ := hh
 obtain ⟨n, rfl⟩ := Int.eq_ofNat_of_zero_le (show 0 ≤ a1 by omega)
 have hp : 0 < n := by omega
 have h2' : n ≤ 8 := by omega
 clear h1 h2
 simp only [Int.toNat_natCast]
 have H0 := Aside0.mk h0
 clear h0
 have hn0 : (0 : Int) ≤ (n : Int) := by omega
 have hn1 : (n : Int) ≤ 8 := by omega
 go_enter Try.func73, Try.ntmps73
 go_wp2_with (((with_reducible refine gate_dst (N := 9) rfl ?_); refine box_event ?hg (N := 9) ?hd (cs := #[.int .u64 0]) (t := 120) ?hr ?_; (case hd => rfl); (case hg => rfl); (case hr => first | (go_simp; done) | (go_simp; rfl)); intro gb hgb w1 hbox hb1; have HBX := Aside0.mk hbox; have HB := Aside0.mk (Below.trans (Below.refl w.heap.size w) hb1); have HG := Aside0.mk (show w.heap.size ≤ gb by rw [hgb]; exact Nat.le_refl _); clear hbox hb1 hgb))
 refine (store_any gb _ a0 _ HBX.out).mono ?_
 rintro e w2 ⟨rfl, hw2⟩
 have HBX2 := Aside0.mk (show w2.heap[gb]? = some (.cells #[.int .u64 a0] 120 (0, 0)) by rw [← hw2]; exact blk_put HBX.out 0 _ rfl)
 have HB2 := Aside0.mk (show Below w.heap.size w w2 by rw [← hw2]; exact below_set HB.out HG.out)
 clear hw2 HBX HB
 go_wp2_with (((with_reducible refine gate_dst (N := 16) rfl ?_); refine Kd.R_make (Kd.int .u8) _ 5 rfl (N := 16) rfl 107 _ _ rfl (n : Int) rfl rfl Try.underlying107 (.int .u8 0) 1 info5 rfl (by decide) (by omega) 0 (ok := fun k => k ≠ gb) (okp := fun _ => False) rfl (fun _ hk => hk.elim) (fun he => absurd (blk_lt HBX2.out) (by rw [← he]; exact Nat.lt_irrefl _)) (by omega) (by simp only [Int.toNat_natCast]; omega) (Below.refl _ _) (Nat.le_refl _) ?_; intro v3 w3 ho hb3 hg3 hnew; clear hnew; simp only [Int.toNat_natCast] at ho; obtain ⟨gs, cs, hv3, hgs, hls, hcs⟩ := Kd.R_form ho (by rw [List.length_replicate]; exact hp); rw [List.length_replicate] at hv3; clear hls hcs; rw [hv3] at ho ⊢; clear hv3; have HO := Aside0.mk (Kd.R_lower ho HB2.out.size); have HBX3 := Aside0.mk (blk_grown HBX2.out hg3 (by simp)); have HB3 := Aside0.mk (below_step HB2.out hb3); have HGS := Aside0.mk (Nat.le_trans HB2.out.size hgs); have HNE := Aside0.mk (show gs ≠ gb from ho.1 gs (by simp [Value.ownBlock])); clear ho hb3 hgs hg3 HBX2 HB2))
 go_loopg [19] n (fun kq v19 wr => ∃ (i : Nat), v19 = .int .i64 i ∧ Aside0 (i + kq = n) ∧ Aside0 (Kd.R (Kd.int .u8) 5 wr w.heap.size (fun k => k ≠ gb) (.slice (some ⟨gs, 0, none⟩) n cs) (List.replicate (n - i) 0 ++ be i a0)) ∧ Aside0 (wr.heap[gb]? = some (.cells #[.int .u64 (a0 / 256 ^ i)] 120 (0, 0))) ∧ Aside0 (Below w.heap.size w wr))
 case atStart => exact ⟨0, rfl, ⟨by omega⟩, ⟨by simpa [be] using HO.out⟩, ⟨by simpa using HBX3.out⟩, HB3⟩
 case round =>
  clear HO HBX3 HB3
  obtain ⟨i, rfl, HI, HO, HBX, HB⟩ := hrel
  cases gk with
  | zero =>
   have hi : i = n := by have := HI.out; omega
   subst hi
   go_wp2
   go_ret
   refine ⟨_, rfl, ?_, HB.out⟩
   have h := HO.out
   rw [Nat.sub_self, List.replicate_zero, List.nil_append] at h
   exact Kd.R_mono h (fun _ _ => trivial)
  | succ k1 =>
   have hlt : i < n := by have := HI.out; omega
   have hi0 : (0 : Int) ≤ (n : Int) - 1 - (i : Int) := by omega
   have hi1 : (n : Int) - 1 - (i : Int) < (n : Int) := by omega
   have hs1 : (0 : Int) ≤ (n : Int) - 1 := by omega
   have hb0 : (0 : Int) ≤ (i : Int) := by omega
   have HA0 := Aside0.mk (show 0 ≤ a0 / 256 ^ i from Int.ediv_nonneg H0.out (by exact Int.pow_nonneg (by decide)))
   go_wp2_with (go_at_call 76; (refine (low_any gb (a0 / 256 ^ i) _ HA0.out HBX.out).mono ?_); rintro e w4 ⟨rfl, hw4⟩; have HBX4 := Aside0.mk (show w4.heap[gb]? = some (.cells #[.int .u64 (a0 / 256 ^ i / 256)] 120 (0, 0)) by rw [← hw4]; exact blk_put HBX.out 0 _ rfl); have HB4 := Aside0.mk (show Below w.heap.size w w4 by rw [← hw4]; exact below_set HB.out HG.out); have HO4 := Aside0.mk (show Kd.R (Kd.int .u8) 5 w4 w.heap.size (fun k => k ≠ gb) (.slice (some ⟨gs, 0, none⟩) n cs) (List.replicate (n - i) 0 ++ be i a0) by rw [← hw4]; exact Kd.R_far HO.out (fun _ hk => hk) _); clear hw4; obtain ⟨hx4, hf4⟩ := Kd.R_celln 0 HO4.out ((n - 1 - i : Nat) : Int) (by omega) (by omega); simp only [Int.toNat_natCast] at hx4 hf4)
   go_roundg k1
   case measure => omega
   case rel =>
    have hp4 := (Kd.R_putg HO4.out ((n - 1 - i : Nat) : Int) (a0 / 256 ^ i % 256)).1
    simp only [Int.toNat_natCast] at hp4
    refine ⟨i + 1, by simp, ⟨by have := HI.out; omega⟩, ⟨?_⟩, ⟨?_⟩, ⟨below_set HB4.out HGS.out⟩⟩
    ·rw [show n - i = (n - 1 - i) + 1 by omega, be_set, show n - 1 - i = n - (i + 1) by omega] at hp4
     rw [be_cons, show n - 1 - i = n - (i + 1) by omega]
     exact hp4
    ·rw [Int.pow_succ, ← Int.ediv_ediv_of_nonneg (Int.pow_nonneg (by decide))]
     exact blk_far HBX4.out (fun e => HNE.out e.symm) _
end Go.Proofs.Ytclbempnhelmoaa.P
namespace Go.Proofs.Ytclbempnhelmoaa.P
open Go.RowKit YtclbempnhelmoaaW.PrintWords YtclbempnhelmoaaW.PrintLast YtclbempnhelmoaaW.PrintMore
open YtclbempnhelmoaaW.PrintWords renaming below_alloc → YA, pw_below_drewN → YB, below_drew1 → YC, below_step → YD, blk_cell → YE, blk_frozen → YF
open YtclbempnhelmoaaW.PrintWords.Aside0 renaming mk → YG
attribute [local go_sem] max2_int min2_int max_two min_two max_three min_three max_four min_four
def batch_wrong.f (k : Nat) (a0_0 : Int) (a0_1 : Int) (a0_2 : Bool) (a0_3 : Int) (a0_4 : Int) (a0_5 : Int) (a0_6 : Int) (a0_7 : Int) (a0_8 : Int) (a0_9 : Int) (a0_10 : Int) (a0_11 : Int) : Option (Bool) := (object_Check.f k a0_0 a0_1 a0_2 a0_3 a0_4 a0_5 a0_6 a0_7 a0_8 a0_9 a0_10 a0_11).bind fun t148 => (some (t148 != 0))
theorem batch_wrong.mono : ∀ a0 a1 a2 a3 a4 a5 a6 a7 a8 a9 a10 a11 k, LeO (batch_wrong.f k a0 a1 a2 a3 a4 a5 a6 a7 a8 a9 a10 a11) (batch_wrong.f (k + 1) a0 a1 a2 a3 a4 a5 a6 a7 a8 a9 a10 a11) := by
 intro a0 a1 a2 a3 a4 a5 a6 a7 a8 a9 a10 a11 k
 unfold batch_wrong.f
 repeat' first
   | (with_reducible exact object_Check.mono _ _ _ _ _ _ _ _ _ _ _ _ _)
   | (with_reducible exact LeO.refl _)
   | (with_reducible exact LeO.none _)
   | (with_reducible refine LeO.ite ?_ ?_)
   | (with_reducible refine LeO.bind ?_ (fun _ => ?_))
   | exact object_Check.mono _ _ _ _ _ _ _ _ _ _ _ _ _
   | exact LeO.none _
   | refine LeO.ite ?_ ?_
   | refine LeO.bind ?_ (fun _ => ?_)
theorem batch_wrong.calls (k : Nat) (a0_0 : Int) (a0_1 : Int) (a0_2 : Bool) (a0_3 : Int) (a0_4 : Int) (a0_5 : Int) (a0_6 : Int) (a0_7 : Int) (a0_8 : Int) (a0_9 : Int) (a0_10 : Int) (a0_11 : Int) (r : Bool) (w : World) (h : batch_wrong.f k a0_0 a0_1 a0_2 a0_3 a0_4 a0_5 a0_6 a0_7 a0_8 a0_9 a0_10 a0_11 = some r) :
  Calls Try.prog 51 #[.agg #[.int .i64 a0_0, .int .i64 a0_1, .bool a0_2, .int .i64 a0_3, .int .i64 a0_4, .int .i64 a0_5, .int .i64 a0_6, .int .i64 a0_7, .int .i64 a0_8, .int .i64 a0_9, .int .i64 a0_10, .int .i64 a0_11]] w fun e w' => e = .returned (.bool r) ∧ Below w.heap.size w w' := by
 have hu34 := Try.underlying34
 have HB := YG (Below.refl w.heap.size w)
 have H : ((object_Check.f k a0_0 a0_1 a0_2 a0_3 a0_4 a0_5 a0_6 a0_7 a0_8 a0_9 a0_10 a0_11).bind fun t148 => (some (t148 != 0))) = some r := h
 clear h; replace H := Option.bind_eq_some_iff.mp H; obtain ⟨t148, A20, H⟩ := H
 replace H : (some (t148 != 0)) = some r := H
 have A2 := YG A20; clear A20
 obtain rfl := Option.some.inj H
 go_enter Try.func51, Try.ntmps51
 go_wp2_with (first | ((with_reducible refine gate_dst (N := 1) rfl ?_); refine box_event ?hg (N := 1) ?hd (cs := #[.int .i64 a0_0, .int .i64 a0_1, .bool a0_2, .int .i64 a0_3, .int .i64 a0_4, .int .i64 a0_5, .int .i64 a0_6, .int .i64 a0_7, .int .i64 a0_8, .int .i64 a0_9, .int .i64 a0_10, .int .i64 a0_11]) (t := 34) ?hr ?_; (case hd => rfl); (case hg => rfl); (case hr => first | (go_simp; done) | (go_simp; rfl)); intro gb147 hg w3 hbox hb; have n0_ := YG (YD (by repeat (first | (with_reducible first | exact HB.out | apply YA | apply YB | apply YC) | exact HB.out)) hb); have n1_ := YG (hbox); have n2_ := YG ((by rw [hg]; exact (below_size (by repeat (first | (with_reducible first | exact HB.out | apply YA | apply YB | apply YC) | exact HB.out))) : w.heap.size ≤ gb147)); have n3_ := YG ((by rw [hg]; exact (below_size (by repeat (first | (with_reducible first | exact HB.out | apply YA | apply YB | apply YC) | exact HB.out))) : w.heap.size ≤ gb147)); clear HB; have HB := n0_; have BK147 := n1_; have GW147 := n2_; have GE147 := n3_; clear n0_ n1_ n2_ n3_; clear hb hbox hg; have q4_0 : w3.cell? ⟨gb147, 0, none⟩ = some (.int .i64 a0_0) := (YE BK147.out 0).trans rfl; have q4_1 : w3.cell? ⟨gb147, 1, none⟩ = some (.int .i64 a0_1) := (YE BK147.out 1).trans rfl; have q4_2 : w3.cell? ⟨gb147, 2, none⟩ = some (.bool a0_2) := (YE BK147.out 2).trans rfl; have q4_3 : w3.cell? ⟨gb147, 3, none⟩ = some (.int .i64 a0_3) := (YE BK147.out 3).trans rfl; have q4_4 : w3.cell? ⟨gb147, 4, none⟩ = some (.int .i64 a0_4) := (YE BK147.out 4).trans rfl; have q4_5 : w3.cell? ⟨gb147, 5, none⟩ = some (.int .i64 a0_5) := (YE BK147.out 5).trans rfl; have q4_6 : w3.cell? ⟨gb147, 6, none⟩ = some (.int .i64 a0_6) := (YE BK147.out 6).trans rfl; have q4_7 : w3.cell? ⟨gb147, 7, none⟩ = some (.int .i64 a0_7) := (YE BK147.out 7).trans rfl; have q4_8 : w3.cell? ⟨gb147, 8, none⟩ = some (.int .i64 a0_8) := (YE BK147.out 8).trans rfl; have q4_9 : w3.cell? ⟨gb147, 9, none⟩ = some (.int .i64 a0_9) := (YE BK147.out 9).trans rfl; have q4_10 : w3.cell? ⟨gb147, 10, none⟩ = some (.int .i64 a0_10) := (YE BK147.out 10).trans rfl; have q4_11 : w3.cell? ⟨gb147, 11, none⟩ = some (.int .i64 a0_11) := (YE BK147.out 11).trans rfl; have f4_0 := YF BK147.out 0; have f4_1 := YF BK147.out 1; have f4_2 := YF BK147.out 2; have f4_3 := YF BK147.out 3; have f4_4 := YF BK147.out 4; have f4_5 := YF BK147.out 5; have f4_6 := YF BK147.out 6; have f4_7 := YF BK147.out 7; have f4_8 := YF BK147.out 8; have f4_9 := YF BK147.out 9; have f4_10 := YF BK147.out 10; have f4_11 := YF BK147.out 11) | ((with_reducible refine gate_callee (f := 26) rfl ?_); refine goesL_ (some 4) rfl rfl Try.func26 (by kernel_rfl) rfl #[.agg #[.int .i64 a0_0, .int .i64 a0_1, .bool a0_2, .int .i64 a0_3, .int .i64 a0_4, .int .i64 a0_5, .int .i64 a0_6, .int .i64 a0_7, .int .i64 a0_8, .int .i64 a0_9, .int .i64 a0_10, .int .i64 a0_11]] rfl (by (try simp only [List.map_toArray, List.map_cons, List.map_nil]); first | done | rfl | (simp only [List.length_drop, List.length_take]; rfl)) ?_; (with_reducible refine (object_Check.calls k a0_0 a0_1 a0_2 a0_3 a0_4 a0_5 a0_6 a0_7 a0_8 a0_9 a0_10 a0_11 t148 _ A2.out).mono ?_); rintro e w5 ⟨rfl, hb⟩; refine ⟨_, rfl, ?_⟩; have n0_ := YG (blk_below (g := gb147) (o := .cells #[.int .i64 a0_0, .int .i64 a0_1, .bool a0_2, .int .i64 a0_3, .int .i64 a0_4, .int .i64 a0_5, .int .i64 a0_6, .int .i64 a0_7, .int .i64 a0_8, .int .i64 a0_9, .int .i64 a0_10, .int .i64 a0_11] 34 (0, 0)) (by (with_reducible repeat (first | refine blk_drewN ?_ _ | refine blk_drew ?_ | refine blk_alloc ?_ _)); exact BK147.out) hb); have n1_ := YG (YD (by repeat (first | (with_reducible first | exact HB.out | apply YA | apply YB | apply YC | refine below_set ?_ GE147.out) | exact HB.out)) hb); clear BK147; clear HB; have BK147 := n0_; have HB := n1_; clear n0_ n1_; (try clear hb); (try clear hb2); (try clear hk); (try clear hi)))
 go_ret
 exact ⟨by first | rfl | (simp [errW_none, errW_some] <;> rfl) | (simp [*, errW_none, errW_some] <;> rfl), by repeat (first | (with_reducible first | exact HB.out | apply YA | apply YB | apply YC | refine below_set ?_ GE147.out) | exact HB.out)⟩
def api_Object_66.l0 : Nat → List (S34) → Int → Int → Option (Int)
 | 0, _, _, _ => none
 | k + 1, x0, x7, x8 => if x8 < x7 then (if 0 ≤ x8 then (if x8 < (x0.length : Int) then ((batch_wrong.f k ((rd_T34 x0 x8).f0) ((rd_T34 x0 x8).f1) ((rd_T34 x0 x8).f2.f0) ((rd_T34 x0 x8).f2.f1) ((rd_T34 x0 x8).f2.f2) ((rd_T34 x0 x8).f2.f3) ((rd_T34 x0 x8).f2.f4) ((rd_T34 x0 x8).f2.f5) ((rd_T34 x0 x8).f3.f0) ((rd_T34 x0 x8).f3.f1) ((rd_T34 x0 x8).f3.f2) ((rd_T34 x0 x8).f4)).bind fun t150 => (if t150 = true then (some x8) else (api_Object_66.l0 k x0 x7 (wrap64 (x8 + 1))))) else (none)) else (none)) else (some (-1))
def api_Object_66.f (k : Nat) (l0 : List (S34))  : Option (Int) := api_Object_66.l0 k l0 (l0.length : Int) 0
theorem api_Object_66.mono_l : ∀ k, (∀ y0 y1 y2, LeO (api_Object_66.l0 k y0 y1 y2) (api_Object_66.l0 (k + 1) y0 y1 y2))
 | 0 => fun _ _ _ r h => by simp [api_Object_66.l0] at h
 | k + 1 => by
  have ih0 := api_Object_66.mono_l k
  ·intro y0 y1 y2
   unfold api_Object_66.l0
   repeat' first
   | (with_reducible exact ih0 _ _ _)
   | (with_reducible exact batch_wrong.mono _ _ _ _ _ _ _ _ _ _ _ _ _)
   | (with_reducible exact LeO.refl _)
   | (with_reducible exact LeO.none _)
   | (with_reducible refine LeO.ite ?_ ?_)
   | (with_reducible refine LeO.bind ?_ (fun _ => ?_))
   | exact ih0 _ _ _
   | exact batch_wrong.mono _ _ _ _ _ _ _ _ _ _ _ _ _
   | exact LeO.none _
   | refine LeO.ite ?_ ?_
   | refine LeO.bind ?_ (fun _ => ?_)
theorem api_Object_66.mono : ∀ a0 k, LeO (api_Object_66.f k a0) (api_Object_66.f (k + 1) a0) := by
 intro a0 k
 have ih0 := api_Object_66.mono_l k
 unfold api_Object_66.f
 repeat' first
   | (with_reducible exact ih0 _ _ _)
   | (with_reducible exact batch_wrong.mono _ _ _ _ _ _ _ _ _ _ _ _ _)
   | (with_reducible exact LeO.refl _)
   | (with_reducible exact LeO.none _)
   | (with_reducible refine LeO.ite ?_ ?_)
   | (with_reducible refine LeO.bind ?_ (fun _ => ?_))
   | exact ih0 _ _ _
   | exact batch_wrong.mono _ _ _ _ _ _ _ _ _ _ _ _ _
   | exact LeO.none _
   | refine LeO.ite ?_ ?_
   | refine LeO.bind ?_ (fun _ => ?_)
theorem api_Object_66.calls (k : Nat) (A0 : Option Addr) (c0 : Nat) (l0 : List (S34))  (r : Int) (w : World) (hr0 : Kd.C k34 w A0 l0.length l0) (hc0 : l0.length ≤ c0) (h : api_Object_66.f k l0 = some r) :
  Calls Try.prog 66 #[.slice A0 l0.length c0, .func (Fn.func 51) #[] #[]] w fun e w' => e = .returned (.int .i64 r) ∧ Below w.heap.size w w' := by
 have hu34 := Try.underlying34
 have HR0 := YG hr0; have HC0 := YG hc0; clear hr0 hc0
 have HB := YG (Below.refl w.heap.size w)
 have H : (api_Object_66.l0 k l0 (l0.length : Int) 0) = some r := h
 clear h
 have H' := YG H
 clear H
 go_enter Try.func66, Try.ntmps66
 go_wp2
 go_loopg [8] k (fun kq v8 w' => ∃ (x8_1 : Int), v8 = .int .i64 x8_1 ∧ Aside0 (api_Object_66.l0 kq l0 (l0.length : Int) x8_1 = some r) ∧ Aside0 (kq ≤ k) ∧ Aside0 (Below w.heap.size w w'))
 case atStart => exact ⟨(0), (by first | rfl | (simp; done) | (simp [*]; done)), H', ⟨Nat.le_refl _⟩, ⟨by repeat (first | (with_reducible first | exact HB.out | apply YA | apply YB | apply YC) | exact HB.out)⟩⟩
 case round =>
  clear H'
  try clear p2
  obtain ⟨x8_1, rfl, HA, HK1, HB⟩ := hrel
  cases gk with
  | zero => exact absurd HA.out (by simp [api_Object_66.l0])
  | succ k1 =>
   have H := HA.out
   clear HA
   simp only [api_Object_66.l0] at H
   by_cases c3 : x8_1 < (l0.length : Int)
   ·rw [if_pos c3] at H
    have c3b0 : decide (x8_1 < (l0.length : Int)) = true := decide_eq_true c3
    clear c3
    by_cases c4 : 0 ≤ x8_1
    rotate_left
    ·rw [if_neg c4] at H
     exact absurd H (by simp)
    rw [if_pos c4] at H; have c4b0 : decide (0 ≤ x8_1) = true := decide_eq_true c4; clear c4
    by_cases c5 : x8_1 < (l0.length : Int)
    rotate_left
    ·rw [if_neg c5] at H
     exact absurd H (by simp)
    rw [if_pos c5] at H
    have c5b0 : decide (x8_1 < (l0.length : Int)) = true := decide_eq_true c5
    clear c5; replace H := Option.bind_eq_some_iff.mp H; obtain ⟨t150, A60, H⟩ := H
    replace H : (if t150 = true then (some x8_1) else (api_Object_66.l0 k1 l0 (l0.length : Int) (wrap64 (x8_1 + 1)))) = some r := H
    have A6 := YG A60; clear A60
    by_cases c7 : t150 = true
    ·subst c7
     have H1 : (some x8_1) = some r := by rw [if_pos rfl] at H; exact H
     clear H
     have H := H1
     clear H1
     obtain rfl := Option.some.inj H
     have p149 : 0 ≤ (x8_1 : Int) := of_decide_eq_true (by first | (with_reducible assumption) | assumption)
     have q149 : x8_1 < (l0.length : Int) := of_decide_eq_true (by first | (with_reducible assumption) | assumption)
     obtain ⟨ad149, e149, hx149_0, hx149_1, hx149_2, hx149_3, hx149_4, hx149_5, hx149_6, hx149_7, hx149_8, hx149_9, hx149_10, hx149_11⟩ := at_T34 HR0.out x8_1 p149 q149
     cases e149
     replace hx149_0 := (HB.out.cell (World.block_lt_of_cell? w _ hx149_0)).trans hx149_0
     replace hx149_1 := (HB.out.cell (World.block_lt_of_cell? w _ hx149_1)).trans hx149_1
     replace hx149_2 := (HB.out.cell (World.block_lt_of_cell? w _ hx149_2)).trans hx149_2
     replace hx149_3 := (HB.out.cell (World.block_lt_of_cell? w _ hx149_3)).trans hx149_3
     replace hx149_4 := (HB.out.cell (World.block_lt_of_cell? w _ hx149_4)).trans hx149_4
     replace hx149_5 := (HB.out.cell (World.block_lt_of_cell? w _ hx149_5)).trans hx149_5
     replace hx149_6 := (HB.out.cell (World.block_lt_of_cell? w _ hx149_6)).trans hx149_6
     replace hx149_7 := (HB.out.cell (World.block_lt_of_cell? w _ hx149_7)).trans hx149_7
     replace hx149_8 := (HB.out.cell (World.block_lt_of_cell? w _ hx149_8)).trans hx149_8
     replace hx149_9 := (HB.out.cell (World.block_lt_of_cell? w _ hx149_9)).trans hx149_9
     replace hx149_10 := (HB.out.cell (World.block_lt_of_cell? w _ hx149_10)).trans hx149_10
     replace hx149_11 := (HB.out.cell (World.block_lt_of_cell? w _ hx149_11)).trans hx149_11
     replace p149 := eq_true p149
     replace q149 := eq_true q149
     go_wp2_with (first | (go_at_call 51; (with_reducible refine (batch_wrong.calls k1 ((rd_T34 l0 x8_1).f0) ((rd_T34 l0 x8_1).f1) ((rd_T34 l0 x8_1).f2.f0) ((rd_T34 l0 x8_1).f2.f1) ((rd_T34 l0 x8_1).f2.f2) ((rd_T34 l0 x8_1).f2.f3) ((rd_T34 l0 x8_1).f2.f4) ((rd_T34 l0 x8_1).f2.f5) ((rd_T34 l0 x8_1).f3.f0) ((rd_T34 l0 x8_1).f3.f1) ((rd_T34 l0 x8_1).f3.f2) ((rd_T34 l0 x8_1).f4) true _ A6.out).mono ?_); rintro e w8 ⟨rfl, hb⟩; have n0_ := YG (YD (by repeat (first | (with_reducible first | exact HB.out | apply YA | apply YB | apply YC) | exact HB.out)) hb); clear HB; have HB := n0_; clear n0_; (try clear hb); (try clear hb2); (try clear hk); (try clear hi)))
     go_ret
     exact ⟨by first | rfl | (simp [errW_none, errW_some] <;> rfl) | (simp [*, errW_none, errW_some] <;> rfl), by repeat (first | (with_reducible first | exact HB.out | apply YA | apply YB | apply YC) | exact HB.out)⟩
    replace c7 := Bool.eq_false_iff.mpr c7
    subst c7
    have H1 : (api_Object_66.l0 k1 l0 (l0.length : Int) (wrap64 (x8_1 + 1))) = some r := by rw [if_neg (show ¬ (false = true) by decide)] at H; exact H
    clear H
    have H := H1
    clear H1
    have H' := YG H
    clear H
    have p149 : 0 ≤ (x8_1 : Int) := of_decide_eq_true (by first | (with_reducible assumption) | assumption)
    have q149 : x8_1 < (l0.length : Int) := of_decide_eq_true (by first | (with_reducible assumption) | assumption)
    obtain ⟨ad149, e149, hx149_0, hx149_1, hx149_2, hx149_3, hx149_4, hx149_5, hx149_6, hx149_7, hx149_8, hx149_9, hx149_10, hx149_11⟩ := at_T34 HR0.out x8_1 p149 q149
    cases e149
    replace hx149_0 := (HB.out.cell (World.block_lt_of_cell? w _ hx149_0)).trans hx149_0
    replace hx149_1 := (HB.out.cell (World.block_lt_of_cell? w _ hx149_1)).trans hx149_1
    replace hx149_2 := (HB.out.cell (World.block_lt_of_cell? w _ hx149_2)).trans hx149_2
    replace hx149_3 := (HB.out.cell (World.block_lt_of_cell? w _ hx149_3)).trans hx149_3
    replace hx149_4 := (HB.out.cell (World.block_lt_of_cell? w _ hx149_4)).trans hx149_4
    replace hx149_5 := (HB.out.cell (World.block_lt_of_cell? w _ hx149_5)).trans hx149_5
    replace hx149_6 := (HB.out.cell (World.block_lt_of_cell? w _ hx149_6)).trans hx149_6
    replace hx149_7 := (HB.out.cell (World.block_lt_of_cell? w _ hx149_7)).trans hx149_7
    replace hx149_8 := (HB.out.cell (World.block_lt_of_cell? w _ hx149_8)).trans hx149_8
    replace hx149_9 := (HB.out.cell (World.block_lt_of_cell? w _ hx149_9)).trans hx149_9
    replace hx149_10 := (HB.out.cell (World.block_lt_of_cell? w _ hx149_10)).trans hx149_10
    replace hx149_11 := (HB.out.cell (World.block_lt_of_cell? w _ hx149_11)).trans hx149_11
    replace p149 := eq_true p149
    replace q149 := eq_true q149
    go_wp2_with (first | (go_at_call 51; (with_reducible refine (batch_wrong.calls k1 ((rd_T34 l0 x8_1).f0) ((rd_T34 l0 x8_1).f1) ((rd_T34 l0 x8_1).f2.f0) ((rd_T34 l0 x8_1).f2.f1) ((rd_T34 l0 x8_1).f2.f2) ((rd_T34 l0 x8_1).f2.f3) ((rd_T34 l0 x8_1).f2.f4) ((rd_T34 l0 x8_1).f2.f5) ((rd_T34 l0 x8_1).f3.f0) ((rd_T34 l0 x8_1).f3.f1) ((rd_T34 l0 x8_1).f3.f2) ((rd_T34 l0 x8_1).f4) false _ A6.out).mono ?_); rintro e w9 ⟨rfl, hb⟩; have n0_ := YG (YD (by repeat (first | (with_reducible first | exact HB.out | apply YA | apply YB | apply YC) | exact HB.out)) hb); clear HB; have HB := n0_; clear n0_; (try clear hb); (try clear hb2); (try clear hk); (try clear hi)))
    go_roundg k1
    case measure => have := HK1.out; omega
    case rel => exact ⟨(wrap64 (x8_1 + 1)), (by first | rfl | (simp; done) | (simp [*]; done)), H', ⟨by have := HK1.out; omega⟩, ⟨by repeat (first | (with_reducible first | exact HB.out | apply YA | apply YB | apply YC) | exact HB.out)⟩⟩
   rw [if_neg c3] at H
   have c3b0 : decide (x8_1 < (l0.length : Int)) = false := decide_eq_false c3
   clear c3
   obtain rfl := Option.some.inj H
   go_wp2
   go_ret
   exact ⟨by first | rfl | (simp [errW_none, errW_some] <;> rfl) | (simp [*, errW_none, errW_some] <;> rfl), by repeat (first | (with_reducible first | exact HB.out | apply YA | apply YB | apply YC) | exact HB.out)⟩
def api_Object_50.f (k : Nat) (l0 : List (S34))  : Option (Bool) := (api_Object_66.f k l0).bind fun t151 => (some (decide (t151 ≥ 0)))
theorem api_Object_50.mono : ∀ a0 k, LeO (api_Object_50.f k a0) (api_Object_50.f (k + 1) a0) := by
 intro a0 k
 unfold api_Object_50.f
 repeat' first
   | (with_reducible exact api_Object_66.mono _ _)
   | (with_reducible exact LeO.refl _)
   | (with_reducible exact LeO.none _)
   | (with_reducible refine LeO.ite ?_ ?_)
   | (with_reducible refine LeO.bind ?_ (fun _ => ?_))
   | exact api_Object_66.mono _ _
   | exact LeO.none _
   | refine LeO.ite ?_ ?_
   | refine LeO.bind ?_ (fun _ => ?_)
theorem api_Object_50.calls (k : Nat) (A0 : Option Addr) (c0 : Nat) (l0 : List (S34))  (r : Bool) (w : World) (hr0 : Kd.C k34 w A0 l0.length l0) (hc0 : l0.length ≤ c0) (h : api_Object_50.f k l0 = some r) :
  Calls Try.prog 50 #[.slice A0 l0.length c0, .func (Fn.func 51) #[] #[]] w fun e w' => e = .returned (.bool r) ∧ Below w.heap.size w w' := by
 have HR0 := YG hr0; have HC0 := YG hc0; clear hr0 hc0
 have HB := YG (Below.refl w.heap.size w)
 have H : ((api_Object_66.f k l0).bind fun t151 => (some (decide (t151 ≥ 0)))) = some r := h
 clear h; replace H := Option.bind_eq_some_iff.mp H; obtain ⟨t151, A30, H⟩ := H
 replace H : (some (decide (t151 ≥ 0))) = some r := H
 have A3 := YG A30; clear A30
 obtain rfl := Option.some.inj H
 go_enter Try.func50, Try.ntmps50
 go_wp2_with (first | ((with_reducible refine gate_callee (f := 66) rfl ?_); refine goesL_ (some 7) rfl rfl Try.func66 (by kernel_rfl) rfl #[.slice A0 l0.length c0, .func (Fn.func 51) #[] #[]] rfl (by (try simp only [List.map_toArray, List.map_cons, List.map_nil]); first | done | rfl | (simp only [List.length_drop, List.length_take]; rfl)) ?_; (with_reducible refine (api_Object_66.calls k _ _ l0  t151 _ ?side1 ?side2 A3.out).mono ?_); (case side1 => repeat (first | exact HR0.out | (with_reducible refine Kd.C_alloc ?_ _) | (with_reducible refine Kd.C_drewN ?_ _) | (with_reducible refine Kd.C_drew ?_))); (case side2 => exact HC0.out); rintro e w4 ⟨rfl, hb⟩; refine ⟨_, rfl, ?_⟩; have n0_ := YG (YD (by repeat (first | (with_reducible first | exact HB.out | apply YA | apply YB | apply YC) | exact HB.out)) hb); clear HB; have HB := n0_; clear n0_; (try clear hb); (try clear hb2); (try clear hk); (try clear hi)))
 go_ret
 exact ⟨by first | rfl | (simp [errW_none, errW_some] <;> rfl) | (simp [*, errW_none, errW_some] <;> rfl), by repeat (first | (with_reducible first | exact HB.out | apply YA | apply YB | apply YC) | exact HB.out)⟩
def wire_Int.f (a0 : Int) : Option (List Int) := (wire_bytes.f (IntKind.u64.wrap (a0)) 8).bind fun t152 => (some t152)
theorem wire_Int.calls (a0 : Int) (r : List Int) (w : World) (h : wire_Int.f a0 = some r) :
  Calls Try.prog 70 #[.int .i64 a0] w fun e w' => ∃ v0_ : Value, e = .returned (v0_) ∧ Kd.R (Kd.int .u8) 5 w' w.heap.size (fun _ => True) v0_ r ∧ Below w.heap.size w w' := by
 have HB := YG (Below.refl w.heap.size w)
 have H : ((wire_bytes.f (IntKind.u64.wrap (a0)) 8).bind fun t152 => (some t152)) = some r := h
 clear h; replace H := Option.bind_eq_some_iff.mp H; obtain ⟨t152, A20, H⟩ := H
 replace H : (some t152) = some r := H
 have A2 := YG A20; clear A20
 obtain rfl := Option.some.inj H
 go_enter Try.func70, Try.ntmps70
 go_wp2_with (first | ((with_reducible refine gate_callee (f := 73) rfl ?_); refine goesL_ (some 5) rfl rfl Try.func73 (by kernel_rfl) rfl #[.int .u64 (IntKind.u64.wrap (a0)), .int .i64 8] rfl (by (try simp only [List.map_toArray, List.map_cons, List.map_nil]); first | done | rfl | (simp only [List.length_drop, List.length_take]; rfl)) ?_; (with_reducible refine (wire_bytes.calls (IntKind.u64.wrap (a0)) 8 t152 _ A2.out).mono ?_); rintro e w3 ⟨v153, rfl, ho0, hb⟩; refine ⟨_, rfl, ?_⟩; have n0_ := YG (Kd.R_lower ho0 (below_size (by repeat (first | (with_reducible first | exact HB.out | apply YA | apply YB | apply YC) | exact HB.out)))); have n1_ := YG (YD (by repeat (first | (with_reducible first | exact HB.out | apply YA | apply YB | apply YC) | exact HB.out)) hb); clear HB; have HO154 := n0_; have HB := n1_; clear n0_ n1_; (try clear hb); (try clear hb2); (try clear hk); (try clear hi); (try clear ho0)))
 go_ret
 exact ⟨_, by first | rfl | (simp [errW_none, errW_some] <;> rfl) | (simp [*, errW_none, errW_some] <;> rfl), by (with_reducible repeat (first | apply Kd.R_alloc | apply Kd.R_drewN | apply Kd.R_drew)); exact HO154.out, by repeat (first | (with_reducible first | exact HB.out | apply YA | apply YB | apply YC) | exact HB.out)⟩
end Go.Proofs.Ytclbempnhelmoaa.P
