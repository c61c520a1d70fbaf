/- Walks. -/
import Derived.Test.YtfigbjjaffkidaaXBatchBacka
set_option linter.unusedVariables false
set_option linter.unusedSimpArgs false
set_option maxHeartbeats 8000000
set_option maxRecDepth 100000
namespace Go.Proofs.Ytfigbjjaffkidaa.P
open Go.RowKit YtfigbjjaffkidaaW.PrintWords YtfigbjjaffkidaaW.PrintLast YtfigbjjaffkidaaW.PrintMore
open YtfigbjjaffkidaaW.PrintWords renaming below_alloc → YA, pw_below_drewN → YB, below_drew1 → YC, below_step → YD, below_size → YE, blk_drewN → YF, blk_drew → YG, blk_alloc → YH, blk_cell → YI, blk_frozen → YJ, blk_below → YK
open YtfigbjjaffkidaaW.PrintWords.Aside0 renaming mk → YL
open List renaming setIfInBounds_toArray → YM, set_cons_zero → YN, set_cons_succ → YO, map_toArray → YP, length_take → YQ, length_drop → YR
open YtfigbjjaffkidaaW.PrintWords.Kd renaming R_alloc → YS, R_drewN → YT, R_drew → YU
attribute [local go_sem] max2_int min2_int max_two min_two max_three min_three max_four min_four
def height_Bytes.f (k : Nat) (a0_0 : Bool) (a0_1 : Int) (a0_2 : Int) (a0_3 : Int) (a0_4 : Int) (a0_5 : Int) : Option (List Int × Int) := (height_Check.f k a0_0 a0_1 a0_2 a0_3 a0_4 a0_5).bind fun t136 => (if t136 = 0 then (if a0_0 = true then (if ([] : List Int).length < 140737488355328 then ((some (([] : List Int) ++ [0] : List Int)).bind fun y137 => (if y137.length < 140737488355328 then (some ((y137 ++ [(a0_5) % 256]), 0)) else (none))) else (none)) else (if ([] : List Int).length < 140737488355328 then ((some (([] : List Int) ++ [1] : List Int)).bind fun y143 => ((wire_Int.f a0_1).bind fun t146 => (if y143.length + t146.length < 140737488355328 then ((some (y143 ++ t146 : List Int)).bind fun y149 => ((some (([(a0_2) % 256, (a0_3) % 256] : List Int) : List Int)).bind fun y152 => (if y149.length + y152.length < 140737488355328 then ((some (y149 ++ y152 : List Int)).bind fun y155 => ((wire_Int.f a0_4).bind fun t158 => (if y155.length + t158.length < 140737488355328 then ((some (y155 ++ t158 : List Int)).bind fun y161 => (if y161.length < 140737488355328 then (some ((y161 ++ [(a0_5) % 256]), 0)) else (none))) else (none)))) else (none)))) else (none)))) else (none))) else (some (([] : List Int), t136)))
theorem height_Bytes.mono : ∀ a0 a1 a2 a3 a4 a5 k, LeO (height_Bytes.f k a0 a1 a2 a3 a4 a5) (height_Bytes.f (k + 1) a0 a1 a2 a3 a4 a5) := by
 intro a0 a1 a2 a3 a4 a5 k
 unfold height_Bytes.f
 repeat' first
   | (with_reducible exact height_Check.mono _ _ _ _ _ _ _)
   | (with_reducible exact LeO.refl _)
   | (with_reducible exact LeO.none _)
   | (with_reducible refine LeO.ite ?_ ?_)
   | (with_reducible refine LeO.bind ?_ (fun _ => ?_))
   | exact height_Check.mono _ _ _ _ _ _ _
   | exact LeO.none _
   | refine LeO.ite ?_ ?_
   | refine LeO.bind ?_ (fun _ => ?_)
def height_Bytes.T7 : Bool × List (List Nat × List Nat) := (true, [([], []), ([], []), ([0, 1], [0, 1]), ([], []), ([3], [3]), ([4, 2], [4]), ([2, 5, 5], [2, 5]), ([6, 6, 0, 1, 2, 3, 4, 5, 6], [0, 6])])
def height_Bytes.B7 : List Nat := [0, 0, 3, 0, 8, 31, 63, 127]
theorem height_Bytes.tab7 : rtab .any (opsOf Try.f35 7) = height_Bytes.T7 := by kernel_rfl
theorem height_Bytes.bits7 : waitsOk height_Bytes.T7.2 height_Bytes.B7 = true := by kernel_rfl
def height_Bytes.T8 : Bool × List (List Nat × List Nat) := (true, [([], []), ([], []), ([1], [1]), ([2], [2]), ([], []), ([4], [4]), ([5], [5]), ([3, 6], [3, 6]), ([0, 7], [0, 7]), ([], []), ([9], [9]), ([10, 8], [10]), ([8, 11, 11], [8, 11]), ([12, 12, 0, 1, 2, 3, 4, 5, 6, 7, 8, 9, 10, 11, 12], [0, 12])])
def height_Bytes.B8 : List Nat := [0, 0, 2, 6, 0, 16, 48, 126, 255, 0, 512, 2047, 4095, 8191]
theorem height_Bytes.tab8 : rtab .any (opsOf Try.f35 8) = height_Bytes.T8 := by kernel_rfl
theorem height_Bytes.bits8 : waitsOk height_Bytes.T8.2 height_Bytes.B8 = true := by kernel_rfl
theorem height_Bytes.calls (k : Nat) (a0_0 : Bool) (a0_1 : Int) (a0_2 : Int) (a0_3 : Int) (a0_4 : Int) (a0_5 : Int) (r1 : List Int) (r2 : Int) (w : World) (h : height_Bytes.f k a0_0 a0_1 a0_2 a0_3 a0_4 a0_5 = some (r1, r2)) :
  Calls Try.prog 35 #[.agg #[.bool a0_0, .int .i64 a0_1, .int .i64 a0_2, .int .i64 a0_3, .int .i64 a0_4, .int .i64 a0_5]] w fun e w' => ∃ v0_ : Value, e = .returned (.tuple #[v0_, .int .i64 r2]) ∧ Kd.R (Kd.int .u8) 5 w' w.heap.size (fun _ => True) v0_ r1 ∧ Below w.heap.size w w' := by
 have hu41 := Try.underlying41
 have HB := YL (Below.refl w.heap.size w)
 have H : ((height_Check.f k a0_0 a0_1 a0_2 a0_3 a0_4 a0_5).bind fun t136 => (if t136 = 0 then (if a0_0 = true then (if ([] : List Int).length < 140737488355328 then ((some (([] : List Int) ++ [0] : List Int)).bind fun y137 => (if y137.length < 140737488355328 then (some ((y137 ++ [(a0_5) % 256]), 0)) else (none))) else (none)) else (if ([] : List Int).length < 140737488355328 then ((some (([] : List Int) ++ [1] : List Int)).bind fun y143 => ((wire_Int.f a0_1).bind fun t146 => (if y143.length + t146.length < 140737488355328 then ((some (y143 ++ t146 : List Int)).bind fun y149 => ((some (([(a0_2) % 256, (a0_3) % 256] : List Int) : List Int)).bind fun y152 => (if y149.length + y152.length < 140737488355328 then ((some (y149 ++ y152 : List Int)).bind fun y155 => ((wire_Int.f a0_4).bind fun t158 => (if y155.length + t158.length < 140737488355328 then ((some (y155 ++ t158 : List Int)).bind fun y161 => (if y161.length < 140737488355328 then (some ((y161 ++ [(a0_5) % 256]), 0)) else (none))) else (none)))) else (none)))) else (none)))) else (none))) else (some (([] : List Int), t136)))) = some (r1, r2) := h
 clear h; replace H := Option.bind_eq_some_iff.mp H; obtain ⟨t136, A20, H⟩ := H
 replace H : (if t136 = 0 then (if a0_0 = true then (if ([] : List Int).length < 140737488355328 then ((some (([] : List Int) ++ [0] : List Int)).bind fun y137 => (if y137.length < 140737488355328 then (some ((y137 ++ [(a0_5) % 256]), 0)) else (none))) else (none)) else (if ([] : List Int).length < 140737488355328 then ((some (([] : List Int) ++ [1] : List Int)).bind fun y143 => ((wire_Int.f a0_1).bind fun t146 => (if y143.length + t146.length < 140737488355328 then ((some (y143 ++ t146 : List Int)).bind fun y149 => ((some (([(a0_2) % 256, (a0_3) % 256] : List Int) : List Int)).bind fun y152 => (if y149.length + y152.length < 140737488355328 then ((some (y149 ++ y152 : List Int)).bind fun y155 => ((wire_Int.f a0_4).bind fun t158 => (if y155.length + t158.length < 140737488355328 then ((some (y155 ++ t158 : List Int)).bind fun y161 => (if y161.length < 140737488355328 then (some ((y161 ++ [(a0_5) % 256]), 0)) else (none))) else (none)))) else (none)))) else (none)))) else (none))) else (some (([] : List Int), t136))) = some (r1, r2) := H
 have A2 := YL A20; clear A20
 by_cases c3 : t136 = 0
 ·rw [if_pos c3] at H
  have c3b0 : (t136 == 0) = true := beq_iff_eq.mpr c3
  have c3b1 : (t136 != 0) = false := bne_eq_false_iff_eq.mpr c3
  clear c3
  by_cases c4 : a0_0 = true
  ·subst c4
   have H1 : (if ([] : List Int).length < 140737488355328 then ((some (([] : List Int) ++ [0] : List Int)).bind fun y137 => (if y137.length < 140737488355328 then (some ((y137 ++ [(a0_5) % 256]), 0)) else (none))) else (none)) = some (r1, r2) := by rw [if_pos rfl] at H; exact H
   clear H
   have H := H1
   clear H1
   by_cases c5 : ([] : List Int).length < 140737488355328
   rotate_left
   ·rw [if_neg c5] at H
    exact absurd H (by simp)
   rw [if_pos c5] at H; have LMc5 := YL c5; clear c5
   obtain ⟨y137, hy137⟩ : ∃ y_ : List Int, y_ = (([] : List Int) ++ [0]) := ⟨_, rfl⟩
   replace H : (if y137.length < 140737488355328 then (some ((y137 ++ [(a0_5) % 256]), 0)) else (none)) = some (r1, r2) := by first | (rw [hy137]; with_reducible exact H) | (have H2_ := (Option.bind_some _ _).symm.trans H; rw [hy137]; with_reducible exact H2_) | (have H2_ := (Option.bind_some _ _).symm.trans H; with_reducible exact H2_) | with_reducible exact H | (rw [hy137]; exact H) | exact H
   have Ny137 := YL hy137; clear hy137
   by_cases c6 : y137.length < 140737488355328
   rotate_left
   ·rw [if_neg c6] at H
    exact absurd H (by simp)
   rw [if_pos c6] at H; have LMc6 := YL c6; clear c6
   obtain ⟨y140, hy140⟩ : ∃ y_ : List Int, y_ = (y137 ++ [(a0_5) % 256]) := ⟨_, rfl⟩
   replace H : (some (y140, 0)) = some (r1, r2) := by first | (rw [hy140]; with_reducible exact H) | (have H2_ := (Option.bind_some _ _).symm.trans H; rw [hy140]; with_reducible exact H2_) | (have H2_ := (Option.bind_some _ _).symm.trans H; with_reducible exact H2_) | with_reducible exact H | (rw [hy140]; exact H) | exact H
   have Ny140 := YL hy140; clear hy140
   simp only [Option.some.injEq, Prod.mk.injEq] at H
   obtain ⟨rfl, rfl⟩ := H
   go_enter Try.func35, Try.ntmps35
   go_wp2_with (first | ((with_reducible refine gate_dst (N := 1) rfl ?_); refine box_event ?hg (N := 1) ?hd (cs := #[.bool true, .int .i64 a0_1, .int .i64 a0_2, .int .i64 a0_3, .int .i64 a0_4, .int .i64 a0_5]) (t := 41) ?hr ?_; (case hd => rfl); (case hg => rfl); (case hr => first | (go_simp; done) | (go_simp; rfl)); intro gb135 hg w7 hbox hb; have n0_ := YL (YD (upB HB) hb); have n1_ := YL (hbox); have n2_ := YL ((by rw [hg]; exact (YE (upB HB)) : w.heap.size ≤ gb135)); have n3_ := YL ((by rw [hg]; exact (YE (upB HB)) : w.heap.size ≤ gb135)); clear HB; have HB := n0_; have BK135 := n1_; have GW135 := n2_; have GE135 := n3_; clear n0_ n1_ n2_ n3_; clear hb hbox hg; have q8_0 : w7.cell? ⟨gb135, 0, none⟩ = some (.bool true) := (YI BK135.out 0).trans rfl; have q8_1 : w7.cell? ⟨gb135, 1, none⟩ = some (.int .i64 a0_1) := (YI BK135.out 1).trans rfl; have q8_2 : w7.cell? ⟨gb135, 2, none⟩ = some (.int .i64 a0_2) := (YI BK135.out 2).trans rfl; have q8_3 : w7.cell? ⟨gb135, 3, none⟩ = some (.int .i64 a0_3) := (YI BK135.out 3).trans rfl; have q8_4 : w7.cell? ⟨gb135, 4, none⟩ = some (.int .i64 a0_4) := (YI BK135.out 4).trans rfl; have q8_5 : w7.cell? ⟨gb135, 5, none⟩ = some (.int .i64 a0_5) := (YI BK135.out 5).trans rfl; have f8_0 := YJ BK135.out 0; have f8_1 := YJ BK135.out 1; have f8_2 := YJ BK135.out 2; have f8_3 := YJ BK135.out 3; have f8_4 := YJ BK135.out 4; have f8_5 := YJ BK135.out 5) | ((with_reducible refine gate_callee (f := 44) rfl ?_); refine goesA (some 7) Try.func44 #[.agg #[.bool true, .int .i64 a0_1, .int .i64 a0_2, .int .i64 a0_3, .int .i64 a0_4, .int .i64 a0_5]] ?_; (with_reducible refine (height_Check.calls k true a0_1 a0_2 a0_3 a0_4 a0_5 t136 _ A2.out).mono ?_); rintro e w9 ⟨rfl, hb⟩; refine ⟨_, rfl, ?_⟩; have n0_ := YL (YK (g := gb135) (o := .cells #[.bool true, .int .i64 a0_1, .int .i64 a0_2, .int .i64 a0_3, .int .i64 a0_4, .int .i64 a0_5] 41 (0, 0)) (upK BK135) hb); have n1_ := YL (YD (upB HB) hb); clear BK135; clear HB; have BK135 := n0_; have HB := n1_; clear n0_ n1_; (try clear hb); (try clear hb2); (try clear hk); (try clear hi); have q10_0 : w9.cell? ⟨gb135, 0, none⟩ = some (.bool true) := (YI BK135.out 0).trans rfl; have q10_1 : w9.cell? ⟨gb135, 1, none⟩ = some (.int .i64 a0_1) := (YI BK135.out 1).trans rfl; have q10_2 : w9.cell? ⟨gb135, 2, none⟩ = some (.int .i64 a0_2) := (YI BK135.out 2).trans rfl; have q10_3 : w9.cell? ⟨gb135, 3, none⟩ = some (.int .i64 a0_3) := (YI BK135.out 3).trans rfl; have q10_4 : w9.cell? ⟨gb135, 4, none⟩ = some (.int .i64 a0_4) := (YI BK135.out 4).trans rfl; have q10_5 : w9.cell? ⟨gb135, 5, none⟩ = some (.int .i64 a0_5) := (YI BK135.out 5).trans rfl; have f10_0 := YJ BK135.out 0; have f10_1 := YJ BK135.out 1; have f10_2 := YJ BK135.out 2; have f10_3 := YJ BK135.out 3; have f10_4 := YJ BK135.out 4; have f10_5 := YJ BK135.out 5) | ((with_reducible refine gate_builtin (b := .append) (xs := #[.tmp 13, .tmp 14]) rfl ?_); at_builtin; refine Kd.R_append (Kd.int .u8) (w0 := w) w.heap.size rfl (.tmp 13) (.tmp 14) 26 5 (.int .u8 0) 1 rfl Try.underlying26 info5 rfl (by decide) (by omega) (.slice none 0 0) ([] : List Int) 0 [.int .u8 0] (fun _ => True) (fun _ => False) rfl rfl ?aP (fun _ hk => hk.elim) ?aF ?aO ?aB ?aS ?aL ?_; (case aP => exact rfl); (case aB => exact (upB HB)); (case aF => exact (fun _ _ => trivial)); (case aO => exact ((Kd.R_nil _ _ _ _ (fun _ => True)))); (case aS => exact (YE (upB HB))); (case aL => have := LMc5.out; omega); intro v138 w11 ho hb hg hat; rw [← Ny137.out] at ho; have n0_ := YL (blk_grown (g := gb135) (o := .cells #[.bool true, .int .i64 a0_1, .int .i64 a0_2, .int .i64 a0_3, .int .i64 a0_4, .int .i64 a0_5] 41 (0, 0)) (upK BK135) hg (by simp [Value.ownBlock])); have n1_ := YL (hb); have n2_ := YL (ho); clear BK135; clear HB; have BK135 := n0_; have HB := n1_; have HO139 := n2_; clear n0_ n1_ n2_; clear ho hb hg hat; have q12_0 : w11.cell? ⟨gb135, 0, none⟩ = some (.bool true) := (YI BK135.out 0).trans rfl; have q12_1 : w11.cell? ⟨gb135, 1, none⟩ = some (.int .i64 a0_1) := (YI BK135.out 1).trans rfl; have q12_2 : w11.cell? ⟨gb135, 2, none⟩ = some (.int .i64 a0_2) := (YI BK135.out 2).trans rfl; have q12_3 : w11.cell? ⟨gb135, 3, none⟩ = some (.int .i64 a0_3) := (YI BK135.out 3).trans rfl; have q12_4 : w11.cell? ⟨gb135, 4, none⟩ = some (.int .i64 a0_4) := (YI BK135.out 4).trans rfl; have q12_5 : w11.cell? ⟨gb135, 5, none⟩ = some (.int .i64 a0_5) := (YI BK135.out 5).trans rfl; have f12_0 := YJ BK135.out 0; have f12_1 := YJ BK135.out 1; have f12_2 := YJ BK135.out 2; have f12_3 := YJ BK135.out 3; have f12_4 := YJ BK135.out 4; have f12_5 := YJ BK135.out 5) | ((with_reducible refine gate_builtin (b := .append) (xs := #[.tmp 36, .tmp 40]) rfl ?_); at_builtin; refine Kd.R_append (Kd.int .u8) (w0 := w) w.heap.size rfl (.tmp 36) (.tmp 40) 26 5 (.int .u8 0) 1 rfl Try.underlying26 info5 rfl (by decide) (by omega) v138 y137 ((a0_5) % 256) [.int .u8 ((a0_5) % 256)] (fun _ => True) (fun _ => False) rfl rfl ?aP (fun _ hk => hk.elim) ?aF ?aO ?aB ?aS ?aL ?_; (case aP => exact rfl); (case aB => exact (upB HB)); (case aF => exact (fun _ _ => trivial)); (case aO => exact (upR HO139)); (case aS => exact (YE (upB HB))); (case aL => have := LMc6.out; omega); intro v141 w13 ho hb hg hat; rw [← Ny140.out] at ho; have n0_ := YL (blk_grown (g := gb135) (o := .cells #[.bool true, .int .i64 a0_1, .int .i64 a0_2, .int .i64 a0_3, .int .i64 a0_4, .int .i64 a0_5] 41 (0, 0)) (upK BK135) hg (Kd.R_ne HO139.out BK135.out (by decide))); have n1_ := YL (hb); have n2_ := YL (ho); clear BK135; clear HB; clear HO139; have BK135 := n0_; have HB := n1_; have HO142 := n2_; clear n0_ n1_ n2_; clear ho hb hg hat))
   go_ret2
   exact ⟨_, by first | rfl | (simp [errW_none, errW_some] <;> rfl) | (simp [*, errW_none, errW_some] <;> rfl), by (with_reducible repeat (first | apply YS | apply YT | apply YU)); exact HO142.out, by repeat (first | (with_reducible first | exact HB.out | apply YA | apply YB | apply YC | refine below_set ?_ GE135.out) | exact HB.out)⟩
  replace c4 := Bool.eq_false_iff.mpr c4
  subst c4
  have H1 : (if ([] : List Int).length < 140737488355328 then ((some (([] : List Int) ++ [1] : List Int)).bind fun y143 => ((wire_Int.f a0_1).bind fun t146 => (if y143.length + t146.length < 140737488355328 then ((some (y143 ++ t146 : List Int)).bind fun y149 => ((some (([(a0_2) % 256, (a0_3) % 256] : List Int) : List Int)).bind fun y152 => (if y149.length + y152.length < 140737488355328 then ((some (y149 ++ y152 : List Int)).bind fun y155 => ((wire_Int.f a0_4).bind fun t158 => (if y155.length + t158.length < 140737488355328 then ((some (y155 ++ t158 : List Int)).bind fun y161 => (if y161.length < 140737488355328 then (some ((y161 ++ [(a0_5) % 256]), 0)) else (none))) else (none)))) else (none)))) else (none)))) else (none)) = some (r1, r2) := by rw [if_neg (show ¬ (false = true) by decide)] at H; exact H
  clear H
  have H := H1
  clear H1
  by_cases c14 : ([] : List Int).length < 140737488355328
  rotate_left
  ·rw [if_neg c14] at H
   exact absurd H (by simp)
  rw [if_pos c14] at H; have LMc14 := YL c14; clear c14
  obtain ⟨y143, hy143⟩ : ∃ y_ : List Int, y_ = (([] : List Int) ++ [1]) := ⟨_, rfl⟩
  replace H : ((wire_Int.f a0_1).bind fun t146 => (if y143.length + t146.length < 140737488355328 then ((some (y143 ++ t146 : List Int)).bind fun y149 => ((some (([(a0_2) % 256, (a0_3) % 256] : List Int) : List Int)).bind fun y152 => (if y149.length + y152.length < 140737488355328 then ((some (y149 ++ y152 : List Int)).bind fun y155 => ((wire_Int.f a0_4).bind fun t158 => (if y155.length + t158.length < 140737488355328 then ((some (y155 ++ t158 : List Int)).bind fun y161 => (if y161.length < 140737488355328 then (some ((y161 ++ [(a0_5) % 256]), 0)) else (none))) else (none)))) else (none)))) else (none))) = some (r1, r2) := by first | (rw [hy143]; with_reducible exact H) | (have H2_ := (Option.bind_some _ _).symm.trans H; rw [hy143]; with_reducible exact H2_) | (have H2_ := (Option.bind_some _ _).symm.trans H; with_reducible exact H2_) | with_reducible exact H | (rw [hy143]; exact H) | exact H
  have Ny143 := YL hy143; clear hy143; replace H := Option.bind_eq_some_iff.mp H; obtain ⟨t146, A150, H⟩ := H
  replace H : (if y143.length + t146.length < 140737488355328 then ((some (y143 ++ t146 : List Int)).bind fun y149 => ((some (([(a0_2) % 256, (a0_3) % 256] : List Int) : List Int)).bind fun y152 => (if y149.length + y152.length < 140737488355328 then ((some (y149 ++ y152 : List Int)).bind fun y155 => ((wire_Int.f a0_4).bind fun t158 => (if y155.length + t158.length < 140737488355328 then ((some (y155 ++ t158 : List Int)).bind fun y161 => (if y161.length < 140737488355328 then (some ((y161 ++ [(a0_5) % 256]), 0)) else (none))) else (none)))) else (none)))) else (none)) = some (r1, r2) := H
  have A15 := YL A150; clear A150
  by_cases c16 : y143.length + t146.length < 140737488355328
  rotate_left
  ·rw [if_neg c16] at H
   exact absurd H (by simp)
  rw [if_pos c16] at H; have LMc16 := YL c16; clear c16
  obtain ⟨y149, hy149⟩ : ∃ y_ : List Int, y_ = (y143 ++ t146) := ⟨_, rfl⟩
  replace H : ((some (([(a0_2) % 256, (a0_3) % 256] : List Int) : List Int)).bind fun y152 => (if y149.length + y152.length < 140737488355328 then ((some (y149 ++ y152 : List Int)).bind fun y155 => ((wire_Int.f a0_4).bind fun t158 => (if y155.length + t158.length < 140737488355328 then ((some (y155 ++ t158 : List Int)).bind fun y161 => (if y161.length < 140737488355328 then (some ((y161 ++ [(a0_5) % 256]), 0)) else (none))) else (none)))) else (none))) = some (r1, r2) := by first | (rw [hy149]; with_reducible exact H) | (have H2_ := (Option.bind_some _ _).symm.trans H; rw [hy149]; with_reducible exact H2_) | (have H2_ := (Option.bind_some _ _).symm.trans H; with_reducible exact H2_) | with_reducible exact H | (rw [hy149]; exact H) | exact H
  have Ny149 := YL hy149; clear hy149
  obtain ⟨y152, hy152⟩ : ∃ y_ : List Int, y_ = (([(a0_2) % 256, (a0_3) % 256] : List Int)) := ⟨_, rfl⟩
  replace H : (if y149.length + y152.length < 140737488355328 then ((some (y149 ++ y152 : List Int)).bind fun y155 => ((wire_Int.f a0_4).bind fun t158 => (if y155.length + t158.length < 140737488355328 then ((some (y155 ++ t158 : List Int)).bind fun y161 => (if y161.length < 140737488355328 then (some ((y161 ++ [(a0_5) % 256]), 0)) else (none))) else (none)))) else (none)) = some (r1, r2) := by first | (rw [hy152]; with_reducible exact H) | (have H2_ := (Option.bind_some _ _).symm.trans H; rw [hy152]; with_reducible exact H2_) | (have H2_ := (Option.bind_some _ _).symm.trans H; with_reducible exact H2_) | with_reducible exact H | (rw [hy152]; exact H) | exact H
  have Ny152 := YL hy152; clear hy152
  by_cases c17 : y149.length + y152.length < 140737488355328
  rotate_left
  ·rw [if_neg c17] at H
   exact absurd H (by simp)
  rw [if_pos c17] at H; have LMc17 := YL c17; clear c17
  obtain ⟨y155, hy155⟩ : ∃ y_ : List Int, y_ = (y149 ++ y152) := ⟨_, rfl⟩
  replace H : ((wire_Int.f a0_4).bind fun t158 => (if y155.length + t158.length < 140737488355328 then ((some (y155 ++ t158 : List Int)).bind fun y161 => (if y161.length < 140737488355328 then (some ((y161 ++ [(a0_5) % 256]), 0)) else (none))) else (none))) = some (r1, r2) := by first | (rw [hy155]; with_reducible exact H) | (have H2_ := (Option.bind_some _ _).symm.trans H; rw [hy155]; with_reducible exact H2_) | (have H2_ := (Option.bind_some _ _).symm.trans H; with_reducible exact H2_) | with_reducible exact H | (rw [hy155]; exact H) | exact H
  have Ny155 := YL hy155; clear hy155; replace H := Option.bind_eq_some_iff.mp H; obtain ⟨t158, A180, H⟩ := H
  replace H : (if y155.length + t158.length < 140737488355328 then ((some (y155 ++ t158 : List Int)).bind fun y161 => (if y161.length < 140737488355328 then (some ((y161 ++ [(a0_5) % 256]), 0)) else (none))) else (none)) = some (r1, r2) := H
  have A18 := YL A180; clear A180
  by_cases c19 : y155.length + t158.length < 140737488355328
  rotate_left
  ·rw [if_neg c19] at H
   exact absurd H (by simp)
  rw [if_pos c19] at H; have LMc19 := YL c19; clear c19
  obtain ⟨y161, hy161⟩ : ∃ y_ : List Int, y_ = (y155 ++ t158) := ⟨_, rfl⟩
  replace H : (if y161.length < 140737488355328 then (some ((y161 ++ [(a0_5) % 256]), 0)) else (none)) = some (r1, r2) := by first | (rw [hy161]; with_reducible exact H) | (have H2_ := (Option.bind_some _ _).symm.trans H; rw [hy161]; with_reducible exact H2_) | (have H2_ := (Option.bind_some _ _).symm.trans H; with_reducible exact H2_) | with_reducible exact H | (rw [hy161]; exact H) | exact H
  have Ny161 := YL hy161; clear hy161
  by_cases c20 : y161.length < 140737488355328
  rotate_left
  ·rw [if_neg c20] at H
   exact absurd H (by simp)
  rw [if_pos c20] at H; have LMc20 := YL c20; clear c20
  obtain ⟨y164, hy164⟩ : ∃ y_ : List Int, y_ = (y161 ++ [(a0_5) % 256]) := ⟨_, rfl⟩
  replace H : (some (y164, 0)) = some (r1, r2) := by first | (rw [hy164]; with_reducible exact H) | (have H2_ := (Option.bind_some _ _).symm.trans H; rw [hy164]; with_reducible exact H2_) | (have H2_ := (Option.bind_some _ _).symm.trans H; with_reducible exact H2_) | with_reducible exact H | (rw [hy164]; exact H) | exact H
  have Ny164 := YL hy164; clear hy164
  simp only [Option.some.injEq, Prod.mk.injEq] at H
  obtain ⟨rfl, rfl⟩ := H
  go_enter Try.func35, Try.ntmps35
  try go_wp2_with (first | ((with_reducible refine gate_dst (N := 1) rfl ?_); refine box_event ?hg (N := 1) ?hd (cs := #[.bool false, .int .i64 a0_1, .int .i64 a0_2, .int .i64 a0_3, .int .i64 a0_4, .int .i64 a0_5]) (t := 41) ?hr ?_; (case hd => rfl); (case hg => rfl); (case hr => first | (go_simp; done) | (go_simp; rfl)); intro gb135 hg w21 hbox hb; have n0_ := YL (YD (upB HB) hb); have n1_ := YL (hbox); have n2_ := YL ((by rw [hg]; exact (YE (upB HB)) : w.heap.size ≤ gb135)); have n3_ := YL ((by rw [hg]; exact (YE (upB HB)) : w.heap.size ≤ gb135)); clear HB; have HB := n0_; have BK135 := n1_; have GW135 := n2_; have GE135 := n3_; clear n0_ n1_ n2_ n3_; clear hb hbox hg; have q22_0 : w21.cell? ⟨gb135, 0, none⟩ = some (.bool false) := (YI BK135.out 0).trans rfl; have q22_1 : w21.cell? ⟨gb135, 1, none⟩ = some (.int .i64 a0_1) := (YI BK135.out 1).trans rfl; have q22_2 : w21.cell? ⟨gb135, 2, none⟩ = some (.int .i64 a0_2) := (YI BK135.out 2).trans rfl; have q22_3 : w21.cell? ⟨gb135, 3, none⟩ = some (.int .i64 a0_3) := (YI BK135.out 3).trans rfl; have q22_4 : w21.cell? ⟨gb135, 4, none⟩ = some (.int .i64 a0_4) := (YI BK135.out 4).trans rfl; have q22_5 : w21.cell? ⟨gb135, 5, none⟩ = some (.int .i64 a0_5) := (YI BK135.out 5).trans rfl; have f22_0 := YJ BK135.out 0; have f22_1 := YJ BK135.out 1; have f22_2 := YJ BK135.out 2; have f22_3 := YJ BK135.out 3; have f22_4 := YJ BK135.out 4; have f22_5 := YJ BK135.out 5) | ((with_reducible refine gate_callee (f := 44) rfl ?_); refine goesA (some 7) Try.func44 #[.agg #[.bool false, .int .i64 a0_1, .int .i64 a0_2, .int .i64 a0_3, .int .i64 a0_4, .int .i64 a0_5]] ?_; (with_reducible refine (height_Check.calls k false a0_1 a0_2 a0_3 a0_4 a0_5 t136 _ A2.out).mono ?_); rintro e w23 ⟨rfl, hb⟩; refine ⟨_, rfl, ?_⟩; have n0_ := YL (YK (g := gb135) (o := .cells #[.bool false, .int .i64 a0_1, .int .i64 a0_2, .int .i64 a0_3, .int .i64 a0_4, .int .i64 a0_5] 41 (0, 0)) (upK BK135) hb); have n1_ := YL (YD (upB HB) hb); clear BK135; clear HB; have BK135 := n0_; have HB := n1_; clear n0_ n1_; (try clear hb); (try clear hb2); (try clear hk); (try clear hi); have q24_0 : w23.cell? ⟨gb135, 0, none⟩ = some (.bool false) := (YI BK135.out 0).trans rfl; have q24_1 : w23.cell? ⟨gb135, 1, none⟩ = some (.int .i64 a0_1) := (YI BK135.out 1).trans rfl; have q24_2 : w23.cell? ⟨gb135, 2, none⟩ = some (.int .i64 a0_2) := (YI BK135.out 2).trans rfl; have q24_3 : w23.cell? ⟨gb135, 3, none⟩ = some (.int .i64 a0_3) := (YI BK135.out 3).trans rfl; have q24_4 : w23.cell? ⟨gb135, 4, none⟩ = some (.int .i64 a0_4) := (YI BK135.out 4).trans rfl; have q24_5 : w23.cell? ⟨gb135, 5, none⟩ = some (.int .i64 a0_5) := (YI BK135.out 5).trans rfl; have f24_0 := YJ BK135.out 0; have f24_1 := YJ BK135.out 1; have f24_2 := YJ BK135.out 2; have f24_3 := YJ BK135.out 3; have f24_4 := YJ BK135.out 4; have f24_5 := YJ BK135.out 5))
  have n0_ := YL (YG BK135.out)
  have n1_ := YL (YC HB.out)
  clear BK135; clear HB; have BK135 := n0_; have HB := n1_; clear n0_ n1_
  refine start_ (n := 8) (S := fun w' => w'.cell? ⟨gb135, 0, none⟩ = some (.bool false) ∧ w'.cell? ⟨gb135, 1, none⟩ = some (.int .i64 a0_1) ∧ w'.cell? ⟨gb135, 2, none⟩ = some (.int .i64 a0_2) ∧ w'.cell? ⟨gb135, 3, none⟩ = some (.int .i64 a0_3) ∧ w'.cell? ⟨gb135, 4, none⟩ = some (.int .i64 a0_4) ∧ w'.cell? ⟨gb135, 5, none⟩ = some (.int .i64 a0_5)) (ds := []) #[false, false, false, false, false, false, false, false] (by kernel_rfl) rfl rfl ⟨(YI BK135.out 0).trans rfl, (YI BK135.out 1).trans rfl, (YI BK135.out 2).trans rfl, (YI BK135.out 3).trans rfl, (YI BK135.out 4).trans rfl, (YI BK135.out 5).trans rfl⟩ (fun hHeld => ?_); refine with_tabW height_Bytes.tab7 height_Bytes.bits7 (fun HT_ HW_ => ?_)
  generalize w23.drew = w25 at BK135 HB hHeld ⊢
  refine pure_ (i := 0) (N := some 16) (v := ?_) (a' := ?_) #[true, false, false, false, false, false, false, false] rfl rfl (any_of HT_.out (by kernel_rfl)) (fun _ _ _ h => h) (Or.inl ⟨by rfl, ?_⟩) ?_ ?_
  rotate_left
  ·intro w'
   go_simp; with_reducible rfl
  rotate_left
  ·simp only [Act.put, YM, YN, YO, i64_w, i32_w]
   rfl
  refine pure_ (i := 3) (N := some 19) (v := ?_) (a' := ?_) #[true, false, false, true, false, false, false, false] rfl rfl (any_of HT_.out (by kernel_rfl)) (fun _ _ _ h => h) (Or.inl ⟨by rfl, ?_⟩) ?_ ?_
  rotate_left
  ·intro w'
   go_simp; with_reducible rfl
  rotate_left
  ·simp only [Act.put, YM, YN, YO, i64_w, i32_w]
   rfl
  refine take_ (i := 4) (N := some 20) (v := ?_) (a' := ?_) #[true, false, false, true, true, false, false, false] rfl rfl (take_ofW HT_.out HW_.out (by kernel_rfl)) (fun _ _ _ h => h) (Or.inl ⟨by rfl, ?_⟩) hHeld ?_ ?_
  rotate_left
  ·rintro w' ⟨s0, s1, s2, s3, s4, s5⟩
   go_simp; with_reducible rfl
  rotate_left
  ·simp only [Act.put, YM, YN, YO, i64_w, i32_w]
   rfl
  refine oneA (i := 1) (N := some 17) HT_ (fun K hK => ?_)
  refine value_ (w1 := ?_) (v := ?_) (by rfl) rfl ?_ ?_
  rotate_left 2
  ·go_simp
   constructor
   ·rfl
   rfl
  refine hK.out _ _ ⟨(YI (YH BK135.out _) 0).trans rfl, (YI (YH BK135.out _) 1).trans rfl, (YI (YH BK135.out _) 2).trans rfl, (YI (YH BK135.out _) 3).trans rfl, (YI (YH BK135.out _) 4).trans rfl, (YI (YH BK135.out _) 5).trans rfl⟩ (fun hHeld => ?_)
  clear hK K
  refine normA (N := 17) ?_
  refine oneA (i := 2) (N := some 18) HT_ (fun K hK => ?_)
  refine Kd.R_append_step (Kd.int .u8) (w0 := w) w.heap.size (by rfl) (.tmp 16) (.tmp 17) 26 5 (.int .u8 0) 1 rfl Try.underlying26 info5 rfl (by decide) (by omega) (.slice none 0 0) ([] : List Int) 1 [.int .u8 1] (fun _ => True) (fun _ => False) rfl rfl ?aP (fun _ hk => hk.elim) ?aF ?aO ?aB ?aS ?aL ?_
  (case aP => exact rfl)
  (case aB => exact (upB HB))
  (case aF => exact (fun _ _ => trivial))
  (case aO => exact ((Kd.R_nil _ _ _ _ (fun _ => True))))
  (case aS => exact (YE (upB HB)))
  (case aL => have := LMc14.out; omega)
  intro v144 w26 ho hb hg hat
  rw [← Ny143.out] at ho
  have n0_ := YL (blk_grown (g := gb135) (o := .cells #[.bool false, .int .i64 a0_1, .int .i64 a0_2, .int .i64 a0_3, .int .i64 a0_4, .int .i64 a0_5] 41 (0, 0)) (upK BK135) hg (by simp [Value.ownBlock]))
  have n1_ := YL (hb)
  have n2_ := YL (ho)
  clear BK135; clear HB; have BK135 := n0_; have HB := n1_; have HO145 := n2_; clear n0_ n1_ n2_; clear ho hb hg hat
  refine hK.out _ _ ⟨(YI BK135.out 0).trans rfl, (YI BK135.out 1).trans rfl, (YI BK135.out 2).trans rfl, (YI BK135.out 3).trans rfl, (YI BK135.out 4).trans rfl, (YI BK135.out 5).trans rfl⟩ (fun hHeld => ?_)
  clear hK K
  refine normA (N := 18) ?_
  refine oneA (i := 5) (N := some 21) HT_ (fun K hK => ?_)
  refine goes_ Try.func36 (by kernel_rfl) rfl #[.int .i64 a0_1] (by rfl) rfl rfl (by (try simp only [YP, List.map_cons, List.map_nil]); first | done | rfl | (simp only [YR, YQ]; rfl)) ?_
  with_reducible refine (wire_Int.calls a0_1 t146 _ A15.out).mono ?_
  rintro e w27 ⟨v147, rfl, ho0, hb⟩
  refine ⟨_, rfl, ?_⟩
  have n0_ := YL (Kd.R_elder' (upR HO145) (Kd.R_base ho0) hb)
  have n1_ := YL (Kd.R_lower (Kd.R_new' ho0 (Kd.R_lt (upR HO145))) (YE (upB HB)))
  have n2_ := YL (YK (g := gb135) (o := .cells #[.bool false, .int .i64 a0_1, .int .i64 a0_2, .int .i64 a0_3, .int .i64 a0_4, .int .i64 a0_5] 41 (0, 0)) (upK BK135) hb)
  have n3_ := YL (YD (upB HB) hb)
  clear HO145; clear BK135; clear HB; have HO145 := n0_; have HO148 := n1_; have BK135 := n2_; have HB := n3_; clear n0_ n1_ n2_ n3_; (try clear hb); (try clear hb2); (try clear hk); (try clear hi); (try clear ho0)
  obtain ⟨Ao29, co29, eo29⟩ := Kd.R_slice HO148.out
  (first | subst eo29 | (injection eo29 with f1_ f2_ f3_; have f4_ := f1_.symm; have f5_ := f3_.symm; clear f1_ f2_ f3_; subst f4_; subst f5_))
  refine hK.out _ _ ⟨(YI BK135.out 0).trans rfl, (YI BK135.out 1).trans rfl, (YI BK135.out 2).trans rfl, (YI BK135.out 3).trans rfl, (YI BK135.out 4).trans rfl, (YI BK135.out 5).trans rfl⟩ (fun hHeld => ?_)
  clear hK K
  refine normA (N := 21) ?_
  refine oneA (i := 6) (N := some 22) HT_ (fun K hK => ?_)
  refine Kd.R_append_rows_step (Kd.int .u8) (w0 := w) w.heap.size (by rfl) (.tmp 18) (.tmp 21) 26 5 (.int .u8 0) 1 rfl Try.underlying26 info5 rfl (by decide) (by omega) v144 y143 t146 _ _ _ (fun k_ => some k_ ≠ (.slice Ao29 t146.length co29 : Value).ownBlock) (fun _ => False) rfl rfl ?aO ?aR (fun _ _ h => h) (fun _ h => h.elim) ?aF ?aB ?aS ?aL ?_
  (case aR => repeat (first | exact (Kd.R_reads' HO148.out).2.2 | (with_reducible refine Kd.C_alloc ?_ _) | (with_reducible refine Kd.C_drewN ?_ _) | (with_reducible refine Kd.C_drew ?_)))
  (case aB => exact (upB HB))
  (case aF => exact (fun k_ hk => Kd.fresh' (Kd.R_lt (upR HO148)) k_ hk))
  (case aO => exact (by (with_reducible repeat (first | apply YS | apply YT | apply YU)); exact Kd.R_mono HO145.out (fun _ hk => by first | exact hk.2 | exact trivial | (simp [hk]; done) | simp_all)))
  (case aS => exact (YE (upB HB)))
  (case aL => have := LMc16.out; omega)
  intro v150 w28 ho hb hg hat
  rw [← Ny149.out] at ho
  have n0_ := YL (blk_grown (g := gb135) (o := .cells #[.bool false, .int .i64 a0_1, .int .i64 a0_2, .int .i64 a0_3, .int .i64 a0_4, .int .i64 a0_5] 41 (0, 0)) (upK BK135) hg (Kd.R_ne HO145.out BK135.out (by decide)))
  have n1_ := YL (Kd.R_after (ok := (fun _ => True)) (upR HO148) hg hat)
  have n2_ := YL (hb)
  have n3_ := YL (ho)
  clear BK135; clear HO148; clear HB; clear HO145; have BK135 := n0_; have HO148 := n1_; have HB := n2_; have HO151 := n3_; clear n0_ n1_ n2_ n3_; clear ho hb hg hat
  refine hK.out _ _ ⟨(YI BK135.out 0).trans rfl, (YI BK135.out 1).trans rfl, (YI BK135.out 2).trans rfl, (YI BK135.out 3).trans rfl, (YI BK135.out 4).trans rfl, (YI BK135.out 5).trans rfl⟩ (fun hHeld => ?_)
  clear hK K
  refine normA (N := 22) ?_
  refine pure_ (i := 7) (N := some 5) (v := ?_) (a' := ?_) #[true, true, true, true, true, true, true, true] rfl rfl (any_of HT_.out (by kernel_rfl)) (fun _ _ _ h => h) (Or.inl ⟨by rfl, ?_⟩) ?_ ?_
  rotate_left
  ·intro w'
   go_simp; with_reducible rfl
  rotate_left
  ·simp only [Act.put, YM, YN, YO, i64_w, i32_w]
   rfl
  refine done_ (done_of HT_.out (by kernel_rfl)) ?_
  try go_wp2
  have n0_ := YL (YU HO148.out)
  have n1_ := YL (YU HO151.out)
  have n2_ := YL (YG BK135.out)
  have n3_ := YL (YC HB.out)
  clear HO148; clear HO151; clear BK135; clear HB; have HO148 := n0_; have HO151 := n1_; have BK135 := n2_; have HB := n3_; clear n0_ n1_ n2_ n3_
  refine start_ (n := 14) (S := fun w' => w'.cell? ⟨gb135, 0, none⟩ = some (.bool false) ∧ w'.cell? ⟨gb135, 1, none⟩ = some (.int .i64 a0_1) ∧ w'.cell? ⟨gb135, 2, none⟩ = some (.int .i64 a0_2) ∧ w'.cell? ⟨gb135, 3, none⟩ = some (.int .i64 a0_3) ∧ w'.cell? ⟨gb135, 4, none⟩ = some (.int .i64 a0_4) ∧ w'.cell? ⟨gb135, 5, none⟩ = some (.int .i64 a0_5)) (ds := []) #[false, false, false, false, false, false, false, false, false, false, false, false, false, false] (by kernel_rfl) rfl rfl ⟨(YI BK135.out 0).trans rfl, (YI BK135.out 1).trans rfl, (YI BK135.out 2).trans rfl, (YI BK135.out 3).trans rfl, (YI BK135.out 4).trans rfl, (YI BK135.out 5).trans rfl⟩ (fun hHeld => ?_); refine with_tabW height_Bytes.tab8 height_Bytes.bits8 (fun HT_ HW_ => ?_)
  generalize w28.drew = w30 at HO148 HO151 BK135 HB hHeld ⊢
  refine pure_ (i := 0) (N := some 23) (v := ?_) (a' := ?_) #[true, false, false, false, false, false, false, false, false, false, false, false, false, false] rfl rfl (any_of HT_.out (by kernel_rfl)) (fun _ _ _ h => h) (Or.inl ⟨by rfl, ?_⟩) ?_ ?_
  rotate_left
  ·intro w'
   go_simp; with_reducible rfl
  rotate_left
  ·simp only [Act.put, YM, YN, YO, i64_w, i32_w]
   rfl
  refine pure_ (i := 1) (N := some 24) (v := ?_) (a' := ?_) #[true, true, false, false, false, false, false, false, false, false, false, false, false, false] rfl rfl (any_of HT_.out (by kernel_rfl)) (fun _ _ _ h => h) (Or.inl ⟨by rfl, ?_⟩) ?_ ?_
  rotate_left
  ·intro w'
   go_simp; with_reducible rfl
  rotate_left
  ·simp only [Act.put, YM, YN, YO, i64_w, i32_w]
   rfl
  refine pure_ (i := 4) (N := some 27) (v := ?_) (a' := ?_) #[true, true, false, false, true, false, false, false, false, false, false, false, false, false] rfl rfl (any_of HT_.out (by kernel_rfl)) (fun _ _ _ h => h) (Or.inl ⟨by rfl, ?_⟩) ?_ ?_
  rotate_left
  ·intro w'
   go_simp; with_reducible rfl
  rotate_left
  ·simp only [Act.put, YM, YN, YO, i64_w, i32_w]
   rfl
  refine pure_ (i := 9) (N := some 32) (v := ?_) (a' := ?_) #[true, true, false, false, true, false, false, false, false, true, false, false, false, false] rfl rfl (any_of HT_.out (by kernel_rfl)) (fun _ _ _ h => h) (Or.inl ⟨by rfl, ?_⟩) ?_ ?_
  rotate_left
  ·intro w'
   go_simp; with_reducible rfl
  rotate_left
  ·simp only [Act.put, YM, YN, YO, i64_w, i32_w]
   rfl
  refine take_ (i := 2) (N := some 25) (v := ?_) (a' := ?_) #[true, true, true, false, true, false, false, false, false, true, false, false, false, false] rfl rfl (take_ofW HT_.out HW_.out (by kernel_rfl)) (fun _ _ _ h => h) (Or.inl ⟨by rfl, ?_⟩) hHeld ?_ ?_
  rotate_left
  ·rintro w' ⟨s0, s1, s2, s3, s4, s5⟩
   go_simp; with_reducible rfl
  rotate_left
  ·simp only [Act.put, YM, YN, YO, i64_w, i32_w]
   rfl
  refine pure_ (i := 3) (N := some 26) (v := ?_) (a' := ?_) #[true, true, true, true, true, false, false, false, false, true, false, false, false, false] rfl rfl (any_of HT_.out (by kernel_rfl)) (fun _ _ _ h => h) (Or.inl ⟨by rfl, ?_⟩) ?_ ?_
  rotate_left
  ·intro w'
   go_simp; with_reducible rfl
  rotate_left
  ·simp only [Act.put, YM, YN, YO, i64_w, i32_w]
   rfl
  refine take_ (i := 5) (N := some 28) (v := ?_) (a' := ?_) #[true, true, true, true, true, true, false, false, false, true, false, false, false, false] rfl rfl (take_ofW HT_.out HW_.out (by kernel_rfl)) (fun _ _ _ h => h) (Or.inl ⟨by rfl, ?_⟩) hHeld ?_ ?_
  rotate_left
  ·rintro w' ⟨s0, s1, s2, s3, s4, s5⟩
   go_simp; with_reducible rfl
  rotate_left
  ·simp only [Act.put, YM, YN, YO, i64_w, i32_w]
   rfl
  refine pure_ (i := 6) (N := some 29) (v := ?_) (a' := ?_) #[true, true, true, true, true, true, true, false, false, true, false, false, false, false] rfl rfl (any_of HT_.out (by kernel_rfl)) (fun _ _ _ h => h) (Or.inl ⟨by rfl, ?_⟩) ?_ ?_
  rotate_left
  ·intro w'
   go_simp; with_reducible rfl
  rotate_left
  ·simp only [Act.put, YM, YN, YO, i64_w, i32_w]
   rfl
  refine take_ (i := 10) (N := some 33) (v := ?_) (a' := ?_) #[true, true, true, true, true, true, true, false, false, true, true, false, false, false] rfl rfl (take_ofW HT_.out HW_.out (by kernel_rfl)) (fun _ _ _ h => h) (Or.inl ⟨by rfl, ?_⟩) hHeld ?_ ?_
  rotate_left
  ·rintro w' ⟨s0, s1, s2, s3, s4, s5⟩
   go_simp; with_reducible rfl
  rotate_left
  ·simp only [Act.put, YM, YN, YO, i64_w, i32_w]
   rfl
  refine oneA (i := 7) (N := some 30) HT_ (fun K hK => ?_)
  refine Kd.R_lit_step (Kd.int .u8) _ 5 ?hg (N := 30) ?hd (xs := ([(a0_2) % 256, (a0_3) % 256] : List Int)) (inner := [.int .u8 ((a0_2) % 256), .int .u8 ((a0_3) % 256)]) (ok := fun _ => True) (okp := fun _ => True) ?hr ?hp (fun _ hk => hk) trivial (Below.refl _ _) (Nat.le_refl _) (by simp) ?_; (case hd => rfl); (case hg => rfl); (case hr => first | (go_simp; done) | (go_simp; rfl)); (case hp => exact (Reps.one (show Kd.M (Kd.int .u8) _ _ _ ((a0_2) % 256) [.int .u8 ((a0_2) % 256)] from rfl) (Reps.one (show Kd.M (Kd.int .u8) _ _ _ ((a0_3) % 256) [.int .u8 ((a0_3) % 256)] from rfl) (Reps.none _ _))))
  intro v153 w31 ho32 hb hg_ hnew_
  clear hg_ hnew_
  (first | rw [← Ny152.out] at ho32 | (simp only [Int.reduceToNat] at ho32; rw [← Ny152.out] at ho32))
  have n0_ := YL (Kd.R_elder' (upR HO148) (Kd.R_base ho32) hb)
  have n1_ := YL (Kd.R_elder' (upR HO151) (Kd.R_base ho32) hb)
  have n2_ := YL (Kd.R_lower (Kd.R_new' (Kd.R_new' ho32 (Kd.R_lt (upR HO148))) (Kd.R_lt (upR HO151))) (YE (upB HB)))
  have n3_ := YL (YK (g := gb135) (o := .cells #[.bool false, .int .i64 a0_1, .int .i64 a0_2, .int .i64 a0_3, .int .i64 a0_4, .int .i64 a0_5] 41 (0, 0)) (upK BK135) hb)
  have n4_ := YL (YD (upB HB) hb)
  clear HO148; clear HO151; clear BK135; clear HB; have HO148 := n0_; have HO151 := n1_; have HO154 := n2_; have BK135 := n3_; have HB := n4_; clear n0_ n1_ n2_ n3_ n4_; clear hb ho32
  obtain ⟨Ao34, co34, eo34⟩ := Kd.R_slice HO154.out
  (first | subst eo34 | (injection eo34 with f1_ f2_ f3_; have f4_ := f1_.symm; have f5_ := f3_.symm; clear f1_ f2_ f3_; subst f4_; subst f5_))
  refine hK.out _ _ ⟨(YI BK135.out 0).trans rfl, (YI BK135.out 1).trans rfl, (YI BK135.out 2).trans rfl, (YI BK135.out 3).trans rfl, (YI BK135.out 4).trans rfl, (YI BK135.out 5).trans rfl⟩ (fun hHeld => ?_)
  clear hK K
  refine normA (N := 30) ?_
  refine oneA (i := 8) (N := some 31) HT_ (fun K hK => ?_)
  refine Kd.R_append_rows_step (Kd.int .u8) (w0 := w) w.heap.size (by rfl) (.tmp 23) (.tmp 30) 26 5 (.int .u8 0) 1 rfl Try.underlying26 info5 rfl (by decide) (by omega) v150 y149 y152 _ _ _ (fun k_ => some k_ ≠ (.slice Ao29 t146.length co29 : Value).ownBlock ∧ some k_ ≠ (.slice Ao34 y152.length co34 : Value).ownBlock) (fun _ => False) rfl rfl ?aO ?aR (fun _ _ h => h) (fun _ h => h.elim) ?aF ?aB ?aS ?aL ?_
  (case aR => repeat (first | exact (Kd.R_reads' HO154.out).2.2 | (with_reducible refine Kd.C_alloc ?_ _) | (with_reducible refine Kd.C_drewN ?_ _) | (with_reducible refine Kd.C_drew ?_)))
  (case aB => exact (upB HB))
  (case aF => exact (fun k_ hk => ⟨Kd.fresh' (Kd.R_lt (upR HO148)) k_ hk, Kd.fresh' (Kd.R_lt (upR HO154)) k_ hk⟩))
  (case aO => exact (upR HO151))
  (case aS => exact (YE (upB HB)))
  (case aL => have := LMc17.out; omega)
  intro v156 w33 ho hb hg hat
  rw [← Ny155.out] at ho
  have n0_ := YL (blk_grown (g := gb135) (o := .cells #[.bool false, .int .i64 a0_1, .int .i64 a0_2, .int .i64 a0_3, .int .i64 a0_4, .int .i64 a0_5] 41 (0, 0)) (upK BK135) hg (Kd.R_ne HO151.out BK135.out (by decide)))
  have n1_ := YL (Kd.R_after (ok := (fun k_ => some k_ ≠ (.slice Ao34 y152.length co34 : Value).ownBlock)) (by (with_reducible repeat (first | apply YS | apply YT | apply YU)); exact Kd.R_mono HO148.out (fun _ hk => by first | exact ⟨hk.2, hk.1.2⟩ | exact trivial | (simp [hk]; done) | simp_all)) hg hat)
  have n2_ := YL (Kd.R_after (ok := (fun k_ => some k_ ≠ (.slice Ao29 t146.length co29 : Value).ownBlock)) (by (with_reducible repeat (first | apply YS | apply YT | apply YU)); exact Kd.R_mono HO154.out (fun _ hk => by first | exact ⟨hk.1.2, hk.2⟩ | exact trivial | (simp [hk]; done) | simp_all)) hg hat)
  have n3_ := YL (hb)
  have n4_ := YL (ho)
  clear BK135; clear HO148; clear HO154; clear HB; clear HO151; have BK135 := n0_; have HO148 := n1_; have HO154 := n2_; have HB := n3_; have HO157 := n4_; clear n0_ n1_ n2_ n3_ n4_; clear ho hb hg hat
  refine hK.out _ _ ⟨(YI BK135.out 0).trans rfl, (YI BK135.out 1).trans rfl, (YI BK135.out 2).trans rfl, (YI BK135.out 3).trans rfl, (YI BK135.out 4).trans rfl, (YI BK135.out 5).trans rfl⟩ (fun hHeld => ?_)
  clear hK K
  refine normA (N := 31) ?_
  refine oneA (i := 11) (N := some 34) HT_ (fun K hK => ?_)
  refine goes_ Try.func36 (by kernel_rfl) rfl #[.int .i64 a0_4] (by rfl) rfl rfl (by (try simp only [YP, List.map_cons, List.map_nil]); first | done | rfl | (simp only [YR, YQ]; rfl)) ?_
  with_reducible refine (wire_Int.calls a0_4 t158 _ A18.out).mono ?_
  rintro e w35 ⟨v159, rfl, ho0, hb⟩
  refine ⟨_, rfl, ?_⟩
  have n0_ := YL (Kd.R_elder' (upR HO148) (Kd.R_base ho0) hb)
  have n1_ := YL (Kd.R_elder' (upR HO154) (Kd.R_base ho0) hb)
  have n2_ := YL (Kd.R_elder' (upR HO157) (Kd.R_base ho0) hb)
  have n3_ := YL (Kd.R_lower (Kd.R_new' (Kd.R_new' (Kd.R_new' ho0 (Kd.R_lt (upR HO148))) (Kd.R_lt (upR HO154))) (Kd.R_lt (upR HO157))) (YE (upB HB)))
  have n4_ := YL (YK (g := gb135) (o := .cells #[.bool false, .int .i64 a0_1, .int .i64 a0_2, .int .i64 a0_3, .int .i64 a0_4, .int .i64 a0_5] 41 (0, 0)) (upK BK135) hb)
  have n5_ := YL (YD (upB HB) hb)
  clear HO148; clear HO154; clear HO157; clear BK135; clear HB; have HO148 := n0_; have HO154 := n1_; have HO157 := n2_; have HO160 := n3_; have BK135 := n4_; have HB := n5_; clear n0_ n1_ n2_ n3_ n4_ n5_; (try clear hb); (try clear hb2); (try clear hk); (try clear hi); (try clear ho0)
  obtain ⟨Ao37, co37, eo37⟩ := Kd.R_slice HO160.out
  (first | subst eo37 | (injection eo37 with f1_ f2_ f3_; have f4_ := f1_.symm; have f5_ := f3_.symm; clear f1_ f2_ f3_; subst f4_; subst f5_))
  refine hK.out _ _ ⟨(YI BK135.out 0).trans rfl, (YI BK135.out 1).trans rfl, (YI BK135.out 2).trans rfl, (YI BK135.out 3).trans rfl, (YI BK135.out 4).trans rfl, (YI BK135.out 5).trans rfl⟩ (fun hHeld => ?_)
  clear hK K
  refine normA (N := 34) ?_
  refine oneA (i := 12) (N := some 35) HT_ (fun K hK => ?_)
  refine Kd.R_append_rows_step (Kd.int .u8) (w0 := w) w.heap.size (by rfl) (.tmp 31) (.tmp 34) 26 5 (.int .u8 0) 1 rfl Try.underlying26 info5 rfl (by decide) (by omega) v156 y155 t158 _ _ _ (fun k_ => some k_ ≠ (.slice Ao29 t146.length co29 : Value).ownBlock ∧ some k_ ≠ (.slice Ao34 y152.length co34 : Value).ownBlock ∧ some k_ ≠ (.slice Ao37 t158.length co37 : Value).ownBlock) (fun _ => False) rfl rfl ?aO ?aR (fun _ _ h => h) (fun _ h => h.elim) ?aF ?aB ?aS ?aL ?_
  (case aR => repeat (first | exact (Kd.R_reads' HO160.out).2.2 | (with_reducible refine Kd.C_alloc ?_ _) | (with_reducible refine Kd.C_drewN ?_ _) | (with_reducible refine Kd.C_drew ?_)))
  (case aB => exact (upB HB))
  (case aF => exact (fun k_ hk => ⟨Kd.fresh' (Kd.R_lt (upR HO148)) k_ hk, Kd.fresh' (Kd.R_lt (upR HO154)) k_ hk, Kd.fresh' (Kd.R_lt (upR HO160)) k_ hk⟩))
  (case aO => exact (by (with_reducible repeat (first | apply YS | apply YT | apply YU)); exact Kd.R_mono HO157.out (fun _ hk => by first | exact ⟨hk.1.1, ⟨hk.1.2, hk.2⟩⟩ | exact trivial | (simp [hk]; done) | simp_all)))
  (case aS => exact (YE (upB HB)))
  (case aL => have := LMc19.out; omega)
  intro v162 w36 ho hb hg hat
  rw [← Ny161.out] at ho
  have n0_ := YL (blk_grown (g := gb135) (o := .cells #[.bool false, .int .i64 a0_1, .int .i64 a0_2, .int .i64 a0_3, .int .i64 a0_4, .int .i64 a0_5] 41 (0, 0)) (upK BK135) hg (Kd.R_ne HO157.out BK135.out (by decide)))
  have n1_ := YL (Kd.R_after (ok := (fun k_ => some k_ ≠ (.slice Ao34 y152.length co34 : Value).ownBlock ∧ some k_ ≠ (.slice Ao37 t158.length co37 : Value).ownBlock)) (by (with_reducible repeat (first | apply YS | apply YT | apply YU)); exact Kd.R_mono HO148.out (fun _ hk => by first | exact ⟨⟨hk.1.1, hk.2⟩, hk.1.2⟩ | exact trivial | (simp [hk]; done) | simp_all)) hg hat)
  have n2_ := YL (Kd.R_after (ok := (fun k_ => some k_ ≠ (.slice Ao29 t146.length co29 : Value).ownBlock ∧ some k_ ≠ (.slice Ao37 t158.length co37 : Value).ownBlock)) (by (with_reducible repeat (first | apply YS | apply YT | apply YU)); exact Kd.R_mono HO154.out (fun _ hk => by first | exact ⟨⟨hk.1.1, hk.2⟩, hk.1.2⟩ | exact trivial | (simp [hk]; done) | simp_all)) hg hat)
  have n3_ := YL (Kd.R_after (ok := (fun k_ => some k_ ≠ (.slice Ao29 t146.length co29 : Value).ownBlock ∧ some k_ ≠ (.slice Ao34 y152.length co34 : Value).ownBlock)) (by (with_reducible repeat (first | apply YS | apply YT | apply YU)); exact Kd.R_mono HO160.out (fun _ hk => by first | exact ⟨⟨hk.1.1.2, hk.1.2⟩, hk.2⟩ | exact trivial | (simp [hk]; done) | simp_all)) hg hat)
  have n4_ := YL (hb)
  have n5_ := YL (ho)
  clear BK135; clear HO148; clear HO154; clear HO160; clear HB; clear HO157; have BK135 := n0_; have HO148 := n1_; have HO154 := n2_; have HO160 := n3_; have HB := n4_; have HO163 := n5_; clear n0_ n1_ n2_ n3_ n4_ n5_; clear ho hb hg hat
  refine hK.out _ _ ⟨(YI BK135.out 0).trans rfl, (YI BK135.out 1).trans rfl, (YI BK135.out 2).trans rfl, (YI BK135.out 3).trans rfl, (YI BK135.out 4).trans rfl, (YI BK135.out 5).trans rfl⟩ (fun hHeld => ?_)
  clear hK K
  refine normA (N := 35) ?_
  refine pure_ (i := 13) (N := some 5) (v := ?_) (a' := ?_) #[true, true, true, true, true, true, true, true, true, true, true, true, true, true] rfl rfl (any_of HT_.out (by kernel_rfl)) (fun _ _ _ h => h) (Or.inl ⟨by rfl, ?_⟩) ?_ ?_
  rotate_left
  ·intro w'
   go_simp; with_reducible rfl
  rotate_left
  ·simp only [Act.put, YM, YN, YO, i64_w, i32_w]
   rfl
  refine done_ (done_of HT_.out (by kernel_rfl)) ?_
  have q38_0 : w36.cell? ⟨gb135, 0, none⟩ = some (.bool false) := (YI BK135.out 0).trans rfl
  have q38_1 : w36.cell? ⟨gb135, 1, none⟩ = some (.int .i64 a0_1) := (YI BK135.out 1).trans rfl
  have q38_2 : w36.cell? ⟨gb135, 2, none⟩ = some (.int .i64 a0_2) := (YI BK135.out 2).trans rfl
  have q38_3 : w36.cell? ⟨gb135, 3, none⟩ = some (.int .i64 a0_3) := (YI BK135.out 3).trans rfl
  have q38_4 : w36.cell? ⟨gb135, 4, none⟩ = some (.int .i64 a0_4) := (YI BK135.out 4).trans rfl
  have q38_5 : w36.cell? ⟨gb135, 5, none⟩ = some (.int .i64 a0_5) := (YI BK135.out 5).trans rfl
  have f38_0 := YJ BK135.out 0
  have f38_1 := YJ BK135.out 1
  have f38_2 := YJ BK135.out 2
  have f38_3 := YJ BK135.out 3
  have f38_4 := YJ BK135.out 4
  have f38_5 := YJ BK135.out 5
  try go_wp2_with (first | ((with_reducible refine gate_builtin (b := .append) (xs := #[.tmp 36, .tmp 40]) rfl ?_); at_builtin; refine Kd.R_append (Kd.int .u8) (w0 := w) w.heap.size rfl (.tmp 36) (.tmp 40) 26 5 (.int .u8 0) 1 rfl Try.underlying26 info5 rfl (by decide) (by omega) v162 y161 ((a0_5) % 256) [.int .u8 ((a0_5) % 256)] (fun k_ => some k_ ≠ (.slice Ao29 t146.length co29 : Value).ownBlock ∧ some k_ ≠ (.slice Ao34 y152.length co34 : Value).ownBlock ∧ some k_ ≠ (.slice Ao37 t158.length co37 : Value).ownBlock) (fun _ => False) rfl rfl ?aP (fun _ hk => hk.elim) ?aF ?aO ?aB ?aS ?aL ?_; (case aP => exact rfl); (case aB => exact (upB HB)); (case aF => exact (fun k_ hk => ⟨Kd.fresh' (Kd.R_lt (upR HO148)) k_ hk, Kd.fresh' (Kd.R_lt (upR HO154)) k_ hk, Kd.fresh' (Kd.R_lt (upR HO160)) k_ hk⟩)); (case aO => exact (upR HO163)); (case aS => exact (YE (upB HB))); (case aL => have := LMc20.out; omega); intro v165 w39 ho hb hg hat; rw [← Ny164.out] at ho; have n0_ := YL (blk_grown (g := gb135) (o := .cells #[.bool false, .int .i64 a0_1, .int .i64 a0_2, .int .i64 a0_3, .int .i64 a0_4, .int .i64 a0_5] 41 (0, 0)) (upK BK135) hg (Kd.R_ne HO163.out BK135.out (by decide))); have n1_ := YL (Kd.R_after (ok := (fun k_ => some k_ ≠ (.slice Ao34 y152.length co34 : Value).ownBlock ∧ some k_ ≠ (.slice Ao37 t158.length co37 : Value).ownBlock)) (upR HO148) hg hat); have n2_ := YL (Kd.R_after (ok := (fun k_ => some k_ ≠ (.slice Ao29 t146.length co29 : Value).ownBlock ∧ some k_ ≠ (.slice Ao37 t158.length co37 : Value).ownBlock)) (upR HO154) hg hat); have n3_ := YL (Kd.R_after (ok := (fun k_ => some k_ ≠ (.slice Ao29 t146.length co29 : Value).ownBlock ∧ some k_ ≠ (.slice Ao34 y152.length co34 : Value).ownBlock)) (upR HO160) hg hat); have n4_ := YL (hb); have n5_ := YL (ho); clear BK135; clear HO148; clear HO154; clear HO160; clear HB; clear HO163; have BK135 := n0_; have HO148 := n1_; have HO154 := n2_; have HO160 := n3_; have HB := n4_; have HO166 := n5_; clear n0_ n1_ n2_ n3_ n4_ n5_; clear ho hb hg hat))
  go_ret2
  exact ⟨_, by first | rfl | (simp [errW_none, errW_some] <;> rfl) | (simp [*, errW_none, errW_some] <;> rfl), by (with_reducible repeat (first | apply YS | apply YT | apply YU)); exact Kd.R_mono HO166.out (fun _ hk => trivial), by repeat (first | (with_reducible first | exact HB.out | apply YA | apply YB | apply YC | refine below_set ?_ GE135.out) | exact HB.out)⟩
 rw [if_neg c3] at H
 have c3b0 : (t136 == 0) = false := beq_eq_false_iff_ne.mpr c3
 have c3b1 : (t136 != 0) = true := bne_iff_ne.mpr c3
 simp only [Option.some.injEq, Prod.mk.injEq] at H
 obtain ⟨rfl, rfl⟩ := H
 go_enter Try.func35, Try.ntmps35
 go_wp2_with (first | ((with_reducible refine gate_dst (N := 1) rfl ?_); refine box_event ?hg (N := 1) ?hd (cs := #[.bool a0_0, .int .i64 a0_1, .int .i64 a0_2, .int .i64 a0_3, .int .i64 a0_4, .int .i64 a0_5]) (t := 41) ?hr ?_; (case hd => rfl); (case hg => rfl); (case hr => first | (go_simp; done) | (go_simp; rfl)); intro gb135 hg w40 hbox hb; have n0_ := YL (YD (upB HB) hb); have n1_ := YL (hbox); have n2_ := YL ((by rw [hg]; exact (YE (upB HB)) : w.heap.size ≤ gb135)); have n3_ := YL ((by rw [hg]; exact (YE (upB HB)) : w.heap.size ≤ gb135)); clear HB; have HB := n0_; have BK135 := n1_; have GW135 := n2_; have GE135 := n3_; clear n0_ n1_ n2_ n3_; clear hb hbox hg; have q41_0 : w40.cell? ⟨gb135, 0, none⟩ = some (.bool a0_0) := (YI BK135.out 0).trans rfl; have q41_1 : w40.cell? ⟨gb135, 1, none⟩ = some (.int .i64 a0_1) := (YI BK135.out 1).trans rfl; have q41_2 : w40.cell? ⟨gb135, 2, none⟩ = some (.int .i64 a0_2) := (YI BK135.out 2).trans rfl; have q41_3 : w40.cell? ⟨gb135, 3, none⟩ = some (.int .i64 a0_3) := (YI BK135.out 3).trans rfl; have q41_4 : w40.cell? ⟨gb135, 4, none⟩ = some (.int .i64 a0_4) := (YI BK135.out 4).trans rfl; have q41_5 : w40.cell? ⟨gb135, 5, none⟩ = some (.int .i64 a0_5) := (YI BK135.out 5).trans rfl; have f41_0 := YJ BK135.out 0; have f41_1 := YJ BK135.out 1; have f41_2 := YJ BK135.out 2; have f41_3 := YJ BK135.out 3; have f41_4 := YJ BK135.out 4; have f41_5 := YJ BK135.out 5) | ((with_reducible refine gate_callee (f := 44) rfl ?_); refine goesA (some 7) Try.func44 #[.agg #[.bool a0_0, .int .i64 a0_1, .int .i64 a0_2, .int .i64 a0_3, .int .i64 a0_4, .int .i64 a0_5]] ?_; (with_reducible refine (height_Check.calls k a0_0 a0_1 a0_2 a0_3 a0_4 a0_5 t136 _ A2.out).mono ?_); rintro e w42 ⟨rfl, hb⟩; refine ⟨_, rfl, ?_⟩; have n0_ := YL (YK (g := gb135) (o := .cells #[.bool a0_0, .int .i64 a0_1, .int .i64 a0_2, .int .i64 a0_3, .int .i64 a0_4, .int .i64 a0_5] 41 (0, 0)) (upK BK135) hb); have n1_ := YL (YD (upB HB) hb); clear BK135; clear HB; have BK135 := n0_; have HB := n1_; clear n0_ n1_; (try clear hb); (try clear hb2); (try clear hk); (try clear hi)))
 go_ret2
 exact ⟨_, by first | rfl | (simp [errW_none, errW_some] <;> rfl) | (simp [*, errW_none, errW_some] <;> rfl), by first | exact Kd.R_nil _ _ _ _ _ | exact Kd.N_nil _ _ _ _ _ | exact Kd.V_nil _ _ _ _ _ | exact Kd.Q_nil _ _ _ _ _ | exact Kd.S_nil _ _ _ _ _, by repeat (first | (with_reducible first | exact HB.out | apply YA | apply YB | apply YC | refine below_set ?_ GE135.out) | exact HB.out)⟩
def object_Bytes.j0 : Nat → List Int → Int → Bool → Int → Int → Bool → Int → Int → Int → Int → Int → Int → Int → Int → Int → Option (List Int × Int)
 | 0, _, _, _, _, _, _, _, _, _, _, _, _, _, _, _ => none
 | k + 1, x5, x21, x22, x168000, x168001, x168002, x168003, x168004, x168005, x168006, x168007, x168008, x168009, x168010, x168011 => if x22 = true then ((height_Bytes.f k x168002 x168003 x168004 x168005 x168006 x168007).bind fun bt172 => (if bt172.2 = 0 then (if x5.length + bt172.1.length < 140737488355328 then ((some (x5 ++ bt172.1 : List Int)).bind fun y176 => (if x168000 = 4 then ((some (([(x168011 / 256) % 256, (x168011) % 256] : List Int) : List Int)).bind fun y179 => (if y176.length + y179.length < 140737488355328 then (some ((y176 ++ y179), 0)) else (none))) else (some (y176, 0)))) else (none)) else (some (([] : List Int), bt172.2)))) else (if x21 = 3 then ((wire_Int.f x168008).bind fun t185 => (if x5.length + t185.length < 140737488355328 then ((some (x5 ++ t185 : List Int)).bind fun y188 => ((some (([(x168009) % 256, (x168010) % 256] : List Int) : List Int)).bind fun y191 => (if y188.length + y191.length < 140737488355328 then ((some (y188 ++ y191 : List Int)).bind fun y194 => (if x168000 = 4 then ((some (([(x168011 / 256) % 256, (x168011) % 256] : List Int) : List Int)).bind fun y197 => (if y194.length + y197.length < 140737488355328 then (some ((y194 ++ y197), 0)) else (none))) else (some (y194, 0)))) else (none)))) else (none))) else (if x168000 = 4 then ((some (([(x168011 / 256) % 256, (x168011) % 256] : List Int) : List Int)).bind fun y203 => (if x5.length + y203.length < 140737488355328 then (some ((x5 ++ y203), 0)) else (none))) else (some (x5, 0))))
def object_Bytes.f (k : Nat) (a0_0 : Int) (a0_1 : Int) (a0_2 : Bool) (a0_3 : Int) (a0_4 : Int) (a0_5 : Int) (a0_6 : Int) (a0_7 : Int) (a0_8 : Int) (a0_9 : Int) (a0_10 : Int) (a0_11 : Int) : Option (List Int × Int) := (object_Check.f k a0_0 a0_1 a0_2 a0_3 a0_4 a0_5 a0_6 a0_7 a0_8 a0_9 a0_10 a0_11).bind fun t168 => (if t168 = 0 then ((some (([(a0_0) % 256, (a0_1) % 256] : List Int) : List Int)).bind fun y169 => (if a0_0 = 2 then (object_Bytes.j0 k y169 a0_0 (a0_0 == 2) a0_0 a0_1 a0_2 a0_3 a0_4 a0_5 a0_6 a0_7 a0_8 a0_9 a0_10 a0_11) else (object_Bytes.j0 k y169 a0_0 (a0_0 == 4) a0_0 a0_1 a0_2 a0_3 a0_4 a0_5 a0_6 a0_7 a0_8 a0_9 a0_10 a0_11))) else (some (([] : List Int), t168)))
theorem object_Bytes.mono_l : ∀ k, (∀ y0 y1 y2 y3 y4 y5 y6 y7 y8 y9 y10 y11 y12 y13 y14, LeO (object_Bytes.j0 k y0 y1 y2 y3 y4 y5 y6 y7 y8 y9 y10 y11 y12 y13 y14) (object_Bytes.j0 (k + 1) y0 y1 y2 y3 y4 y5 y6 y7 y8 y9 y10 y11 y12 y13 y14))
 | 0 => fun _ _ _ _ _ _ _ _ _ _ _ _ _ _ _ r h => by simp [object_Bytes.j0] at h
 | k + 1 => by
  have ih0 := object_Bytes.mono_l k
  ·intro y0 y1 y2 y3 y4 y5 y6 y7 y8 y9 y10 y11 y12 y13 y14
   unfold object_Bytes.j0
   repeat' first
   | (with_reducible exact ih0 _ _ _ _ _ _ _ _ _ _ _ _ _ _ _)
   | (with_reducible exact height_Bytes.mono _ _ _ _ _ _ _)
   | (with_reducible exact object_Check.mono _ _ _ _ _ _ _ _ _ _ _ _ _)
   | (with_reducible exact LeO.refl _)
   | (with_reducible exact LeO.none _)
   | (with_reducible refine LeO.ite ?_ ?_)
   | (with_reducible refine LeO.bind ?_ (fun _ => ?_))
   | exact ih0 _ _ _ _ _ _ _ _ _ _ _ _ _ _ _
   | exact height_Bytes.mono _ _ _ _ _ _ _
   | exact object_Check.mono _ _ _ _ _ _ _ _ _ _ _ _ _
   | exact LeO.none _
   | refine LeO.ite ?_ ?_
   | refine LeO.bind ?_ (fun _ => ?_)
theorem object_Bytes.mono : ∀ a0 a1 a2 a3 a4 a5 a6 a7 a8 a9 a10 a11 k, LeO (object_Bytes.f k a0 a1 a2 a3 a4 a5 a6 a7 a8 a9 a10 a11) (object_Bytes.f (k + 1) a0 a1 a2 a3 a4 a5 a6 a7 a8 a9 a10 a11) := by
 intro a0 a1 a2 a3 a4 a5 a6 a7 a8 a9 a10 a11 k
 have ih0 := object_Bytes.mono_l k
 unfold object_Bytes.f
 repeat' first
   | (with_reducible exact ih0 _ _ _ _ _ _ _ _ _ _ _ _ _ _ _)
   | (with_reducible exact height_Bytes.mono _ _ _ _ _ _ _)
   | (with_reducible exact object_Check.mono _ _ _ _ _ _ _ _ _ _ _ _ _)
   | (with_reducible exact LeO.refl _)
   | (with_reducible exact LeO.none _)
   | (with_reducible refine LeO.ite ?_ ?_)
   | (with_reducible refine LeO.bind ?_ (fun _ => ?_))
   | exact ih0 _ _ _ _ _ _ _ _ _ _ _ _ _ _ _
   | exact height_Bytes.mono _ _ _ _ _ _ _
   | exact object_Check.mono _ _ _ _ _ _ _ _ _ _ _ _ _
   | exact LeO.none _
   | refine LeO.ite ?_ ?_
   | refine LeO.bind ?_ (fun _ => ?_)
def object_Bytes.T13 : Bool × List (List Nat × List Nat) := (true, [([], []), ([], []), ([1], [1]), ([2], [2]), ([3], [3]), ([0, 4, 4], [0, 4]), ([], []), ([6], [6]), ([7], [7]), ([8], [8]), ([], []), ([10], [10]), ([11], [11]), ([12], [12]), ([9, 13], [9, 13]), ([5, 14, 5], [5, 14]), ([15, 15, 0, 1, 2, 3, 4, 5, 6, 7, 8, 9, 10, 11, 12, 13, 14, 15], [0, 15])])
def object_Bytes.B13 : List Nat := [0, 0, 2, 6, 14, 31, 0, 64, 192, 448, 0, 1024, 3072, 7168, 16320, 32767, 65535]
theorem object_Bytes.tab13 : rtab .any (opsOf Try.f23 13) = object_Bytes.T13 := by kernel_rfl
theorem object_Bytes.bits13 : waitsOk object_Bytes.T13.2 object_Bytes.B13 = true := by kernel_rfl
theorem object_Bytes.calls (k : Nat) (a0_0 : Int) (a0_1 : Int) (a0_2 : Bool) (a0_3 : Int) (a0_4 : Int) (a0_5 : Int) (a0_6 : Int) (a0_7 : Int) (a0_8 : Int) (a0_9 : Int) (a0_10 : Int) (a0_11 : Int) (r1 : List Int) (r2 : Int) (w : World) (h : object_Bytes.f k a0_0 a0_1 a0_2 a0_3 a0_4 a0_5 a0_6 a0_7 a0_8 a0_9 a0_10 a0_11 = some (r1, r2)) :
  Calls Try.prog 23 #[.agg #[.int .i64 a0_0, .int .i64 a0_1, .bool a0_2, .int .i64 a0_3, .int .i64 a0_4, .int .i64 a0_5, .int .i64 a0_6, .int .i64 a0_7, .int .i64 a0_8, .int .i64 a0_9, .int .i64 a0_10, .int .i64 a0_11]] w fun e w' => ∃ v0_ : Value, e = .returned (.tuple #[v0_, .int .i64 r2]) ∧ Kd.R (Kd.int .u8) 5 w' w.heap.size (fun _ => True) v0_ r1 ∧ Below w.heap.size w w' := by
 have hu45 := Try.underlying45
 have hu41 := Try.underlying41
 have HB := YL (Below.refl w.heap.size w)
 have H : ((object_Check.f k a0_0 a0_1 a0_2 a0_3 a0_4 a0_5 a0_6 a0_7 a0_8 a0_9 a0_10 a0_11).bind fun t168 => (if t168 = 0 then ((some (([(a0_0) % 256, (a0_1) % 256] : List Int) : List Int)).bind fun y169 => (if a0_0 = 2 then (object_Bytes.j0 k y169 a0_0 (a0_0 == 2) a0_0 a0_1 a0_2 a0_3 a0_4 a0_5 a0_6 a0_7 a0_8 a0_9 a0_10 a0_11) else (object_Bytes.j0 k y169 a0_0 (a0_0 == 4) a0_0 a0_1 a0_2 a0_3 a0_4 a0_5 a0_6 a0_7 a0_8 a0_9 a0_10 a0_11))) else (some (([] : List Int), t168)))) = some (r1, r2) := h
 clear h; replace H := Option.bind_eq_some_iff.mp H; obtain ⟨t168, A20, H⟩ := H
 replace H : (if t168 = 0 then ((some (([(a0_0) % 256, (a0_1) % 256] : List Int) : List Int)).bind fun y169 => (if a0_0 = 2 then (object_Bytes.j0 k y169 a0_0 (a0_0 == 2) a0_0 a0_1 a0_2 a0_3 a0_4 a0_5 a0_6 a0_7 a0_8 a0_9 a0_10 a0_11) else (object_Bytes.j0 k y169 a0_0 (a0_0 == 4) a0_0 a0_1 a0_2 a0_3 a0_4 a0_5 a0_6 a0_7 a0_8 a0_9 a0_10 a0_11))) else (some (([] : List Int), t168))) = some (r1, r2) := H
 have A2 := YL A20; clear A20
 by_cases c3 : t168 = 0
 ·rw [if_pos c3] at H
  have c3b0 : (t168 == 0) = true := beq_iff_eq.mpr c3
  have c3b1 : (t168 != 0) = false := bne_eq_false_iff_eq.mpr c3
  clear c3
  obtain ⟨y169, hy169⟩ : ∃ y_ : List Int, y_ = (([(a0_0) % 256, (a0_1) % 256] : List Int)) := ⟨_, rfl⟩
  replace H : (if a0_0 = 2 then (object_Bytes.j0 k y169 a0_0 (a0_0 == 2) a0_0 a0_1 a0_2 a0_3 a0_4 a0_5 a0_6 a0_7 a0_8 a0_9 a0_10 a0_11) else (object_Bytes.j0 k y169 a0_0 (a0_0 == 4) a0_0 a0_1 a0_2 a0_3 a0_4 a0_5 a0_6 a0_7 a0_8 a0_9 a0_10 a0_11)) = some (r1, r2) := by first | (rw [hy169]; with_reducible exact H) | (have H2_ := (Option.bind_some _ _).symm.trans H; rw [hy169]; with_reducible exact H2_) | (have H2_ := (Option.bind_some _ _).symm.trans H; with_reducible exact H2_) | with_reducible exact H | (rw [hy169]; exact H) | exact H
  have Ny169 := YL hy169; clear hy169; have HC4 := YL H; clear H
  go_enter Try.func23, Try.ntmps23
  go_upto_if 22 with (first | ((with_reducible refine gate_dst (N := 1) rfl ?_); refine box_event ?hg (N := 1) ?hd (cs := #[.int .i64 a0_0, .int .i64 a0_1, .bool a0_2, .int .i64 a0_3, .int .i64 a0_4, .int .i64 a0_5, .int .i64 a0_6, .int .i64 a0_7, .int .i64 a0_8, .int .i64 a0_9, .int .i64 a0_10, .int .i64 a0_11]) (t := 45) ?hr ?_; (case hd => rfl); (case hg => rfl); (case hr => first | (go_simp; done) | (go_simp; rfl)); intro gb167 hg w5 hbox hb; have n0_ := YL (YD (upB HB) hb); have n1_ := YL (hbox); have n2_ := YL ((by rw [hg]; exact (YE (upB HB)) : w.heap.size ≤ gb167)); have n3_ := YL ((by rw [hg]; exact (YE (upB HB)) : w.heap.size ≤ gb167)); clear HB; have HB := n0_; have BK167 := n1_; have GW167 := n2_; have GE167 := n3_; clear n0_ n1_ n2_ n3_; clear hb hbox hg; have q6_0 : w5.cell? ⟨gb167, 0, none⟩ = some (.int .i64 a0_0) := (YI BK167.out 0).trans rfl; have q6_1 : w5.cell? ⟨gb167, 1, none⟩ = some (.int .i64 a0_1) := (YI BK167.out 1).trans rfl; have q6_2 : w5.cell? ⟨gb167, 2, none⟩ = some (.bool a0_2) := (YI BK167.out 2).trans rfl; have q6_3 : w5.cell? ⟨gb167, 3, none⟩ = some (.int .i64 a0_3) := (YI BK167.out 3).trans rfl; have q6_4 : w5.cell? ⟨gb167, 4, none⟩ = some (.int .i64 a0_4) := (YI BK167.out 4).trans rfl; have q6_5 : w5.cell? ⟨gb167, 5, none⟩ = some (.int .i64 a0_5) := (YI BK167.out 5).trans rfl; have q6_6 : w5.cell? ⟨gb167, 6, none⟩ = some (.int .i64 a0_6) := (YI BK167.out 6).trans rfl; have q6_7 : w5.cell? ⟨gb167, 7, none⟩ = some (.int .i64 a0_7) := (YI BK167.out 7).trans rfl; have q6_8 : w5.cell? ⟨gb167, 8, none⟩ = some (.int .i64 a0_8) := (YI BK167.out 8).trans rfl; have q6_9 : w5.cell? ⟨gb167, 9, none⟩ = some (.int .i64 a0_9) := (YI BK167.out 9).trans rfl; have q6_10 : w5.cell? ⟨gb167, 10, none⟩ = some (.int .i64 a0_10) := (YI BK167.out 10).trans rfl; have q6_11 : w5.cell? ⟨gb167, 11, none⟩ = some (.int .i64 a0_11) := (YI BK167.out 11).trans rfl; have f6_0 := YJ BK167.out 0; have f6_1 := YJ BK167.out 1; have f6_2 := YJ BK167.out 2; have f6_3 := YJ BK167.out 3; have f6_4 := YJ BK167.out 4; have f6_5 := YJ BK167.out 5; have f6_6 := YJ BK167.out 6; have f6_7 := YJ BK167.out 7; have f6_8 := YJ BK167.out 8; have f6_9 := YJ BK167.out 9; have f6_10 := YJ BK167.out 10; have f6_11 := YJ BK167.out 11) | ((with_reducible refine gate_callee (f := 34) rfl ?_); refine goesA (some 9) Try.func34 #[.agg #[.int .i64 a0_0, .int .i64 a0_1, .bool a0_2, .int .i64 a0_3, .int .i64 a0_4, .int .i64 a0_5, .int .i64 a0_6, .int .i64 a0_7, .int .i64 a0_8, .int .i64 a0_9, .int .i64 a0_10, .int .i64 a0_11]] ?_; (with_reducible refine (object_Check.calls k a0_0 a0_1 a0_2 a0_3 a0_4 a0_5 a0_6 a0_7 a0_8 a0_9 a0_10 a0_11 t168 _ A2.out).mono ?_); rintro e w7 ⟨rfl, hb⟩; refine ⟨_, rfl, ?_⟩; have n0_ := YL (YK (g := gb167) (o := .cells #[.int .i64 a0_0, .int .i64 a0_1, .bool a0_2, .int .i64 a0_3, .int .i64 a0_4, .int .i64 a0_5, .int .i64 a0_6, .int .i64 a0_7, .int .i64 a0_8, .int .i64 a0_9, .int .i64 a0_10, .int .i64 a0_11] 45 (0, 0)) (upK BK167) hb); have n1_ := YL (YD (upB HB) hb); clear BK167; clear HB; have BK167 := n0_; have HB := n1_; clear n0_ n1_; (try clear hb); (try clear hb2); (try clear hk); (try clear hi); have q8_0 : w7.cell? ⟨gb167, 0, none⟩ = some (.int .i64 a0_0) := (YI BK167.out 0).trans rfl; have q8_1 : w7.cell? ⟨gb167, 1, none⟩ = some (.int .i64 a0_1) := (YI BK167.out 1).trans rfl; have q8_2 : w7.cell? ⟨gb167, 2, none⟩ = some (.bool a0_2) := (YI BK167.out 2).trans rfl; have q8_3 : w7.cell? ⟨gb167, 3, none⟩ = some (.int .i64 a0_3) := (YI BK167.out 3).trans rfl; have q8_4 : w7.cell? ⟨gb167, 4, none⟩ = some (.int .i64 a0_4) := (YI BK167.out 4).trans rfl; have q8_5 : w7.cell? ⟨gb167, 5, none⟩ = some (.int .i64 a0_5) := (YI BK167.out 5).trans rfl; have q8_6 : w7.cell? ⟨gb167, 6, none⟩ = some (.int .i64 a0_6) := (YI BK167.out 6).trans rfl; have q8_7 : w7.cell? ⟨gb167, 7, none⟩ = some (.int .i64 a0_7) := (YI BK167.out 7).trans rfl; have q8_8 : w7.cell? ⟨gb167, 8, none⟩ = some (.int .i64 a0_8) := (YI BK167.out 8).trans rfl; have q8_9 : w7.cell? ⟨gb167, 9, none⟩ = some (.int .i64 a0_9) := (YI BK167.out 9).trans rfl; have q8_10 : w7.cell? ⟨gb167, 10, none⟩ = some (.int .i64 a0_10) := (YI BK167.out 10).trans rfl; have q8_11 : w7.cell? ⟨gb167, 11, none⟩ = some (.int .i64 a0_11) := (YI BK167.out 11).trans rfl; have f8_0 := YJ BK167.out 0; have f8_1 := YJ BK167.out 1; have f8_2 := YJ BK167.out 2; have f8_3 := YJ BK167.out 3; have f8_4 := YJ BK167.out 4; have f8_5 := YJ BK167.out 5; have f8_6 := YJ BK167.out 6; have f8_7 := YJ BK167.out 7; have f8_8 := YJ BK167.out 8; have f8_9 := YJ BK167.out 9; have f8_10 := YJ BK167.out 10; have f8_11 := YJ BK167.out 11) | ((with_reducible refine gate_dst (N := 19) rfl ?_); refine Kd.R_lit (Kd.int .u8) _ 5 ?hg (N := 19) ?hd (xs := ([(a0_0) % 256, (a0_1) % 256] : List Int)) (inner := [.int .u8 ((a0_0) % 256), .int .u8 ((a0_1) % 256)]) (ok := fun _ => True) (okp := fun _ => True) ?hr ?hp (fun _ hk => hk) trivial (Below.refl _ _) (Nat.le_refl _) (by simp) ?_; (case hd => rfl); (case hg => rfl); (case hr => first | (go_simp; done) | (go_simp; rfl)); (case hp => exact (Reps.one (show Kd.M (Kd.int .u8) _ _ _ ((a0_0) % 256) [.int .u8 ((a0_0) % 256)] from rfl) (Reps.one (show Kd.M (Kd.int .u8) _ _ _ ((a0_1) % 256) [.int .u8 ((a0_1) % 256)] from rfl) (Reps.none _ _)))); intro v170 w9 ho10 hb hg_ hnew_; clear hg_ hnew_; (first | rw [← Ny169.out] at ho10 | (simp only [Int.reduceToNat] at ho10; rw [← Ny169.out] at ho10)); have n0_ := YL (Kd.R_lower ho10 (YE (upB HB))); have n1_ := YL (YK (g := gb167) (o := .cells #[.int .i64 a0_0, .int .i64 a0_1, .bool a0_2, .int .i64 a0_3, .int .i64 a0_4, .int .i64 a0_5, .int .i64 a0_6, .int .i64 a0_7, .int .i64 a0_8, .int .i64 a0_9, .int .i64 a0_10, .int .i64 a0_11] 45 (0, 0)) (upK BK167) hb); have n2_ := YL (YD (upB HB) hb); clear BK167; clear HB; have HO171 := n0_; have BK167 := n1_; have HB := n2_; clear n0_ n1_ n2_; clear hb ho10; have q11_0 : w9.cell? ⟨gb167, 0, none⟩ = some (.int .i64 a0_0) := (YI BK167.out 0).trans rfl; have q11_1 : w9.cell? ⟨gb167, 1, none⟩ = some (.int .i64 a0_1) := (YI BK167.out 1).trans rfl; have q11_2 : w9.cell? ⟨gb167, 2, none⟩ = some (.bool a0_2) := (YI BK167.out 2).trans rfl; have q11_3 : w9.cell? ⟨gb167, 3, none⟩ = some (.int .i64 a0_3) := (YI BK167.out 3).trans rfl; have q11_4 : w9.cell? ⟨gb167, 4, none⟩ = some (.int .i64 a0_4) := (YI BK167.out 4).trans rfl; have q11_5 : w9.cell? ⟨gb167, 5, none⟩ = some (.int .i64 a0_5) := (YI BK167.out 5).trans rfl; have q11_6 : w9.cell? ⟨gb167, 6, none⟩ = some (.int .i64 a0_6) := (YI BK167.out 6).trans rfl; have q11_7 : w9.cell? ⟨gb167, 7, none⟩ = some (.int .i64 a0_7) := (YI BK167.out 7).trans rfl; have q11_8 : w9.cell? ⟨gb167, 8, none⟩ = some (.int .i64 a0_8) := (YI BK167.out 8).trans rfl; have q11_9 : w9.cell? ⟨gb167, 9, none⟩ = some (.int .i64 a0_9) := (YI BK167.out 9).trans rfl; have q11_10 : w9.cell? ⟨gb167, 10, none⟩ = some (.int .i64 a0_10) := (YI BK167.out 10).trans rfl; have q11_11 : w9.cell? ⟨gb167, 11, none⟩ = some (.int .i64 a0_11) := (YI BK167.out 11).trans rfl; have f11_0 := YJ BK167.out 0; have f11_1 := YJ BK167.out 1; have f11_2 := YJ BK167.out 2; have f11_3 := YJ BK167.out 3; have f11_4 := YJ BK167.out 4; have f11_5 := YJ BK167.out 5; have f11_6 := YJ BK167.out 6; have f11_7 := YJ BK167.out 7; have f11_8 := YJ BK167.out 8; have f11_9 := YJ BK167.out 9; have f11_10 := YJ BK167.out 10; have f11_11 := YJ BK167.out 11))
  (try simp only [Act.put, YM, YN, YO])
  go_cut [22] (fun v22 wc => ∃ (kq : Nat) (x22_3 : Bool), v22 = .bool x22_3 ∧ Aside0 (object_Bytes.j0 kq y169 a0_0 x22_3 a0_0 a0_1 a0_2 a0_3 a0_4 a0_5 a0_6 a0_7 a0_8 a0_9 a0_10 a0_11 = some (r1, r2)) ∧ Aside0 (kq ≤ k) ∧ Aside0 (Kd.R (Kd.int .u8) 5 wc w.heap.size (fun _ => True) v170 y169) ∧ Aside0 (wc.heap[gb167]? = some (.cells #[.int .i64 a0_0, .int .i64 a0_1, .bool a0_2, .int .i64 a0_3, .int .i64 a0_4, .int .i64 a0_5, .int .i64 a0_6, .int .i64 a0_7, .int .i64 a0_8, .int .i64 a0_9, .int .i64 a0_10, .int .i64 a0_11] 45 (0, 0))) ∧ Aside0 (Below w.heap.size w wc))
  case first =>
   have H := HC4.out
   clear HC4
   by_cases c12 : a0_0 = 2
   ·rw [if_pos c12] at H
    have c12b0 : (a0_0 == 2) = true := beq_iff_eq.mpr c12
    have c12b1 : (a0_0 != 2) = false := bne_eq_false_iff_eq.mpr c12
    clear c12
    (first | rw [c12b0] | (simp only [i64_w, i32_w]; rw [c12b0]) | rw [c12b1] | skip)
    have H' := YL H
    clear H
    go_wp2
    go_meet
    case rel => exact ⟨_, ((a0_0 == 2)), (by first | rfl | (simp; done) | (simp [*]; done)), H', ⟨by first | omega | exact Nat.le_refl _⟩, ⟨by (with_reducible repeat (first | apply YS | apply YT | apply YU)); exact HO171.out⟩, ⟨by (with_reducible repeat (first | refine YF ?_ _ | refine YG ?_ | refine YH ?_ _)); exact BK167.out⟩, ⟨by repeat (first | (with_reducible first | exact HB.out | apply YA | apply YB | apply YC | refine below_set ?_ GE167.out) | exact HB.out)⟩⟩
   rw [if_neg c12] at H
   have c12b0 : (a0_0 == 2) = false := beq_eq_false_iff_ne.mpr c12
   have c12b1 : (a0_0 != 2) = true := bne_iff_ne.mpr c12
   (first | rw [c12b0] | (simp only [i64_w, i32_w]; rw [c12b0]) | rw [c12b1] | skip)
   have H' := YL H
   clear H
   go_wp2
   go_meet
   case rel => exact ⟨_, ((a0_0 == 4)), (by first | rfl | (simp; done) | (simp [*]; done)), H', ⟨by first | omega | exact Nat.le_refl _⟩, ⟨by (with_reducible repeat (first | apply YS | apply YT | apply YU)); exact HO171.out⟩, ⟨by (with_reducible repeat (first | refine YF ?_ _ | refine YG ?_ | refine YH ?_ _)); exact BK167.out⟩, ⟨by repeat (first | (with_reducible first | exact HB.out | apply YA | apply YB | apply YC | refine below_set ?_ GE167.out) | exact HB.out)⟩⟩
  case rest =>
   clear HC4
   try clear c1; try clear c2
   try clear p2; try clear c3
   try clear c3b0; try clear c3b1
   try clear c12; try clear c12b0
   try clear c12b1; try clear q11_0
   try clear q11_1; try clear q11_10
   try clear q11_11; try clear q11_2
   try clear q11_3; try clear q11_4
   try clear q11_5; try clear q11_6
   try clear q11_7; try clear q11_8
   try clear q11_9; try clear q6_0
   try clear q6_1; try clear q6_10
   try clear q6_11; try clear q6_2
   try clear q6_3; try clear q6_4
   try clear q6_5; try clear q6_6
   try clear q6_7; try clear q6_8
   try clear q6_9; try clear q8_0
   try clear q8_1; try clear q8_10
   try clear q8_11; try clear q8_2
   try clear q8_3; try clear q8_4
   try clear q8_5; try clear q8_6
   try clear q8_7; try clear q8_8
   try clear q8_9; try clear f11_0
   try clear f11_1; try clear f11_10
   try clear f11_11; try clear f11_2
   try clear f11_3; try clear f11_4
   try clear f11_5; try clear f11_6
   try clear f11_7; try clear f11_8
   try clear f11_9; try clear f6_0
   try clear f6_1; try clear f6_10
   try clear f6_11; try clear f6_2
   try clear f6_3; try clear f6_4
   try clear f6_5; try clear f6_6
   try clear f6_7; try clear f6_8
   try clear f6_9; try clear f8_0
   try clear f8_1; try clear f8_10
   try clear f8_11; try clear f8_2
   try clear f8_3; try clear f8_4
   try clear f8_5; try clear f8_6
   try clear f8_7; try clear f8_8; try clear f8_9
   obtain ⟨kq, x22_3, rfl, HA, HJ3, HO_5, BK167, HB⟩ := hcut
   cases kq with
   | zero => exact absurd HA.out (by simp [object_Bytes.j0])
   | succ kj3 =>
    have H := HA.out
    clear HA
    simp only [object_Bytes.j0] at H
    by_cases c13 : x22_3 = true
    ·subst c13
     have H1 : ((height_Bytes.f kj3 a0_2 a0_3 a0_4 a0_5 a0_6 a0_7).bind fun bt172 => (if bt172.2 = 0 then (if y169.length + bt172.1.length < 140737488355328 then ((some (y169 ++ bt172.1 : List Int)).bind fun y176 => (if a0_0 = 4 then ((some (([(a0_11 / 256) % 256, (a0_11) % 256] : List Int) : List Int)).bind fun y179 => (if y176.length + y179.length < 140737488355328 then (some ((y176 ++ y179), 0)) else (none))) else (some (y176, 0)))) else (none)) else (some (([] : List Int), bt172.2)))) = some (r1, r2) := by rw [if_pos rfl] at H; exact H
     clear H
     have H := H1
     clear H1; replace H := Option.bind_eq_some_iff.mp H
     obtain ⟨⟨t172, t175⟩, A140, H⟩ := H
     replace H : (if t175 = 0 then (if y169.length + t172.length < 140737488355328 then ((some (y169 ++ t172 : List Int)).bind fun y176 => (if a0_0 = 4 then ((some (([(a0_11 / 256) % 256, (a0_11) % 256] : List Int) : List Int)).bind fun y179 => (if y176.length + y179.length < 140737488355328 then (some ((y176 ++ y179), 0)) else (none))) else (some (y176, 0)))) else (none)) else (some (([] : List Int), t175))) = some (r1, r2) := H
     have A14 := YL A140; clear A140
     by_cases c15 : t175 = 0
     ·rw [if_pos c15] at H
      have c15b0 : (t175 == 0) = true := beq_iff_eq.mpr c15
      have c15b1 : (t175 != 0) = false := bne_eq_false_iff_eq.mpr c15
      clear c15
      by_cases c16 : y169.length + t172.length < 140737488355328
      rotate_left
      ·rw [if_neg c16] at H
       exact absurd H (by simp)
      rw [if_pos c16] at H; have LMc16 := YL c16; clear c16
      obtain ⟨y176, hy176⟩ : ∃ y_ : List Int, y_ = (y169 ++ t172) := ⟨_, rfl⟩
      replace H : (if a0_0 = 4 then ((some (([(a0_11 / 256) % 256, (a0_11) % 256] : List Int) : List Int)).bind fun y179 => (if y176.length + y179.length < 140737488355328 then (some ((y176 ++ y179), 0)) else (none))) else (some (y176, 0))) = some (r1, r2) := by first | (rw [hy176]; with_reducible exact H) | (have H2_ := (Option.bind_some _ _).symm.trans H; rw [hy176]; with_reducible exact H2_) | (have H2_ := (Option.bind_some _ _).symm.trans H; with_reducible exact H2_) | with_reducible exact H | (rw [hy176]; exact H) | exact H
      have Ny176 := YL hy176; clear hy176
      by_cases c17 : a0_0 = 4
      ·rw [if_pos c17] at H
       have c17b0 : (a0_0 == 4) = true := beq_iff_eq.mpr c17
       have c17b1 : (a0_0 != 4) = false := bne_eq_false_iff_eq.mpr c17
       clear c17
       obtain ⟨y179, hy179⟩ : ∃ y_ : List Int, y_ = (([(a0_11 / 256) % 256, (a0_11) % 256] : List Int)) := ⟨_, rfl⟩
       replace H : (if y176.length + y179.length < 140737488355328 then (some ((y176 ++ y179), 0)) else (none)) = some (r1, r2) := by first | (rw [hy179]; with_reducible exact H) | (have H2_ := (Option.bind_some _ _).symm.trans H; rw [hy179]; with_reducible exact H2_) | (have H2_ := (Option.bind_some _ _).symm.trans H; with_reducible exact H2_) | with_reducible exact H | (rw [hy179]; exact H) | exact H
       have Ny179 := YL hy179; clear hy179
       by_cases c18 : y176.length + y179.length < 140737488355328
       rotate_left
       ·rw [if_neg c18] at H
        exact absurd H (by simp)
       rw [if_pos c18] at H; have LMc18 := YL c18; clear c18
       obtain ⟨y182, hy182⟩ : ∃ y_ : List Int, y_ = (y176 ++ y179) := ⟨_, rfl⟩
       replace H : (some (y182, 0)) = some (r1, r2) := by first | (rw [hy182]; with_reducible exact H) | (have H2_ := (Option.bind_some _ _).symm.trans H; rw [hy182]; with_reducible exact H2_) | (have H2_ := (Option.bind_some _ _).symm.trans H; with_reducible exact H2_) | with_reducible exact H | (rw [hy182]; exact H) | exact H
       have Ny182 := YL hy182; clear hy182
       simp only [Option.some.injEq, Prod.mk.injEq] at H
       obtain ⟨rfl, rfl⟩ := H
       have q19_0 : wc.cell? ⟨gb167, 0, none⟩ = some (.int .i64 a0_0) := (YI BK167.out 0).trans rfl
       have q19_1 : wc.cell? ⟨gb167, 1, none⟩ = some (.int .i64 a0_1) := (YI BK167.out 1).trans rfl
       have q19_2 : wc.cell? ⟨gb167, 2, none⟩ = some (.bool a0_2) := (YI BK167.out 2).trans rfl
       have q19_3 : wc.cell? ⟨gb167, 3, none⟩ = some (.int .i64 a0_3) := (YI BK167.out 3).trans rfl
       have q19_4 : wc.cell? ⟨gb167, 4, none⟩ = some (.int .i64 a0_4) := (YI BK167.out 4).trans rfl
       have q19_5 : wc.cell? ⟨gb167, 5, none⟩ = some (.int .i64 a0_5) := (YI BK167.out 5).trans rfl
       have q19_6 : wc.cell? ⟨gb167, 6, none⟩ = some (.int .i64 a0_6) := (YI BK167.out 6).trans rfl
       have q19_7 : wc.cell? ⟨gb167, 7, none⟩ = some (.int .i64 a0_7) := (YI BK167.out 7).trans rfl
       have q19_8 : wc.cell? ⟨gb167, 8, none⟩ = some (.int .i64 a0_8) := (YI BK167.out 8).trans rfl
       have q19_9 : wc.cell? ⟨gb167, 9, none⟩ = some (.int .i64 a0_9) := (YI BK167.out 9).trans rfl
       have q19_10 : wc.cell? ⟨gb167, 10, none⟩ = some (.int .i64 a0_10) := (YI BK167.out 10).trans rfl
       have q19_11 : wc.cell? ⟨gb167, 11, none⟩ = some (.int .i64 a0_11) := (YI BK167.out 11).trans rfl
       have f19_0 := YJ BK167.out 0
       have f19_1 := YJ BK167.out 1
       have f19_2 := YJ BK167.out 2
       have f19_3 := YJ BK167.out 3
       have f19_4 := YJ BK167.out 4
       have f19_5 := YJ BK167.out 5
       have f19_6 := YJ BK167.out 6
       have f19_7 := YJ BK167.out 7
       have f19_8 := YJ BK167.out 8
       have f19_9 := YJ BK167.out 9
       have f19_10 := YJ BK167.out 10
       have f19_11 := YJ BK167.out 11
       go_wp2_with (first | ((with_reducible refine gate_callee (f := 35) rfl ?_); refine goesA (some 28) Try.func35 #[.agg #[.bool a0_2, .int .i64 a0_3, .int .i64 a0_4, .int .i64 a0_5, .int .i64 a0_6, .int .i64 a0_7]] ?_; (with_reducible refine (height_Bytes.calls kj3 a0_2 a0_3 a0_4 a0_5 a0_6 a0_7 t172 t175 _ A14.out).mono ?_); rintro e w20 ⟨v173, rfl, ho0, hb⟩; refine ⟨_, rfl, ?_⟩; have n0_ := YL (Kd.R_elder' (upR HO_5) (Kd.R_base ho0) hb); have n1_ := YL (Kd.R_lower (Kd.R_new' ho0 (Kd.R_lt (upR HO_5))) (YE (upB HB))); have n2_ := YL (YK (g := gb167) (o := .cells #[.int .i64 a0_0, .int .i64 a0_1, .bool a0_2, .int .i64 a0_3, .int .i64 a0_4, .int .i64 a0_5, .int .i64 a0_6, .int .i64 a0_7, .int .i64 a0_8, .int .i64 a0_9, .int .i64 a0_10, .int .i64 a0_11] 45 (0, 0)) (upK BK167) hb); have n3_ := YL (YD (upB HB) hb); clear HO_5; clear BK167; clear HB; have HO_5 := n0_; have HO174 := n1_; have BK167 := n2_; have HB := n3_; clear n0_ n1_ n2_ n3_; (try clear hb); (try clear hb2); (try clear hk); (try clear hi); (try clear ho0); obtain ⟨Ao22, co22, eo22⟩ := Kd.R_slice HO174.out; subst eo22) | ((with_reducible refine gate_builtin (b := .append) (xs := #[.tmp 34, .tmp 35]) rfl ?_); at_builtin; refine Kd.R_append_rows (Kd.int .u8) (w0 := w) w.heap.size rfl (.tmp 34) (.tmp 35) 26 5 (.int .u8 0) 1 rfl Try.underlying26 info5 rfl (by decide) (by omega) v170 y169 t172 _ _ _ (fun k_ => some k_ ≠ (.slice Ao22 t172.length co22 : Value).ownBlock) (fun _ => False) rfl rfl ?aO ?aR (fun _ _ h => h) (fun _ h => h.elim) ?aF ?aB ?aS ?aL ?_; (case aR => repeat (first | exact (Kd.R_reads' HO174.out).2.2 | (with_reducible refine Kd.C_alloc ?_ _) | (with_reducible refine Kd.C_drewN ?_ _) | (with_reducible refine Kd.C_drew ?_))); (case aB => exact (upB HB)); (case aF => exact (fun k_ hk => Kd.fresh' (Kd.R_lt (upR HO174)) k_ hk)); (case aO => exact (by (with_reducible repeat (first | apply YS | apply YT | apply YU)); exact Kd.R_mono HO_5.out (fun _ hk => by first | exact hk.2 | exact trivial | (simp [hk]; done) | simp_all))); (case aS => exact (YE (upB HB))); (case aL => have := LMc16.out; omega); intro v177 w21 ho hb hg hat; rw [← Ny176.out] at ho; have n0_ := YL (blk_grown (g := gb167) (o := .cells #[.int .i64 a0_0, .int .i64 a0_1, .bool a0_2, .int .i64 a0_3, .int .i64 a0_4, .int .i64 a0_5, .int .i64 a0_6, .int .i64 a0_7, .int .i64 a0_8, .int .i64 a0_9, .int .i64 a0_10, .int .i64 a0_11] 45 (0, 0)) (upK BK167) hg (Kd.R_ne HO_5.out BK167.out (by decide))); have n1_ := YL (Kd.R_after (ok := (fun _ => True)) (upR HO174) hg hat); have n2_ := YL (hb); have n3_ := YL (ho); clear BK167; clear HO174; clear HB; clear HO_5; have BK167 := n0_; have HO174 := n1_; have HB := n2_; have HO178 := n3_; clear n0_ n1_ n2_ n3_; clear ho hb hg hat; have q23_0 : w21.cell? ⟨gb167, 0, none⟩ = some (.int .i64 a0_0) := (YI BK167.out 0).trans rfl; have q23_1 : w21.cell? ⟨gb167, 1, none⟩ = some (.int .i64 a0_1) := (YI BK167.out 1).trans rfl; have q23_2 : w21.cell? ⟨gb167, 2, none⟩ = some (.bool a0_2) := (YI BK167.out 2).trans rfl; have q23_3 : w21.cell? ⟨gb167, 3, none⟩ = some (.int .i64 a0_3) := (YI BK167.out 3).trans rfl; have q23_4 : w21.cell? ⟨gb167, 4, none⟩ = some (.int .i64 a0_4) := (YI BK167.out 4).trans rfl; have q23_5 : w21.cell? ⟨gb167, 5, none⟩ = some (.int .i64 a0_5) := (YI BK167.out 5).trans rfl; have q23_6 : w21.cell? ⟨gb167, 6, none⟩ = some (.int .i64 a0_6) := (YI BK167.out 6).trans rfl; have q23_7 : w21.cell? ⟨gb167, 7, none⟩ = some (.int .i64 a0_7) := (YI BK167.out 7).trans rfl; have q23_8 : w21.cell? ⟨gb167, 8, none⟩ = some (.int .i64 a0_8) := (YI BK167.out 8).trans rfl; have q23_9 : w21.cell? ⟨gb167, 9, none⟩ = some (.int .i64 a0_9) := (YI BK167.out 9).trans rfl; have q23_10 : w21.cell? ⟨gb167, 10, none⟩ = some (.int .i64 a0_10) := (YI BK167.out 10).trans rfl; have q23_11 : w21.cell? ⟨gb167, 11, none⟩ = some (.int .i64 a0_11) := (YI BK167.out 11).trans rfl; have f23_0 := YJ BK167.out 0; have f23_1 := YJ BK167.out 1; have f23_2 := YJ BK167.out 2; have f23_3 := YJ BK167.out 3; have f23_4 := YJ BK167.out 4; have f23_5 := YJ BK167.out 5; have f23_6 := YJ BK167.out 6; have f23_7 := YJ BK167.out 7; have f23_8 := YJ BK167.out 8; have f23_9 := YJ BK167.out 9; have f23_10 := YJ BK167.out 10; have f23_11 := YJ BK167.out 11) | ((with_reducible refine gate_dst (N := 66) rfl ?_); refine Kd.R_lit (Kd.int .u8) _ 5 ?hg (N := 66) ?hd (xs := ([(a0_11 / 256) % 256, (a0_11) % 256] : List Int)) (inner := [.int .u8 ((a0_11 / 256) % 256), .int .u8 ((a0_11) % 256)]) (ok := fun _ => True) (okp := fun _ => True) ?hr ?hp (fun _ hk => hk) trivial (Below.refl _ _) (Nat.le_refl _) (by simp) ?_; (case hd => rfl); (case hg => rfl); (case hr => first | (go_simp; done) | (go_simp; rfl)); (case hp => exact (Reps.one (show Kd.M (Kd.int .u8) _ _ _ ((a0_11 / 256) % 256) [.int .u8 ((a0_11 / 256) % 256)] from rfl) (Reps.one (show Kd.M (Kd.int .u8) _ _ _ ((a0_11) % 256) [.int .u8 ((a0_11) % 256)] from rfl) (Reps.none _ _)))); intro v180 w24 ho25 hb hg_ hnew_; clear hg_ hnew_; (first | rw [← Ny179.out] at ho25 | (simp only [Int.reduceToNat] at ho25; rw [← Ny179.out] at ho25)); have n0_ := YL (Kd.R_elder' (upR HO174) (Kd.R_base ho25) hb); have n1_ := YL (Kd.R_elder' (upR HO178) (Kd.R_base ho25) hb); have n2_ := YL (Kd.R_lower (Kd.R_new' (Kd.R_new' ho25 (Kd.R_lt (upR HO174))) (Kd.R_lt (upR HO178))) (YE (upB HB))); have n3_ := YL (YK (g := gb167) (o := .cells #[.int .i64 a0_0, .int .i64 a0_1, .bool a0_2, .int .i64 a0_3, .int .i64 a0_4, .int .i64 a0_5, .int .i64 a0_6, .int .i64 a0_7, .int .i64 a0_8, .int .i64 a0_9, .int .i64 a0_10, .int .i64 a0_11] 45 (0, 0)) (upK BK167) hb); have n4_ := YL (YD (upB HB) hb); clear HO174; clear HO178; clear BK167; clear HB; have HO174 := n0_; have HO178 := n1_; have HO181 := n2_; have BK167 := n3_; have HB := n4_; clear n0_ n1_ n2_ n3_ n4_; clear hb ho25; obtain ⟨Ao27, co27, eo27⟩ := Kd.R_slice HO181.out; subst eo27) | ((with_reducible refine gate_builtin (b := .append) (xs := #[.tmp 58, .tmp 66]) rfl ?_); at_builtin; refine Kd.R_append_rows (Kd.int .u8) (w0 := w) w.heap.size rfl (.tmp 58) (.tmp 66) 26 5 (.int .u8 0) 1 rfl Try.underlying26 info5 rfl (by decide) (by omega) v177 y176 y179 _ _ _ (fun k_ => some k_ ≠ (.slice Ao22 t172.length co22 : Value).ownBlock ∧ some k_ ≠ (.slice Ao27 y179.length co27 : Value).ownBlock) (fun _ => False) rfl rfl ?aO ?aR (fun _ _ h => h) (fun _ h => h.elim) ?aF ?aB ?aS ?aL ?_; (case aR => repeat (first | exact (Kd.R_reads' HO181.out).2.2 | (with_reducible refine Kd.C_alloc ?_ _) | (with_reducible refine Kd.C_drewN ?_ _) | (with_reducible refine Kd.C_drew ?_))); (case aB => exact (upB HB)); (case aF => exact (fun k_ hk => ⟨Kd.fresh' (Kd.R_lt (upR HO174)) k_ hk, Kd.fresh' (Kd.R_lt (upR HO181)) k_ hk⟩)); (case aO => exact (upR HO178)); (case aS => exact (YE (upB HB))); (case aL => have := LMc18.out; omega); intro v183 w26 ho hb hg hat; rw [← Ny182.out] at ho; have n0_ := YL (blk_grown (g := gb167) (o := .cells #[.int .i64 a0_0, .int .i64 a0_1, .bool a0_2, .int .i64 a0_3, .int .i64 a0_4, .int .i64 a0_5, .int .i64 a0_6, .int .i64 a0_7, .int .i64 a0_8, .int .i64 a0_9, .int .i64 a0_10, .int .i64 a0_11] 45 (0, 0)) (upK BK167) hg (Kd.R_ne HO178.out BK167.out (by decide))); have n1_ := YL (Kd.R_after (ok := (fun k_ => some k_ ≠ (.slice Ao27 y179.length co27 : Value).ownBlock)) (by (with_reducible repeat (first | apply YS | apply YT | apply YU)); exact Kd.R_mono HO174.out (fun _ hk => by first | exact ⟨hk.2, hk.1.2⟩ | exact trivial | (simp [hk]; done) | simp_all)) hg hat); have n2_ := YL (Kd.R_after (ok := (fun k_ => some k_ ≠ (.slice Ao22 t172.length co22 : Value).ownBlock)) (by (with_reducible repeat (first | apply YS | apply YT | apply YU)); exact Kd.R_mono HO181.out (fun _ hk => by first | exact ⟨hk.1.2, hk.2⟩ | exact trivial | (simp [hk]; done) | simp_all)) hg hat); have n3_ := YL (hb); have n4_ := YL (ho); clear BK167; clear HO174; clear HO181; clear HB; clear HO178; have BK167 := n0_; have HO174 := n1_; have HO181 := n2_; have HB := n3_; have HO184 := n4_; clear n0_ n1_ n2_ n3_ n4_; clear ho hb hg hat))
       go_ret2
       exact ⟨_, by first | rfl | (simp [errW_none, errW_some] <;> rfl) | (simp [*, errW_none, errW_some] <;> rfl), by (with_reducible repeat (first | apply YS | apply YT | apply YU)); exact Kd.R_mono HO184.out (fun _ hk => trivial), by repeat (first | (with_reducible first | exact HB.out | apply YA | apply YB | apply YC | refine below_set ?_ GE167.out) | exact HB.out)⟩
      rw [if_neg c17] at H
      have c17b0 : (a0_0 == 4) = false := beq_eq_false_iff_ne.mpr c17
      have c17b1 : (a0_0 != 4) = true := bne_iff_ne.mpr c17
      simp only [Option.some.injEq, Prod.mk.injEq] at H
      obtain ⟨rfl, rfl⟩ := H
      have q28_0 : wc.cell? ⟨gb167, 0, none⟩ = some (.int .i64 a0_0) := (YI BK167.out 0).trans rfl
      have q28_1 : wc.cell? ⟨gb167, 1, none⟩ = some (.int .i64 a0_1) := (YI BK167.out 1).trans rfl
      have q28_2 : wc.cell? ⟨gb167, 2, none⟩ = some (.bool a0_2) := (YI BK167.out 2).trans rfl
      have q28_3 : wc.cell? ⟨gb167, 3, none⟩ = some (.int .i64 a0_3) := (YI BK167.out 3).trans rfl
      have q28_4 : wc.cell? ⟨gb167, 4, none⟩ = some (.int .i64 a0_4) := (YI BK167.out 4).trans rfl
      have q28_5 : wc.cell? ⟨gb167, 5, none⟩ = some (.int .i64 a0_5) := (YI BK167.out 5).trans rfl
      have q28_6 : wc.cell? ⟨gb167, 6, none⟩ = some (.int .i64 a0_6) := (YI BK167.out 6).trans rfl
      have q28_7 : wc.cell? ⟨gb167, 7, none⟩ = some (.int .i64 a0_7) := (YI BK167.out 7).trans rfl
      have q28_8 : wc.cell? ⟨gb167, 8, none⟩ = some (.int .i64 a0_8) := (YI BK167.out 8).trans rfl
      have q28_9 : wc.cell? ⟨gb167, 9, none⟩ = some (.int .i64 a0_9) := (YI BK167.out 9).trans rfl
      have q28_10 : wc.cell? ⟨gb167, 10, none⟩ = some (.int .i64 a0_10) := (YI BK167.out 10).trans rfl
      have q28_11 : wc.cell? ⟨gb167, 11, none⟩ = some (.int .i64 a0_11) := (YI BK167.out 11).trans rfl
      have f28_0 := YJ BK167.out 0
      have f28_1 := YJ BK167.out 1
      have f28_2 := YJ BK167.out 2
      have f28_3 := YJ BK167.out 3
      have f28_4 := YJ BK167.out 4
      have f28_5 := YJ BK167.out 5
      have f28_6 := YJ BK167.out 6
      have f28_7 := YJ BK167.out 7
      have f28_8 := YJ BK167.out 8
      have f28_9 := YJ BK167.out 9
      have f28_10 := YJ BK167.out 10
      have f28_11 := YJ BK167.out 11
      go_wp2_with (first | ((with_reducible refine gate_callee (f := 35) rfl ?_); refine goesA (some 28) Try.func35 #[.agg #[.bool a0_2, .int .i64 a0_3, .int .i64 a0_4, .int .i64 a0_5, .int .i64 a0_6, .int .i64 a0_7]] ?_; (with_reducible refine (height_Bytes.calls kj3 a0_2 a0_3 a0_4 a0_5 a0_6 a0_7 t172 t175 _ A14.out).mono ?_); rintro e w29 ⟨v173, rfl, ho0, hb⟩; refine ⟨_, rfl, ?_⟩; have n0_ := YL (Kd.R_elder' (upR HO_5) (Kd.R_base ho0) hb); have n1_ := YL (Kd.R_lower (Kd.R_new' ho0 (Kd.R_lt (upR HO_5))) (YE (upB HB))); have n2_ := YL (YK (g := gb167) (o := .cells #[.int .i64 a0_0, .int .i64 a0_1, .bool a0_2, .int .i64 a0_3, .int .i64 a0_4, .int .i64 a0_5, .int .i64 a0_6, .int .i64 a0_7, .int .i64 a0_8, .int .i64 a0_9, .int .i64 a0_10, .int .i64 a0_11] 45 (0, 0)) (upK BK167) hb); have n3_ := YL (YD (upB HB) hb); clear HO_5; clear BK167; clear HB; have HO_5 := n0_; have HO174 := n1_; have BK167 := n2_; have HB := n3_; clear n0_ n1_ n2_ n3_; (try clear hb); (try clear hb2); (try clear hk); (try clear hi); (try clear ho0); obtain ⟨Ao31, co31, eo31⟩ := Kd.R_slice HO174.out; subst eo31) | ((with_reducible refine gate_builtin (b := .append) (xs := #[.tmp 34, .tmp 35]) rfl ?_); at_builtin; refine Kd.R_append_rows (Kd.int .u8) (w0 := w) w.heap.size rfl (.tmp 34) (.tmp 35) 26 5 (.int .u8 0) 1 rfl Try.underlying26 info5 rfl (by decide) (by omega) v170 y169 t172 _ _ _ (fun k_ => some k_ ≠ (.slice Ao31 t172.length co31 : Value).ownBlock) (fun _ => False) rfl rfl ?aO ?aR (fun _ _ h => h) (fun _ h => h.elim) ?aF ?aB ?aS ?aL ?_; (case aR => repeat (first | exact (Kd.R_reads' HO174.out).2.2 | (with_reducible refine Kd.C_alloc ?_ _) | (with_reducible refine Kd.C_drewN ?_ _) | (with_reducible refine Kd.C_drew ?_))); (case aB => exact (upB HB)); (case aF => exact (fun k_ hk => Kd.fresh' (Kd.R_lt (upR HO174)) k_ hk)); (case aO => exact (by (with_reducible repeat (first | apply YS | apply YT | apply YU)); exact Kd.R_mono HO_5.out (fun _ hk => by first | exact hk.2 | exact trivial | (simp [hk]; done) | simp_all))); (case aS => exact (YE (upB HB))); (case aL => have := LMc16.out; omega); intro v177 w30 ho hb hg hat; rw [← Ny176.out] at ho; have n0_ := YL (blk_grown (g := gb167) (o := .cells #[.int .i64 a0_0, .int .i64 a0_1, .bool a0_2, .int .i64 a0_3, .int .i64 a0_4, .int .i64 a0_5, .int .i64 a0_6, .int .i64 a0_7, .int .i64 a0_8, .int .i64 a0_9, .int .i64 a0_10, .int .i64 a0_11] 45 (0, 0)) (upK BK167) hg (Kd.R_ne HO_5.out BK167.out (by decide))); have n1_ := YL (Kd.R_after (ok := (fun _ => True)) (upR HO174) hg hat); have n2_ := YL (hb); have n3_ := YL (ho); clear BK167; clear HO174; clear HB; clear HO_5; have BK167 := n0_; have HO174 := n1_; have HB := n2_; have HO178 := n3_; clear n0_ n1_ n2_ n3_; clear ho hb hg hat; have q32_0 : w30.cell? ⟨gb167, 0, none⟩ = some (.int .i64 a0_0) := (YI BK167.out 0).trans rfl; have q32_1 : w30.cell? ⟨gb167, 1, none⟩ = some (.int .i64 a0_1) := (YI BK167.out 1).trans rfl; have q32_2 : w30.cell? ⟨gb167, 2, none⟩ = some (.bool a0_2) := (YI BK167.out 2).trans rfl; have q32_3 : w30.cell? ⟨gb167, 3, none⟩ = some (.int .i64 a0_3) := (YI BK167.out 3).trans rfl; have q32_4 : w30.cell? ⟨gb167, 4, none⟩ = some (.int .i64 a0_4) := (YI BK167.out 4).trans rfl; have q32_5 : w30.cell? ⟨gb167, 5, none⟩ = some (.int .i64 a0_5) := (YI BK167.out 5).trans rfl; have q32_6 : w30.cell? ⟨gb167, 6, none⟩ = some (.int .i64 a0_6) := (YI BK167.out 6).trans rfl; have q32_7 : w30.cell? ⟨gb167, 7, none⟩ = some (.int .i64 a0_7) := (YI BK167.out 7).trans rfl; have q32_8 : w30.cell? ⟨gb167, 8, none⟩ = some (.int .i64 a0_8) := (YI BK167.out 8).trans rfl; have q32_9 : w30.cell? ⟨gb167, 9, none⟩ = some (.int .i64 a0_9) := (YI BK167.out 9).trans rfl; have q32_10 : w30.cell? ⟨gb167, 10, none⟩ = some (.int .i64 a0_10) := (YI BK167.out 10).trans rfl; have q32_11 : w30.cell? ⟨gb167, 11, none⟩ = some (.int .i64 a0_11) := (YI BK167.out 11).trans rfl; have f32_0 := YJ BK167.out 0; have f32_1 := YJ BK167.out 1; have f32_2 := YJ BK167.out 2; have f32_3 := YJ BK167.out 3; have f32_4 := YJ BK167.out 4; have f32_5 := YJ BK167.out 5; have f32_6 := YJ BK167.out 6; have f32_7 := YJ BK167.out 7; have f32_8 := YJ BK167.out 8; have f32_9 := YJ BK167.out 9; have f32_10 := YJ BK167.out 10; have f32_11 := YJ BK167.out 11))
      go_ret2
      exact ⟨_, by first | rfl | (simp [errW_none, errW_some] <;> rfl) | (simp [*, errW_none, errW_some] <;> rfl), by (with_reducible repeat (first | apply YS | apply YT | apply YU)); exact Kd.R_mono HO178.out (fun _ hk => trivial), by repeat (first | (with_reducible first | exact HB.out | apply YA | apply YB | apply YC | refine below_set ?_ GE167.out) | exact HB.out)⟩
     rw [if_neg c15] at H
     have c15b0 : (t175 == 0) = false := beq_eq_false_iff_ne.mpr c15
     have c15b1 : (t175 != 0) = true := bne_iff_ne.mpr c15
     simp only [Option.some.injEq, Prod.mk.injEq] at H
     obtain ⟨rfl, rfl⟩ := H
     have q33_0 : wc.cell? ⟨gb167, 0, none⟩ = some (.int .i64 a0_0) := (YI BK167.out 0).trans rfl
     have q33_1 : wc.cell? ⟨gb167, 1, none⟩ = some (.int .i64 a0_1) := (YI BK167.out 1).trans rfl
     have q33_2 : wc.cell? ⟨gb167, 2, none⟩ = some (.bool a0_2) := (YI BK167.out 2).trans rfl
     have q33_3 : wc.cell? ⟨gb167, 3, none⟩ = some (.int .i64 a0_3) := (YI BK167.out 3).trans rfl
     have q33_4 : wc.cell? ⟨gb167, 4, none⟩ = some (.int .i64 a0_4) := (YI BK167.out 4).trans rfl
     have q33_5 : wc.cell? ⟨gb167, 5, none⟩ = some (.int .i64 a0_5) := (YI BK167.out 5).trans rfl
     have q33_6 : wc.cell? ⟨gb167, 6, none⟩ = some (.int .i64 a0_6) := (YI BK167.out 6).trans rfl
     have q33_7 : wc.cell? ⟨gb167, 7, none⟩ = some (.int .i64 a0_7) := (YI BK167.out 7).trans rfl
     have q33_8 : wc.cell? ⟨gb167, 8, none⟩ = some (.int .i64 a0_8) := (YI BK167.out 8).trans rfl
     have q33_9 : wc.cell? ⟨gb167, 9, none⟩ = some (.int .i64 a0_9) := (YI BK167.out 9).trans rfl
     have q33_10 : wc.cell? ⟨gb167, 10, none⟩ = some (.int .i64 a0_10) := (YI BK167.out 10).trans rfl
     have q33_11 : wc.cell? ⟨gb167, 11, none⟩ = some (.int .i64 a0_11) := (YI BK167.out 11).trans rfl
     have f33_0 := YJ BK167.out 0
     have f33_1 := YJ BK167.out 1
     have f33_2 := YJ BK167.out 2
     have f33_3 := YJ BK167.out 3
     have f33_4 := YJ BK167.out 4
     have f33_5 := YJ BK167.out 5
     have f33_6 := YJ BK167.out 6
     have f33_7 := YJ BK167.out 7
     have f33_8 := YJ BK167.out 8
     have f33_9 := YJ BK167.out 9
     have f33_10 := YJ BK167.out 10
     have f33_11 := YJ BK167.out 11
     go_wp2_with (first | ((with_reducible refine gate_callee (f := 35) rfl ?_); refine goesA (some 28) Try.func35 #[.agg #[.bool a0_2, .int .i64 a0_3, .int .i64 a0_4, .int .i64 a0_5, .int .i64 a0_6, .int .i64 a0_7]] ?_; (with_reducible refine (height_Bytes.calls kj3 a0_2 a0_3 a0_4 a0_5 a0_6 a0_7 t172 t175 _ A14.out).mono ?_); rintro e w34 ⟨v173, rfl, ho0, hb⟩; refine ⟨_, rfl, ?_⟩; have n0_ := YL (Kd.R_elder' (upR HO_5) (Kd.R_base ho0) hb); have n1_ := YL (Kd.R_lower (Kd.R_new' ho0 (Kd.R_lt (upR HO_5))) (YE (upB HB))); have n2_ := YL (YK (g := gb167) (o := .cells #[.int .i64 a0_0, .int .i64 a0_1, .bool a0_2, .int .i64 a0_3, .int .i64 a0_4, .int .i64 a0_5, .int .i64 a0_6, .int .i64 a0_7, .int .i64 a0_8, .int .i64 a0_9, .int .i64 a0_10, .int .i64 a0_11] 45 (0, 0)) (upK BK167) hb); have n3_ := YL (YD (upB HB) hb); clear HO_5; clear BK167; clear HB; have HO_5 := n0_; have HO174 := n1_; have BK167 := n2_; have HB := n3_; clear n0_ n1_ n2_ n3_; (try clear hb); (try clear hb2); (try clear hk); (try clear hi); (try clear ho0)))
     go_ret2
     exact ⟨_, by first | rfl | (simp [errW_none, errW_some] <;> rfl) | (simp [*, errW_none, errW_some] <;> rfl), by first | exact Kd.R_nil _ _ _ _ _ | exact Kd.N_nil _ _ _ _ _ | exact Kd.V_nil _ _ _ _ _ | exact Kd.Q_nil _ _ _ _ _ | exact Kd.S_nil _ _ _ _ _, by repeat (first | (with_reducible first | exact HB.out | apply YA | apply YB | apply YC | refine below_set ?_ GE167.out) | exact HB.out)⟩
    replace c13 := Bool.eq_false_iff.mpr c13
    subst c13
    have H1 : (if a0_0 = 3 then ((wire_Int.f a0_8).bind fun t185 => (if y169.length + t185.length < 140737488355328 then ((some (y169 ++ t185 : List Int)).bind fun y188 => ((some (([(a0_9) % 256, (a0_10) % 256] : List Int) : List Int)).bind fun y191 => (if y188.length + y191.length < 140737488355328 then ((some (y188 ++ y191 : List Int)).bind fun y194 => (if a0_0 = 4 then ((some (([(a0_11 / 256) % 256, (a0_11) % 256] : List Int) : List Int)).bind fun y197 => (if y194.length + y197.length < 140737488355328 then (some ((y194 ++ y197), 0)) else (none))) else (some (y194, 0)))) else (none)))) else (none))) else (if a0_0 = 4 then ((some (([(a0_11 / 256) % 256, (a0_11) % 256] : List Int) : List Int)).bind fun y203 => (if y169.length + y203.length < 140737488355328 then (some ((y169 ++ y203), 0)) else (none))) else (some (y169, 0)))) = some (r1, r2) := by rw [if_neg (show ¬ (false = true) by decide)] at H; exact H
    clear H
    have H := H1
    clear H1
    by_cases c35 : a0_0 = 3
    ·rw [if_pos c35] at H
     have c35b0 : (a0_0 == 3) = true := beq_iff_eq.mpr c35
     have c35b1 : (a0_0 != 3) = false := bne_eq_false_iff_eq.mpr c35
     clear c35; replace H := Option.bind_eq_some_iff.mp H; obtain ⟨t185, A360, H⟩ := H
     replace H : (if y169.length + t185.length < 140737488355328 then ((some (y169 ++ t185 : List Int)).bind fun y188 => ((some (([(a0_9) % 256, (a0_10) % 256] : List Int) : List Int)).bind fun y191 => (if y188.length + y191.length < 140737488355328 then ((some (y188 ++ y191 : List Int)).bind fun y194 => (if a0_0 = 4 then ((some (([(a0_11 / 256) % 256, (a0_11) % 256] : List Int) : List Int)).bind fun y197 => (if y194.length + y197.length < 140737488355328 then (some ((y194 ++ y197), 0)) else (none))) else (some (y194, 0)))) else (none)))) else (none)) = some (r1, r2) := H
     have A36 := YL A360; clear A360
     by_cases c37 : y169.length + t185.length < 140737488355328
     rotate_left
     ·rw [if_neg c37] at H
      exact absurd H (by simp)
     rw [if_pos c37] at H; have LMc37 := YL c37; clear c37
     obtain ⟨y188, hy188⟩ : ∃ y_ : List Int, y_ = (y169 ++ t185) := ⟨_, rfl⟩
     replace H : ((some (([(a0_9) % 256, (a0_10) % 256] : List Int) : List Int)).bind fun y191 => (if y188.length + y191.length < 140737488355328 then ((some (y188 ++ y191 : List Int)).bind fun y194 => (if a0_0 = 4 then ((some (([(a0_11 / 256) % 256, (a0_11) % 256] : List Int) : List Int)).bind fun y197 => (if y194.length + y197.length < 140737488355328 then (some ((y194 ++ y197), 0)) else (none))) else (some (y194, 0)))) else (none))) = some (r1, r2) := by first | (rw [hy188]; with_reducible exact H) | (have H2_ := (Option.bind_some _ _).symm.trans H; rw [hy188]; with_reducible exact H2_) | (have H2_ := (Option.bind_some _ _).symm.trans H; with_reducible exact H2_) | with_reducible exact H | (rw [hy188]; exact H) | exact H
     have Ny188 := YL hy188; clear hy188
     obtain ⟨y191, hy191⟩ : ∃ y_ : List Int, y_ = (([(a0_9) % 256, (a0_10) % 256] : List Int)) := ⟨_, rfl⟩
     replace H : (if y188.length + y191.length < 140737488355328 then ((some (y188 ++ y191 : List Int)).bind fun y194 => (if a0_0 = 4 then ((some (([(a0_11 / 256) % 256, (a0_11) % 256] : List Int) : List Int)).bind fun y197 => (if y194.length + y197.length < 140737488355328 then (some ((y194 ++ y197), 0)) else (none))) else (some (y194, 0)))) else (none)) = some (r1, r2) := by first | (rw [hy191]; with_reducible exact H) | (have H2_ := (Option.bind_some _ _).symm.trans H; rw [hy191]; with_reducible exact H2_) | (have H2_ := (Option.bind_some _ _).symm.trans H; with_reducible exact H2_) | with_reducible exact H | (rw [hy191]; exact H) | exact H
     have Ny191 := YL hy191; clear hy191
     by_cases c38 : y188.length + y191.length < 140737488355328
     rotate_left
     ·rw [if_neg c38] at H
      exact absurd H (by simp)
     rw [if_pos c38] at H; have LMc38 := YL c38; clear c38
     obtain ⟨y194, hy194⟩ : ∃ y_ : List Int, y_ = (y188 ++ y191) := ⟨_, rfl⟩
     replace H : (if a0_0 = 4 then ((some (([(a0_11 / 256) % 256, (a0_11) % 256] : List Int) : List Int)).bind fun y197 => (if y194.length + y197.length < 140737488355328 then (some ((y194 ++ y197), 0)) else (none))) else (some (y194, 0))) = some (r1, r2) := by first | (rw [hy194]; with_reducible exact H) | (have H2_ := (Option.bind_some _ _).symm.trans H; rw [hy194]; with_reducible exact H2_) | (have H2_ := (Option.bind_some _ _).symm.trans H; with_reducible exact H2_) | with_reducible exact H | (rw [hy194]; exact H) | exact H
     have Ny194 := YL hy194; clear hy194
     by_cases c39 : a0_0 = 4
     ·rw [if_pos c39] at H
      have c39b0 : (a0_0 == 4) = true := beq_iff_eq.mpr c39
      have c39b1 : (a0_0 != 4) = false := bne_eq_false_iff_eq.mpr c39
      clear c39
      obtain ⟨y197, hy197⟩ : ∃ y_ : List Int, y_ = (([(a0_11 / 256) % 256, (a0_11) % 256] : List Int)) := ⟨_, rfl⟩
      replace H : (if y194.length + y197.length < 140737488355328 then (some ((y194 ++ y197), 0)) else (none)) = some (r1, r2) := by first | (rw [hy197]; with_reducible exact H) | (have H2_ := (Option.bind_some _ _).symm.trans H; rw [hy197]; with_reducible exact H2_) | (have H2_ := (Option.bind_some _ _).symm.trans H; with_reducible exact H2_) | with_reducible exact H | (rw [hy197]; exact H) | exact H
      have Ny197 := YL hy197; clear hy197
      by_cases c40 : y194.length + y197.length < 140737488355328
      rotate_left
      ·rw [if_neg c40] at H
       exact absurd H (by simp)
      rw [if_pos c40] at H; have LMc40 := YL c40; clear c40
      obtain ⟨y200, hy200⟩ : ∃ y_ : List Int, y_ = (y194 ++ y197) := ⟨_, rfl⟩
      replace H : (some (y200, 0)) = some (r1, r2) := by first | (rw [hy200]; with_reducible exact H) | (have H2_ := (Option.bind_some _ _).symm.trans H; rw [hy200]; with_reducible exact H2_) | (have H2_ := (Option.bind_some _ _).symm.trans H; with_reducible exact H2_) | with_reducible exact H | (rw [hy200]; exact H) | exact H
      have Ny200 := YL hy200; clear hy200
      simp only [Option.some.injEq, Prod.mk.injEq] at H
      obtain ⟨rfl, rfl⟩ := H
      obtain ⟨Ao41, co41, eo41⟩ := Kd.R_slice HO_5.out
      subst eo41
      try go_wp2
      have n0_ := YL (YU HO_5.out)
      have n1_ := YL (YG BK167.out)
      have n2_ := YL (YC HB.out)
      clear HO_5; clear BK167; clear HB; have HO_5 := n0_; have BK167 := n1_; have HB := n2_; clear n0_ n1_ n2_
      refine start_ (n := 17) (S := fun w' => w'.cell? ⟨gb167, 0, none⟩ = some (.int .i64 a0_0) ∧ w'.cell? ⟨gb167, 1, none⟩ = some (.int .i64 a0_1) ∧ w'.cell? ⟨gb167, 2, none⟩ = some (.bool a0_2) ∧ w'.cell? ⟨gb167, 3, none⟩ = some (.int .i64 a0_3) ∧ w'.cell? ⟨gb167, 4, none⟩ = some (.int .i64 a0_4) ∧ w'.cell? ⟨gb167, 5, none⟩ = some (.int .i64 a0_5) ∧ w'.cell? ⟨gb167, 6, none⟩ = some (.int .i64 a0_6) ∧ w'.cell? ⟨gb167, 7, none⟩ = some (.int .i64 a0_7) ∧ w'.cell? ⟨gb167, 8, none⟩ = some (.int .i64 a0_8) ∧ w'.cell? ⟨gb167, 9, none⟩ = some (.int .i64 a0_9) ∧ w'.cell? ⟨gb167, 10, none⟩ = some (.int .i64 a0_10) ∧ w'.cell? ⟨gb167, 11, none⟩ = some (.int .i64 a0_11)) (ds := []) #[false, false, false, false, false, false, false, false, false, false, false, false, false, false, false, false, false] (by kernel_rfl) rfl rfl ⟨(YI BK167.out 0).trans rfl, (YI BK167.out 1).trans rfl, (YI BK167.out 2).trans rfl, (YI BK167.out 3).trans rfl, (YI BK167.out 4).trans rfl, (YI BK167.out 5).trans rfl, (YI BK167.out 6).trans rfl, (YI BK167.out 7).trans rfl, (YI BK167.out 8).trans rfl, (YI BK167.out 9).trans rfl, (YI BK167.out 10).trans rfl, (YI BK167.out 11).trans rfl⟩ (fun hHeld => ?_); refine with_tabW object_Bytes.tab13 object_Bytes.bits13 (fun HT_ HW_ => ?_)
      generalize wc.drew = w42 at HO_5 BK167 HB hHeld ⊢
      refine pure_ (i := 0) (N := some 39) (v := ?_) (a' := ?_) #[true, false, false, false, false, false, false, false, false, false, false, false, false, false, false, false, false] rfl rfl (any_of HT_.out (by kernel_rfl)) (fun _ _ _ h => h) (Or.inl ⟨by rfl, ?_⟩) ?_ ?_
      rotate_left
      ·intro w'
       go_simp; with_reducible rfl
      rotate_left
      ·simp only [Act.put, YM, YN, YO, i64_w, i32_w]
       rfl
      refine pure_ (i := 1) (N := some 40) (v := ?_) (a' := ?_) #[true, true, false, false, false, false, false, false, false, false, false, false, false, false, false, false, false] rfl rfl (any_of HT_.out (by kernel_rfl)) (fun _ _ _ h => h) (Or.inl ⟨by rfl, ?_⟩) ?_ ?_
      rotate_left
      ·intro w'
       go_simp; with_reducible rfl
      rotate_left
      ·simp only [Act.put, YM, YN, YO, i64_w, i32_w]
       rfl
      refine pure_ (i := 2) (N := some 41) (v := ?_) (a' := ?_) #[true, true, true, false, false, false, false, false, false, false, false, false, false, false, false, false, false] rfl rfl (any_of HT_.out (by kernel_rfl)) (fun _ _ _ h => h) (Or.inl ⟨by rfl, ?_⟩) ?_ ?_
      rotate_left
      ·intro w'
       go_simp; with_reducible rfl
      rotate_left
      ·simp only [Act.put, YM, YN, YO, i64_w, i32_w]
       rfl
      refine pure_ (i := 6) (N := some 45) (v := ?_) (a' := ?_) #[true, true, true, false, false, false, true, false, false, false, false, false, false, false, false, false, false] rfl rfl (any_of HT_.out (by kernel_rfl)) (fun _ _ _ h => h) (Or.inl ⟨by rfl, ?_⟩) ?_ ?_
      rotate_left
      ·intro w'
       go_simp; with_reducible rfl
      rotate_left
      ·simp only [Act.put, YM, YN, YO, i64_w, i32_w]
       rfl
      refine pure_ (i := 7) (N := some 46) (v := ?_) (a' := ?_) #[true, true, true, false, false, false, true, true, false, false, false, false, false, false, false, false, false] rfl rfl (any_of HT_.out (by kernel_rfl)) (fun _ _ _ h => h) (Or.inl ⟨by rfl, ?_⟩) ?_ ?_
      rotate_left
      ·intro w'
       go_simp; with_reducible rfl
      rotate_left
      ·simp only [Act.put, YM, YN, YO, i64_w, i32_w]
       rfl
      refine pure_ (i := 10) (N := some 49) (v := ?_) (a' := ?_) #[true, true, true, false, false, false, true, true, false, false, true, false, false, false, false, false, false] rfl rfl (any_of HT_.out (by kernel_rfl)) (fun _ _ _ h => h) (Or.inl ⟨by rfl, ?_⟩) ?_ ?_
      rotate_left
      ·intro w'
       go_simp; with_reducible rfl
      rotate_left
      ·simp only [Act.put, YM, YN, YO, i64_w, i32_w]
       rfl
      refine pure_ (i := 11) (N := some 50) (v := ?_) (a' := ?_) #[true, true, true, false, false, false, true, true, false, false, true, true, false, false, false, false, false] rfl rfl (any_of HT_.out (by kernel_rfl)) (fun _ _ _ h => h) (Or.inl ⟨by rfl, ?_⟩) ?_ ?_
      rotate_left
      ·intro w'
       go_simp; with_reducible rfl
      rotate_left
      ·simp only [Act.put, YM, YN, YO, i64_w, i32_w]
       rfl
      refine take_ (i := 3) (N := some 42) (v := ?_) (a' := ?_) #[true, true, true, true, false, false, true, true, false, false, true, true, false, false, false, false, false] rfl rfl (take_ofW HT_.out HW_.out (by kernel_rfl)) (fun _ _ _ h => h) (Or.inl ⟨by rfl, ?_⟩) hHeld ?_ ?_
      rotate_left
      ·rintro w' ⟨s0, s1, s2, s3, s4, s5, s6, s7, s8, s9, s10, s11⟩
       go_simp; with_reducible rfl
      rotate_left
      ·simp only [Act.put, YM, YN, YO, i64_w, i32_w]
       rfl
      refine take_ (i := 8) (N := some 47) (v := ?_) (a' := ?_) #[true, true, true, true, false, false, true, true, true, false, true, true, false, false, false, false, false] rfl rfl (take_ofW HT_.out HW_.out (by kernel_rfl)) (fun _ _ _ h => h) (Or.inl ⟨by rfl, ?_⟩) hHeld ?_ ?_
      rotate_left
      ·rintro w' ⟨s0, s1, s2, s3, s4, s5, s6, s7, s8, s9, s10, s11⟩
       go_simp; with_reducible rfl
      rotate_left
      ·simp only [Act.put, YM, YN, YO, i64_w, i32_w]
       rfl
      refine pure_ (i := 9) (N := some 48) (v := ?_) (a' := ?_) #[true, true, true, true, false, false, true, true, true, true, true, true, false, false, false, false, false] rfl rfl (any_of HT_.out (by kernel_rfl)) (fun _ _ _ h => h) (Or.inl ⟨by rfl, ?_⟩) ?_ ?_
      rotate_left
      ·intro w'
       go_simp; with_reducible rfl
      rotate_left
      ·simp only [Act.put, YM, YN, YO, i64_w, i32_w]
       rfl
      refine take_ (i := 12) (N := some 51) (v := ?_) (a' := ?_) #[true, true, true, true, false, false, true, true, true, true, true, true, true, false, false, false, false] rfl rfl (take_ofW HT_.out HW_.out (by kernel_rfl)) (fun _ _ _ h => h) (Or.inl ⟨by rfl, ?_⟩) hHeld ?_ ?_
      rotate_left
      ·rintro w' ⟨s0, s1, s2, s3, s4, s5, s6, s7, s8, s9, s10, s11⟩
       go_simp; with_reducible rfl
      rotate_left
      ·simp only [Act.put, YM, YN, YO, i64_w, i32_w]
       rfl
      refine pure_ (i := 13) (N := some 52) (v := ?_) (a' := ?_) #[true, true, true, true, false, false, true, true, true, true, true, true, true, true, false, false, false] rfl rfl (any_of HT_.out (by kernel_rfl)) (fun _ _ _ h => h) (Or.inl ⟨by rfl, ?_⟩) ?_ ?_
      rotate_left
      ·intro w'
       go_simp; with_reducible rfl
      rotate_left
      ·simp only [Act.put, YM, YN, YO, i64_w, i32_w]
       rfl
      refine join_ (σ := Value × Value × Value) 2 #[true, true, true, true, true, true, true, true, true, true, true, true, true, true, true, false, false] (fun s_ => [(43, s_.1), (44, s_.2.1), (53, s_.2.2)]) (fun s_ w' => (w'.cell? ⟨gb167, 0, none⟩ = some (.int .i64 a0_0) ∧ w'.cell? ⟨gb167, 1, none⟩ = some (.int .i64 a0_1) ∧ w'.cell? ⟨gb167, 2, none⟩ = some (.bool a0_2) ∧ w'.cell? ⟨gb167, 3, none⟩ = some (.int .i64 a0_3) ∧ w'.cell? ⟨gb167, 4, none⟩ = some (.int .i64 a0_4) ∧ w'.cell? ⟨gb167, 5, none⟩ = some (.int .i64 a0_5) ∧ w'.cell? ⟨gb167, 6, none⟩ = some (.int .i64 a0_6) ∧ w'.cell? ⟨gb167, 7, none⟩ = some (.int .i64 a0_7) ∧ w'.cell? ⟨gb167, 8, none⟩ = some (.int .i64 a0_8) ∧ w'.cell? ⟨gb167, 9, none⟩ = some (.int .i64 a0_9) ∧ w'.cell? ⟨gb167, 10, none⟩ = some (.int .i64 a0_10) ∧ w'.cell? ⟨gb167, 11, none⟩ = some (.int .i64 a0_11)) ∧ (Kd.R (Kd.int .u8) 5 w' w.heap.size (fun k_ => some k_ ≠ (s_.2.1 : Value).ownBlock ∧ some k_ ≠ (s_.2.2 : Value).ownBlock) s_.1 t185) ∧ (Kd.R (Kd.int .u8) 5 w' w.heap.size (fun k_ => some k_ ≠ (s_.1 : Value).ownBlock ∧ some k_ ≠ (s_.2.2 : Value).ownBlock) s_.2.1 y188) ∧ (Kd.R (Kd.int .u8) 5 w' w.heap.size (fun k_ => some k_ ≠ (s_.1 : Value).ownBlock ∧ some k_ ≠ (s_.2.1 : Value).ownBlock) s_.2.2 y191) ∧ (w'.heap[gb167]? = some (.cells #[.int .i64 a0_0, .int .i64 a0_1, .bool a0_2, .int .i64 a0_3, .int .i64 a0_4, .int .i64 a0_5, .int .i64 a0_6, .int .i64 a0_7, .int .i64 a0_8, .int .i64 a0_9, .int .i64 a0_10, .int .i64 a0_11] 45 (0, 0))) ∧ (Below w.heap.size w w')) ?_ ?_
      rotate_left
      ·intro hCont
       refine two_ (i := 4) (j := 14) (Ni := some 43) (Nj := some 53) #[true, true, true, true, true, false, true, true, true, true, true, true, true, true, false, false, false] #[true, true, true, true, false, false, true, true, true, true, true, true, true, true, true, false, false] rfl rfl rfl rfl (two_of HT_.out (by kernel_rfl)) (by decide) (by decide) (fun K hK => ?_) (fun K hK => ?_)
       ·skip
        refine goes_ Try.func36 (by kernel_rfl) rfl #[.int .i64 a0_8] (by rfl) rfl rfl (by (try simp only [YP, List.map_cons, List.map_nil]); first | done | rfl | (simp only [YR, YQ]; rfl)) ?_
        with_reducible refine (wire_Int.calls a0_8 t185 _ A36.out).mono ?_
        rintro e w43 ⟨v186, rfl, ho0, hb⟩
        refine ⟨_, rfl, ?_⟩
        have n0_ := YL (Kd.R_elder' (upR HO_5) (Kd.R_base ho0) hb)
        have n1_ := YL (Kd.R_lower (Kd.R_new' ho0 (Kd.R_lt (upR HO_5))) (YE (upB HB)))
        have n2_ := YL (YK (g := gb167) (o := .cells #[.int .i64 a0_0, .int .i64 a0_1, .bool a0_2, .int .i64 a0_3, .int .i64 a0_4, .int .i64 a0_5, .int .i64 a0_6, .int .i64 a0_7, .int .i64 a0_8, .int .i64 a0_9, .int .i64 a0_10, .int .i64 a0_11] 45 (0, 0)) (upK BK167) hb)
        have n3_ := YL (YD (upB HB) hb)
        clear HO_5; clear BK167; clear HB; have HO_5 := n0_; have HO187 := n1_; have BK167 := n2_; have HB := n3_; clear n0_ n1_ n2_ n3_; (try clear hb); (try clear hb2); (try clear hk); (try clear hi); (try clear ho0)
        obtain ⟨Ao45, co45, eo45⟩ := Kd.R_slice HO187.out
        (first | subst eo45 | (injection eo45 with f1_ f2_ f3_; have f4_ := f1_.symm; have f5_ := f3_.symm; clear f1_ f2_ f3_; subst f4_; subst f5_))
        refine hK.out _ _ ⟨(YI BK167.out 0).trans rfl, (YI BK167.out 1).trans rfl, (YI BK167.out 2).trans rfl, (YI BK167.out 3).trans rfl, (YI BK167.out 4).trans rfl, (YI BK167.out 5).trans rfl, (YI BK167.out 6).trans rfl, (YI BK167.out 7).trans rfl, (YI BK167.out 8).trans rfl, (YI BK167.out 9).trans rfl, (YI BK167.out 10).trans rfl, (YI BK167.out 11).trans rfl⟩ (fun hHeld => ?_)
        clear hK K
        refine normA (N := 43) ?_
        refine two_ (i := 5) (j := 14) (Ni := some 44) (Nj := some 53) #[true, true, true, true, true, true, true, true, true, true, true, true, true, true, false, false, false] #[true, true, true, true, true, false, true, true, true, true, true, true, true, true, true, false, false] rfl rfl rfl rfl (two_of HT_.out (by kernel_rfl)) (by decide) (by decide) (fun K hK => ?_) (fun K hK => ?_)
        ·skip
         refine Kd.R_append_rows_step (Kd.int .u8) (w0 := w) w.heap.size (by rfl) (.tmp 39) (.tmp 43) 26 5 (.int .u8 0) 1 rfl Try.underlying26 info5 rfl (by decide) (by omega) (.slice Ao41 y169.length co41) y169 t185 _ _ _ (fun k_ => some k_ ≠ (.slice Ao45 t185.length co45 : Value).ownBlock) (fun _ => False) rfl rfl ?aO ?aR (fun _ _ h => h) (fun _ h => h.elim) ?aF ?aB ?aS ?aL ?_
         (case aR => repeat (first | exact (Kd.R_reads' HO187.out).2.2 | (with_reducible refine Kd.C_alloc ?_ _) | (with_reducible refine Kd.C_drewN ?_ _) | (with_reducible refine Kd.C_drew ?_)))
         (case aB => exact (upB HB))
         (case aF => exact (fun k_ hk => Kd.fresh' (Kd.R_lt (upR HO187)) k_ hk))
         (case aO => exact (by (with_reducible repeat (first | apply YS | apply YT | apply YU)); exact Kd.R_mono HO_5.out (fun _ hk => by first | exact hk.2 | exact trivial | (simp [hk]; done) | simp_all)))
         (case aS => exact (YE (upB HB)))
         (case aL => have := LMc37.out; omega)
         intro v189 w44 ho hb hg hat
         rw [← Ny188.out] at ho
         have n0_ := YL (blk_grown (g := gb167) (o := .cells #[.int .i64 a0_0, .int .i64 a0_1, .bool a0_2, .int .i64 a0_3, .int .i64 a0_4, .int .i64 a0_5, .int .i64 a0_6, .int .i64 a0_7, .int .i64 a0_8, .int .i64 a0_9, .int .i64 a0_10, .int .i64 a0_11] 45 (0, 0)) (upK BK167) hg (Kd.R_ne HO_5.out BK167.out (by decide)))
         have n1_ := YL (Kd.R_after (ok := (fun _ => True)) (upR HO187) hg hat)
         have n2_ := YL (hb)
         have n3_ := YL (ho)
         clear BK167; clear HO187; clear HB; clear HO_5; have BK167 := n0_; have HO187 := n1_; have HB := n2_; have HO190 := n3_; clear n0_ n1_ n2_ n3_; clear ho hb hg hat
         refine hK.out _ _ ⟨(YI BK167.out 0).trans rfl, (YI BK167.out 1).trans rfl, (YI BK167.out 2).trans rfl, (YI BK167.out 3).trans rfl, (YI BK167.out 4).trans rfl, (YI BK167.out 5).trans rfl, (YI BK167.out 6).trans rfl, (YI BK167.out 7).trans rfl, (YI BK167.out 8).trans rfl, (YI BK167.out 9).trans rfl, (YI BK167.out 10).trans rfl, (YI BK167.out 11).trans rfl⟩ (fun hHeld => ?_)
         clear hK K
         refine normA (N := 44) ?_
         refine oneA (i := 14) (N := some 53) HT_ (fun K hK => ?_)
         refine Kd.R_lit_step (Kd.int .u8) _ 5 ?hg (N := 53) ?hd (xs := ([(a0_9) % 256, (a0_10) % 256] : List Int)) (inner := [.int .u8 ((a0_9) % 256), .int .u8 ((a0_10) % 256)]) (ok := fun _ => True) (okp := fun _ => True) ?hr ?hp (fun _ hk => hk) trivial (Below.refl _ _) (Nat.le_refl _) (by simp) ?_; (case hd => rfl); (case hg => rfl); (case hr => first | (go_simp; done) | (go_simp; rfl)); (case hp => exact (Reps.one (show Kd.M (Kd.int .u8) _ _ _ ((a0_9) % 256) [.int .u8 ((a0_9) % 256)] from rfl) (Reps.one (show Kd.M (Kd.int .u8) _ _ _ ((a0_10) % 256) [.int .u8 ((a0_10) % 256)] from rfl) (Reps.none _ _))))
         intro v192 w46 ho47 hb hg_ hnew_
         clear hg_ hnew_
         (first | rw [← Ny191.out] at ho47 | (simp only [Int.reduceToNat] at ho47; rw [← Ny191.out] at ho47))
         have n0_ := YL (Kd.R_elder' (upR HO187) (Kd.R_base ho47) hb)
         have n1_ := YL (Kd.R_elder' (upR HO190) (Kd.R_base ho47) hb)
         have n2_ := YL (Kd.R_lower (Kd.R_new' (Kd.R_new' ho47 (Kd.R_lt (upR HO187))) (Kd.R_lt (upR HO190))) (YE (upB HB)))
         have n3_ := YL (YK (g := gb167) (o := .cells #[.int .i64 a0_0, .int .i64 a0_1, .bool a0_2, .int .i64 a0_3, .int .i64 a0_4, .int .i64 a0_5, .int .i64 a0_6, .int .i64 a0_7, .int .i64 a0_8, .int .i64 a0_9, .int .i64 a0_10, .int .i64 a0_11] 45 (0, 0)) (upK BK167) hb)
         have n4_ := YL (YD (upB HB) hb)
         clear HO187; clear HO190; clear BK167; clear HB; have HO187 := n0_; have HO190 := n1_; have HO193 := n2_; have BK167 := n3_; have HB := n4_; clear n0_ n1_ n2_ n3_ n4_; clear hb ho47
         refine hK.out _ _ ⟨(YI BK167.out 0).trans rfl, (YI BK167.out 1).trans rfl, (YI BK167.out 2).trans rfl, (YI BK167.out 3).trans rfl, (YI BK167.out 4).trans rfl, (YI BK167.out 5).trans rfl, (YI BK167.out 6).trans rfl, (YI BK167.out 7).trans rfl, (YI BK167.out 8).trans rfl, (YI BK167.out 9).trans rfl, (YI BK167.out 10).trans rfl, (YI BK167.out 11).trans rfl⟩ (fun hHeld => ?_)
         clear hK K
         refine normA (N := 53) ?_
         exact norm_ (by simp only [putAll, Act.put, YM, YN, YO]) (hCont (.slice Ao45 t185.length co45, v189, v192) _ ⟨hHeld, (by (with_reducible repeat (first | apply YS | apply YT | apply YU)); exact Kd.R_mono HO187.out (fun _ hk => by first | exact ⟨hk.1.2, hk.2⟩ | exact trivial | (simp [hk]; done) | simp_all)), (upR HO190), (by (with_reducible repeat (first | apply YS | apply YT | apply YU)); exact Kd.R_mono HO193.out (fun _ hk => by first | exact ⟨hk.1.2, hk.2⟩ | exact trivial | (simp [hk]; done) | simp_all)), (upK BK167), (upB HB)⟩)
        skip
        refine Kd.R_lit_step (Kd.int .u8) _ 5 ?hg (N := 53) ?hd (xs := ([(a0_9) % 256, (a0_10) % 256] : List Int)) (inner := [.int .u8 ((a0_9) % 256), .int .u8 ((a0_10) % 256)]) (ok := fun _ => True) (okp := fun _ => True) ?hr ?hp (fun _ hk => hk) trivial (Below.refl _ _) (Nat.le_refl _) (by simp) ?_; (case hd => rfl); (case hg => rfl); (case hr => first | (go_simp; done) | (go_simp; rfl)); (case hp => exact (Reps.one (show Kd.M (Kd.int .u8) _ _ _ ((a0_9) % 256) [.int .u8 ((a0_9) % 256)] from rfl) (Reps.one (show Kd.M (Kd.int .u8) _ _ _ ((a0_10) % 256) [.int .u8 ((a0_10) % 256)] from rfl) (Reps.none _ _))))
        intro v192 w44 ho45 hb hg_ hnew_
        clear hg_ hnew_
        (first | rw [← Ny191.out] at ho45 | (simp only [Int.reduceToNat] at ho45; rw [← Ny191.out] at ho45))
        have n0_ := YL (Kd.R_elder' (upR HO_5) (Kd.R_base ho45) hb)
        have n1_ := YL (Kd.R_elder' (upR HO187) (Kd.R_base ho45) hb)
        have n2_ := YL (Kd.R_lower (Kd.R_new' (Kd.R_new' ho45 (Kd.R_lt (upR HO_5))) (Kd.R_lt (upR HO187))) (YE (upB HB)))
        have n3_ := YL (YK (g := gb167) (o := .cells #[.int .i64 a0_0, .int .i64 a0_1, .bool a0_2, .int .i64 a0_3, .int .i64 a0_4, .int .i64 a0_5, .int .i64 a0_6, .int .i64 a0_7, .int .i64 a0_8, .int .i64 a0_9, .int .i64 a0_10, .int .i64 a0_11] 45 (0, 0)) (upK BK167) hb)
        have n4_ := YL (YD (upB HB) hb)
        clear HO_5; clear HO187; clear BK167; clear HB; have HO_5 := n0_; have HO187 := n1_; have HO193 := n2_; have BK167 := n3_; have HB := n4_; clear n0_ n1_ n2_ n3_ n4_; clear hb ho45
        obtain ⟨Ao47, co47, eo47⟩ := Kd.R_slice HO187.out
        (first | subst eo47 | (injection eo47 with f1_ f2_ f3_; have f4_ := f1_.symm; have f5_ := f3_.symm; clear f1_ f2_ f3_; subst f4_; subst f5_))
        refine hK.out _ _ ⟨(YI BK167.out 0).trans rfl, (YI BK167.out 1).trans rfl, (YI BK167.out 2).trans rfl, (YI BK167.out 3).trans rfl, (YI BK167.out 4).trans rfl, (YI BK167.out 5).trans rfl, (YI BK167.out 6).trans rfl, (YI BK167.out 7).trans rfl, (YI BK167.out 8).trans rfl, (YI BK167.out 9).trans rfl, (YI BK167.out 10).trans rfl, (YI BK167.out 11).trans rfl⟩ (fun hHeld => ?_)
        clear hK K
        refine normA (N := 53) ?_
        refine oneA (i := 5) (N := some 44) HT_ (fun K hK => ?_)
        refine Kd.R_append_rows_step (Kd.int .u8) (w0 := w) w.heap.size (by rfl) (.tmp 39) (.tmp 43) 26 5 (.int .u8 0) 1 rfl Try.underlying26 info5 rfl (by decide) (by omega) (.slice Ao41 y169.length co41) y169 t185 _ _ _ (fun k_ => some k_ ≠ (.slice Ao47 t185.length co47 : Value).ownBlock ∧ some k_ ≠ (v192 : Value).ownBlock) (fun _ => False) rfl rfl ?aO ?aR (fun _ _ h => h) (fun _ h => h.elim) ?aF ?aB ?aS ?aL ?_
        (case aR => repeat (first | exact (Kd.R_reads' HO187.out).2.2 | (with_reducible refine Kd.C_alloc ?_ _) | (with_reducible refine Kd.C_drewN ?_ _) | (with_reducible refine Kd.C_drew ?_)))
        (case aB => exact (upB HB))
        (case aF => exact (fun k_ hk => ⟨Kd.fresh' (Kd.R_lt (upR HO187)) k_ hk, Kd.fresh' (Kd.R_lt (upR HO193)) k_ hk⟩))
        (case aO => exact (by (with_reducible repeat (first | apply YS | apply YT | apply YU)); exact Kd.R_mono HO_5.out (fun _ hk => by first | exact ⟨hk.1.2, hk.2⟩ | exact trivial | (simp [hk]; done) | simp_all)))
        (case aS => exact (YE (upB HB)))
        (case aL => have := LMc37.out; omega)
        intro v189 w46 ho hb hg hat
        rw [← Ny188.out] at ho
        have n0_ := YL (blk_grown (g := gb167) (o := .cells #[.int .i64 a0_0, .int .i64 a0_1, .bool a0_2, .int .i64 a0_3, .int .i64 a0_4, .int .i64 a0_5, .int .i64 a0_6, .int .i64 a0_7, .int .i64 a0_8, .int .i64 a0_9, .int .i64 a0_10, .int .i64 a0_11] 45 (0, 0)) (upK BK167) hg (Kd.R_ne HO_5.out BK167.out (by decide)))
        have n1_ := YL (Kd.R_after (ok := (fun k_ => some k_ ≠ (v192 : Value).ownBlock)) (by (with_reducible repeat (first | apply YS | apply YT | apply YU)); exact Kd.R_mono HO187.out (fun _ hk => by first | exact ⟨hk.2, hk.1.2⟩ | exact trivial | (simp [hk]; done) | simp_all)) hg hat)
        have n2_ := YL (Kd.R_after (ok := (fun k_ => some k_ ≠ (.slice Ao47 t185.length co47 : Value).ownBlock)) (by (with_reducible repeat (first | apply YS | apply YT | apply YU)); exact Kd.R_mono HO193.out (fun _ hk => by first | exact ⟨hk.2, hk.1.2⟩ | exact trivial | (simp [hk]; done) | simp_all)) hg hat)
        have n3_ := YL (hb)
        have n4_ := YL (ho)
        clear BK167; clear HO187; clear HO193; clear HB; clear HO_5; have BK167 := n0_; have HO187 := n1_; have HO193 := n2_; have HB := n3_; have HO190 := n4_; clear n0_ n1_ n2_ n3_ n4_; clear ho hb hg hat
        refine hK.out _ _ ⟨(YI BK167.out 0).trans rfl, (YI BK167.out 1).trans rfl, (YI BK167.out 2).trans rfl, (YI BK167.out 3).trans rfl, (YI BK167.out 4).trans rfl, (YI BK167.out 5).trans rfl, (YI BK167.out 6).trans rfl, (YI BK167.out 7).trans rfl, (YI BK167.out 8).trans rfl, (YI BK167.out 9).trans rfl, (YI BK167.out 10).trans rfl, (YI BK167.out 11).trans rfl⟩ (fun hHeld => ?_)
        clear hK K
        refine normA (N := 44) ?_
        exact norm_ (by simp only [putAll, Act.put, YM, YN, YO]) (hCont (.slice Ao47 t185.length co47, v189, v192) _ ⟨hHeld, (by (with_reducible repeat (first | apply YS | apply YT | apply YU)); exact Kd.R_mono HO187.out (fun _ hk => by first | exact ⟨hk.2, hk.1⟩ | exact trivial | (simp [hk]; done) | simp_all)), (upR HO190), (upR HO193), (upK BK167), (upB HB)⟩)
       skip
       refine Kd.R_lit_step (Kd.int .u8) _ 5 ?hg (N := 53) ?hd (xs := ([(a0_9) % 256, (a0_10) % 256] : List Int)) (inner := [.int .u8 ((a0_9) % 256), .int .u8 ((a0_10) % 256)]) (ok := fun _ => True) (okp := fun _ => True) ?hr ?hp (fun _ hk => hk) trivial (Below.refl _ _) (Nat.le_refl _) (by simp) ?_; (case hd => rfl); (case hg => rfl); (case hr => first | (go_simp; done) | (go_simp; rfl)); (case hp => exact (Reps.one (show Kd.M (Kd.int .u8) _ _ _ ((a0_9) % 256) [.int .u8 ((a0_9) % 256)] from rfl) (Reps.one (show Kd.M (Kd.int .u8) _ _ _ ((a0_10) % 256) [.int .u8 ((a0_10) % 256)] from rfl) (Reps.none _ _))))
       intro v192 w43 ho44 hb hg_ hnew_
       clear hg_ hnew_
       (first | rw [← Ny191.out] at ho44 | (simp only [Int.reduceToNat] at ho44; rw [← Ny191.out] at ho44))
       have n0_ := YL (Kd.R_elder' (upR HO_5) (Kd.R_base ho44) hb)
       have n1_ := YL (Kd.R_lower (Kd.R_new' ho44 (Kd.R_lt (upR HO_5))) (YE (upB HB)))
       have n2_ := YL (YK (g := gb167) (o := .cells #[.int .i64 a0_0, .int .i64 a0_1, .bool a0_2, .int .i64 a0_3, .int .i64 a0_4, .int .i64 a0_5, .int .i64 a0_6, .int .i64 a0_7, .int .i64 a0_8, .int .i64 a0_9, .int .i64 a0_10, .int .i64 a0_11] 45 (0, 0)) (upK BK167) hb)
       have n3_ := YL (YD (upB HB) hb)
       clear HO_5; clear BK167; clear HB; have HO_5 := n0_; have HO193 := n1_; have BK167 := n2_; have HB := n3_; clear n0_ n1_ n2_ n3_; clear hb ho44
       refine hK.out _ _ ⟨(YI BK167.out 0).trans rfl, (YI BK167.out 1).trans rfl, (YI BK167.out 2).trans rfl, (YI BK167.out 3).trans rfl, (YI BK167.out 4).trans rfl, (YI BK167.out 5).trans rfl, (YI BK167.out 6).trans rfl, (YI BK167.out 7).trans rfl, (YI BK167.out 8).trans rfl, (YI BK167.out 9).trans rfl, (YI BK167.out 10).trans rfl, (YI BK167.out 11).trans rfl⟩ (fun hHeld => ?_)
       clear hK K
       refine normA (N := 53) ?_
       refine oneA (i := 4) (N := some 43) HT_ (fun K hK => ?_)
       refine goes_ Try.func36 (by kernel_rfl) rfl #[.int .i64 a0_8] (by rfl) rfl rfl (by (try simp only [YP, List.map_cons, List.map_nil]); first | done | rfl | (simp only [YR, YQ]; rfl)) ?_
       with_reducible refine (wire_Int.calls a0_8 t185 _ A36.out).mono ?_
       rintro e w45 ⟨v186, rfl, ho0, hb⟩
       refine ⟨_, rfl, ?_⟩
       have n0_ := YL (Kd.R_elder' (upR HO_5) (Kd.R_base ho0) hb)
       have n1_ := YL (Kd.R_elder' (upR HO193) (Kd.R_base ho0) hb)
       have n2_ := YL (Kd.R_lower (Kd.R_new' (Kd.R_new' ho0 (Kd.R_lt (upR HO_5))) (Kd.R_lt (upR HO193))) (YE (upB HB)))
       have n3_ := YL (YK (g := gb167) (o := .cells #[.int .i64 a0_0, .int .i64 a0_1, .bool a0_2, .int .i64 a0_3, .int .i64 a0_4, .int .i64 a0_5, .int .i64 a0_6, .int .i64 a0_7, .int .i64 a0_8, .int .i64 a0_9, .int .i64 a0_10, .int .i64 a0_11] 45 (0, 0)) (upK BK167) hb)
       have n4_ := YL (YD (upB HB) hb)
       clear HO_5; clear HO193; clear BK167; clear HB; have HO_5 := n0_; have HO193 := n1_; have HO187 := n2_; have BK167 := n3_; have HB := n4_; clear n0_ n1_ n2_ n3_ n4_; (try clear hb); (try clear hb2); (try clear hk); (try clear hi); (try clear ho0)
       obtain ⟨Ao47, co47, eo47⟩ := Kd.R_slice HO187.out
       (first | subst eo47 | (injection eo47 with f1_ f2_ f3_; have f4_ := f1_.symm; have f5_ := f3_.symm; clear f1_ f2_ f3_; subst f4_; subst f5_))
       refine hK.out _ _ ⟨(YI BK167.out 0).trans rfl, (YI BK167.out 1).trans rfl, (YI BK167.out 2).trans rfl, (YI BK167.out 3).trans rfl, (YI BK167.out 4).trans rfl, (YI BK167.out 5).trans rfl, (YI BK167.out 6).trans rfl, (YI BK167.out 7).trans rfl, (YI BK167.out 8).trans rfl, (YI BK167.out 9).trans rfl, (YI BK167.out 10).trans rfl, (YI BK167.out 11).trans rfl⟩ (fun hHeld => ?_)
       clear hK K
       refine normA (N := 43) ?_
       refine oneA (i := 5) (N := some 44) HT_ (fun K hK => ?_)
       refine Kd.R_append_rows_step (Kd.int .u8) (w0 := w) w.heap.size (by rfl) (.tmp 39) (.tmp 43) 26 5 (.int .u8 0) 1 rfl Try.underlying26 info5 rfl (by decide) (by omega) (.slice Ao41 y169.length co41) y169 t185 _ _ _ (fun k_ => some k_ ≠ (v192 : Value).ownBlock ∧ some k_ ≠ (.slice Ao47 t185.length co47 : Value).ownBlock) (fun _ => False) rfl rfl ?aO ?aR (fun _ _ h => h) (fun _ h => h.elim) ?aF ?aB ?aS ?aL ?_
       (case aR => repeat (first | exact (Kd.R_reads' HO187.out).2.2 | (with_reducible refine Kd.C_alloc ?_ _) | (with_reducible refine Kd.C_drewN ?_ _) | (with_reducible refine Kd.C_drew ?_)))
       (case aB => exact (upB HB))
       (case aF => exact (fun k_ hk => ⟨Kd.fresh' (Kd.R_lt (upR HO193)) k_ hk, Kd.fresh' (Kd.R_lt (upR HO187)) k_ hk⟩))
       (case aO => exact (by (with_reducible repeat (first | apply YS | apply YT | apply YU)); exact Kd.R_mono HO_5.out (fun _ hk => by first | exact ⟨hk.1.2, hk.2⟩ | exact trivial | (simp [hk]; done) | simp_all)))
       (case aS => exact (YE (upB HB)))
       (case aL => have := LMc37.out; omega)
       intro v189 w46 ho hb hg hat
       rw [← Ny188.out] at ho
       have n0_ := YL (blk_grown (g := gb167) (o := .cells #[.int .i64 a0_0, .int .i64 a0_1, .bool a0_2, .int .i64 a0_3, .int .i64 a0_4, .int .i64 a0_5, .int .i64 a0_6, .int .i64 a0_7, .int .i64 a0_8, .int .i64 a0_9, .int .i64 a0_10, .int .i64 a0_11] 45 (0, 0)) (upK BK167) hg (Kd.R_ne HO_5.out BK167.out (by decide)))
       have n1_ := YL (Kd.R_after (ok := (fun k_ => some k_ ≠ (.slice Ao47 t185.length co47 : Value).ownBlock)) (by (with_reducible repeat (first | apply YS | apply YT | apply YU)); exact Kd.R_mono HO193.out (fun _ hk => by first | exact ⟨hk.2, hk.1.2⟩ | exact trivial | (simp [hk]; done) | simp_all)) hg hat)
       have n2_ := YL (Kd.R_after (ok := (fun k_ => some k_ ≠ (v192 : Value).ownBlock)) (by (with_reducible repeat (first | apply YS | apply YT | apply YU)); exact Kd.R_mono HO187.out (fun _ hk => by first | exact ⟨hk.2, hk.1.2⟩ | exact trivial | (simp [hk]; done) | simp_all)) hg hat)
       have n3_ := YL (hb)
       have n4_ := YL (ho)
       clear BK167; clear HO193; clear HO187; clear HB; clear HO_5; have BK167 := n0_; have HO193 := n1_; have HO187 := n2_; have HB := n3_; have HO190 := n4_; clear n0_ n1_ n2_ n3_ n4_; clear ho hb hg hat
       refine hK.out _ _ ⟨(YI BK167.out 0).trans rfl, (YI BK167.out 1).trans rfl, (YI BK167.out 2).trans rfl, (YI BK167.out 3).trans rfl, (YI BK167.out 4).trans rfl, (YI BK167.out 5).trans rfl, (YI BK167.out 6).trans rfl, (YI BK167.out 7).trans rfl, (YI BK167.out 8).trans rfl, (YI BK167.out 9).trans rfl, (YI BK167.out 10).trans rfl, (YI BK167.out 11).trans rfl⟩ (fun hHeld => ?_)
       clear hK K
       refine normA (N := 44) ?_
       exact norm_ (by simp only [putAll, Act.put, YM, YN, YO]) (hCont (.slice Ao47 t185.length co47, v189, v192) _ ⟨hHeld, (by (with_reducible repeat (first | apply YS | apply YT | apply YU)); exact Kd.R_mono HO187.out (fun _ hk => by first | exact ⟨hk.2, hk.1⟩ | exact trivial | (simp [hk]; done) | simp_all)), (by (with_reducible repeat (first | apply YS | apply YT | apply YU)); exact Kd.R_mono HO190.out (fun _ hk => by first | exact ⟨hk.2, hk.1⟩ | exact trivial | (simp [hk]; done) | simp_all)), (upR HO193), (upK BK167), (upB HB)⟩)
      rintro ⟨v186, v189, v192⟩ w48 ⟨hS_, h0_, h1_, h2_, h3_, h4_⟩
      have n0_ : Aside0 (Kd.R (Kd.int .u8) 5 w48 w.heap.size (fun k_ => some k_ ≠ (v189 : Value).ownBlock ∧ some k_ ≠ (v192 : Value).ownBlock) v186 t185) := ⟨h0_⟩
      have n1_ : Aside0 (Kd.R (Kd.int .u8) 5 w48 w.heap.size (fun k_ => some k_ ≠ (v186 : Value).ownBlock ∧ some k_ ≠ (v192 : Value).ownBlock) v189 y188) := ⟨h1_⟩
      have n2_ : Aside0 (Kd.R (Kd.int .u8) 5 w48 w.heap.size (fun k_ => some k_ ≠ (v186 : Value).ownBlock ∧ some k_ ≠ (v189 : Value).ownBlock) v192 y191) := ⟨h2_⟩
      have n3_ : Aside0 (w48.heap[gb167]? = some (.cells #[.int .i64 a0_0, .int .i64 a0_1, .bool a0_2, .int .i64 a0_3, .int .i64 a0_4, .int .i64 a0_5, .int .i64 a0_6, .int .i64 a0_7, .int .i64 a0_8, .int .i64 a0_9, .int .i64 a0_10, .int .i64 a0_11] 45 (0, 0))) := ⟨h3_⟩
      have n4_ : Aside0 (Below w.heap.size w w48) := ⟨h4_⟩
      clear HO_5; clear BK167; clear HB; clear h0_ h1_ h2_ h3_ h4_; have HO187 := n0_; have HO190 := n1_; have HO193 := n2_; have BK167 := n3_; have HB := n4_; clear n0_ n1_ n2_ n3_ n4_
      have hHeld : w48.cell? ⟨gb167, 0, none⟩ = some (.int .i64 a0_0) ∧ w48.cell? ⟨gb167, 1, none⟩ = some (.int .i64 a0_1) ∧ w48.cell? ⟨gb167, 2, none⟩ = some (.bool a0_2) ∧ w48.cell? ⟨gb167, 3, none⟩ = some (.int .i64 a0_3) ∧ w48.cell? ⟨gb167, 4, none⟩ = some (.int .i64 a0_4) ∧ w48.cell? ⟨gb167, 5, none⟩ = some (.int .i64 a0_5) ∧ w48.cell? ⟨gb167, 6, none⟩ = some (.int .i64 a0_6) ∧ w48.cell? ⟨gb167, 7, none⟩ = some (.int .i64 a0_7) ∧ w48.cell? ⟨gb167, 8, none⟩ = some (.int .i64 a0_8) ∧ w48.cell? ⟨gb167, 9, none⟩ = some (.int .i64 a0_9) ∧ w48.cell? ⟨gb167, 10, none⟩ = some (.int .i64 a0_10) ∧ w48.cell? ⟨gb167, 11, none⟩ = some (.int .i64 a0_11) := hS_
      obtain ⟨Ao50, co50, eo50⟩ := Kd.R_slice HO193.out
      (first | subst eo50 | (injection eo50 with f1_ f2_ f3_; have f4_ := f1_.symm; have f5_ := f3_.symm; clear f1_ f2_ f3_; subst f4_; subst f5_))
      refine norm_ (a' := ?_) ?_ ?_
      rotate_left
      ·simp only [putAll, Act.put, YM, YN, YO]
       rfl
      refine oneA (i := 15) (N := some 54) HT_ (fun K hK => ?_)
      refine Kd.R_append_rows_step (Kd.int .u8) (w0 := w) w.heap.size (by rfl) (.tmp 44) (.tmp 53) 26 5 (.int .u8 0) 1 rfl Try.underlying26 info5 rfl (by decide) (by omega) v189 y188 y191 _ _ _ (fun k_ => some k_ ≠ (v186 : Value).ownBlock ∧ some k_ ≠ (.slice Ao50 y191.length co50 : Value).ownBlock) (fun _ => False) rfl rfl ?aO ?aR (fun _ _ h => h) (fun _ h => h.elim) ?aF ?aB ?aS ?aL ?_
      (case aR => repeat (first | exact (Kd.R_reads' HO193.out).2.2 | (with_reducible refine Kd.C_alloc ?_ _) | (with_reducible refine Kd.C_drewN ?_ _) | (with_reducible refine Kd.C_drew ?_)))
      (case aB => exact (upB HB))
      (case aF => exact (fun k_ hk => ⟨Kd.fresh' (Kd.R_lt (upR HO187)) k_ hk, Kd.fresh' (Kd.R_lt (upR HO193)) k_ hk⟩))
      (case aO => exact (upR HO190))
      (case aS => exact (YE (upB HB)))
      (case aL => have := LMc38.out; omega)
      intro v195 w49 ho hb hg hat
      rw [← Ny194.out] at ho
      have n0_ := YL (blk_grown (g := gb167) (o := .cells #[.int .i64 a0_0, .int .i64 a0_1, .bool a0_2, .int .i64 a0_3, .int .i64 a0_4, .int .i64 a0_5, .int .i64 a0_6, .int .i64 a0_7, .int .i64 a0_8, .int .i64 a0_9, .int .i64 a0_10, .int .i64 a0_11] 45 (0, 0)) (upK BK167) hg (Kd.R_ne HO190.out BK167.out (by decide)))
      have n1_ := YL (Kd.R_after (ok := (fun k_ => some k_ ≠ (.slice Ao50 y191.length co50 : Value).ownBlock)) (by (with_reducible repeat (first | apply YS | apply YT | apply YU)); exact Kd.R_mono HO187.out (fun _ hk => by first | exact ⟨hk.2, hk.1⟩ | exact trivial | (simp [hk]; done) | simp_all)) hg hat)
      have n2_ := YL (Kd.R_after (ok := (fun k_ => some k_ ≠ (v186 : Value).ownBlock)) (upR HO193) hg hat)
      have n3_ := YL (hb)
      have n4_ := YL (ho)
      clear BK167; clear HO187; clear HO193; clear HB; clear HO190; have BK167 := n0_; have HO187 := n1_; have HO193 := n2_; have HB := n3_; have HO196 := n4_; clear n0_ n1_ n2_ n3_ n4_; clear ho hb hg hat
      refine hK.out _ _ ⟨(YI BK167.out 0).trans rfl, (YI BK167.out 1).trans rfl, (YI BK167.out 2).trans rfl, (YI BK167.out 3).trans rfl, (YI BK167.out 4).trans rfl, (YI BK167.out 5).trans rfl, (YI BK167.out 6).trans rfl, (YI BK167.out 7).trans rfl, (YI BK167.out 8).trans rfl, (YI BK167.out 9).trans rfl, (YI BK167.out 10).trans rfl, (YI BK167.out 11).trans rfl⟩ (fun hHeld => ?_)
      clear hK K
      refine normA (N := 54) ?_
      refine pure_ (i := 16) (N := some 5) (v := ?_) (a' := ?_) #[true, true, true, true, true, true, true, true, true, true, true, true, true, true, true, true, true] rfl rfl (any_of HT_.out (by kernel_rfl)) (fun _ _ _ h => h) (Or.inl ⟨by rfl, ?_⟩) ?_ ?_
      rotate_left
      ·intro w'
       go_simp; with_reducible rfl
      rotate_left
      ·simp only [Act.put, YM, YN, YO, i64_w, i32_w]
       rfl
      refine done_ (done_of HT_.out (by kernel_rfl)) ?_
      have q51_0 : w49.cell? ⟨gb167, 0, none⟩ = some (.int .i64 a0_0) := (YI BK167.out 0).trans rfl
      have q51_1 : w49.cell? ⟨gb167, 1, none⟩ = some (.int .i64 a0_1) := (YI BK167.out 1).trans rfl
      have q51_2 : w49.cell? ⟨gb167, 2, none⟩ = some (.bool a0_2) := (YI BK167.out 2).trans rfl
      have q51_3 : w49.cell? ⟨gb167, 3, none⟩ = some (.int .i64 a0_3) := (YI BK167.out 3).trans rfl
      have q51_4 : w49.cell? ⟨gb167, 4, none⟩ = some (.int .i64 a0_4) := (YI BK167.out 4).trans rfl
      have q51_5 : w49.cell? ⟨gb167, 5, none⟩ = some (.int .i64 a0_5) := (YI BK167.out 5).trans rfl
      have q51_6 : w49.cell? ⟨gb167, 6, none⟩ = some (.int .i64 a0_6) := (YI BK167.out 6).trans rfl
      have q51_7 : w49.cell? ⟨gb167, 7, none⟩ = some (.int .i64 a0_7) := (YI BK167.out 7).trans rfl
      have q51_8 : w49.cell? ⟨gb167, 8, none⟩ = some (.int .i64 a0_8) := (YI BK167.out 8).trans rfl
      have q51_9 : w49.cell? ⟨gb167, 9, none⟩ = some (.int .i64 a0_9) := (YI BK167.out 9).trans rfl
      have q51_10 : w49.cell? ⟨gb167, 10, none⟩ = some (.int .i64 a0_10) := (YI BK167.out 10).trans rfl
      have q51_11 : w49.cell? ⟨gb167, 11, none⟩ = some (.int .i64 a0_11) := (YI BK167.out 11).trans rfl
      have f51_0 := YJ BK167.out 0
      have f51_1 := YJ BK167.out 1
      have f51_2 := YJ BK167.out 2
      have f51_3 := YJ BK167.out 3
      have f51_4 := YJ BK167.out 4
      have f51_5 := YJ BK167.out 5
      have f51_6 := YJ BK167.out 6
      have f51_7 := YJ BK167.out 7
      have f51_8 := YJ BK167.out 8
      have f51_9 := YJ BK167.out 9
      have f51_10 := YJ BK167.out 10
      have f51_11 := YJ BK167.out 11
      try go_wp2_with (first | ((with_reducible refine gate_dst (N := 66) rfl ?_); refine Kd.R_lit (Kd.int .u8) _ 5 ?hg (N := 66) ?hd (xs := ([(a0_11 / 256) % 256, (a0_11) % 256] : List Int)) (inner := [.int .u8 ((a0_11 / 256) % 256), .int .u8 ((a0_11) % 256)]) (ok := fun _ => True) (okp := fun _ => True) ?hr ?hp (fun _ hk => hk) trivial (Below.refl _ _) (Nat.le_refl _) (by simp) ?_; (case hd => rfl); (case hg => rfl); (case hr => first | (go_simp; done) | (go_simp; rfl)); (case hp => exact (Reps.one (show Kd.M (Kd.int .u8) _ _ _ ((a0_11 / 256) % 256) [.int .u8 ((a0_11 / 256) % 256)] from rfl) (Reps.one (show Kd.M (Kd.int .u8) _ _ _ ((a0_11) % 256) [.int .u8 ((a0_11) % 256)] from rfl) (Reps.none _ _)))); intro v198 w52 ho53 hb hg_ hnew_; clear hg_ hnew_; (first | rw [← Ny197.out] at ho53 | (simp only [Int.reduceToNat] at ho53; rw [← Ny197.out] at ho53)); have n0_ := YL (Kd.R_elder' (upR HO187) (Kd.R_base ho53) hb); have n1_ := YL (Kd.R_elder' (upR HO193) (Kd.R_base ho53) hb); have n2_ := YL (Kd.R_elder' (upR HO196) (Kd.R_base ho53) hb); have n3_ := YL (Kd.R_lower (Kd.R_new' (Kd.R_new' (Kd.R_new' ho53 (Kd.R_lt (upR HO187))) (Kd.R_lt (upR HO193))) (Kd.R_lt (upR HO196))) (YE (upB HB))); have n4_ := YL (YK (g := gb167) (o := .cells #[.int .i64 a0_0, .int .i64 a0_1, .bool a0_2, .int .i64 a0_3, .int .i64 a0_4, .int .i64 a0_5, .int .i64 a0_6, .int .i64 a0_7, .int .i64 a0_8, .int .i64 a0_9, .int .i64 a0_10, .int .i64 a0_11] 45 (0, 0)) (upK BK167) hb); have n5_ := YL (YD (upB HB) hb); clear HO187; clear HO193; clear HO196; clear BK167; clear HB; have HO187 := n0_; have HO193 := n1_; have HO196 := n2_; have HO199 := n3_; have BK167 := n4_; have HB := n5_; clear n0_ n1_ n2_ n3_ n4_ n5_; clear hb ho53; obtain ⟨Ao55, co55, eo55⟩ := Kd.R_slice HO199.out; subst eo55) | ((with_reducible refine gate_builtin (b := .append) (xs := #[.tmp 58, .tmp 66]) rfl ?_); at_builtin; refine Kd.R_append_rows (Kd.int .u8) (w0 := w) w.heap.size rfl (.tmp 58) (.tmp 66) 26 5 (.int .u8 0) 1 rfl Try.underlying26 info5 rfl (by decide) (by omega) v195 y194 y197 _ _ _ (fun k_ => some k_ ≠ (v186 : Value).ownBlock ∧ some k_ ≠ (.slice Ao50 y191.length co50 : Value).ownBlock ∧ some k_ ≠ (.slice Ao55 y197.length co55 : Value).ownBlock) (fun _ => False) rfl rfl ?aO ?aR (fun _ _ h => h) (fun _ h => h.elim) ?aF ?aB ?aS ?aL ?_; (case aR => repeat (first | exact (Kd.R_reads' HO199.out).2.2 | (with_reducible refine Kd.C_alloc ?_ _) | (with_reducible refine Kd.C_drewN ?_ _) | (with_reducible refine Kd.C_drew ?_))); (case aB => exact (upB HB)); (case aF => exact (fun k_ hk => ⟨Kd.fresh' (Kd.R_lt (upR HO187)) k_ hk, Kd.fresh' (Kd.R_lt (upR HO193)) k_ hk, Kd.fresh' (Kd.R_lt (upR HO199)) k_ hk⟩)); (case aO => exact (by (with_reducible repeat (first | apply YS | apply YT | apply YU)); exact Kd.R_mono HO196.out (fun _ hk => by first | exact ⟨hk.1.1, ⟨hk.1.2, hk.2⟩⟩ | exact trivial | (simp [hk]; done) | simp_all))); (case aS => exact (YE (upB HB))); (case aL => have := LMc40.out; omega); intro v201 w54 ho hb hg hat; rw [← Ny200.out] at ho; have n0_ := YL (blk_grown (g := gb167) (o := .cells #[.int .i64 a0_0, .int .i64 a0_1, .bool a0_2, .int .i64 a0_3, .int .i64 a0_4, .int .i64 a0_5, .int .i64 a0_6, .int .i64 a0_7, .int .i64 a0_8, .int .i64 a0_9, .int .i64 a0_10, .int .i64 a0_11] 45 (0, 0)) (upK BK167) hg (Kd.R_ne HO196.out BK167.out (by decide))); have n1_ := YL (Kd.R_after (ok := (fun k_ => some k_ ≠ (.slice Ao50 y191.length co50 : Value).ownBlock ∧ some k_ ≠ (.slice Ao55 y197.length co55 : Value).ownBlock)) (by (with_reducible repeat (first | apply YS | apply YT | apply YU)); exact Kd.R_mono HO187.out (fun _ hk => by first | exact ⟨⟨hk.1.1, hk.2⟩, hk.1.2⟩ | exact trivial | (simp [hk]; done) | simp_all)) hg hat); have n2_ := YL (Kd.R_after (ok := (fun k_ => some k_ ≠ (v186 : Value).ownBlock ∧ some k_ ≠ (.slice Ao55 y197.length co55 : Value).ownBlock)) (by (with_reducible repeat (first | apply YS | apply YT | apply YU)); exact Kd.R_mono HO193.out (fun _ hk => by first | exact ⟨⟨hk.1.1, hk.2⟩, hk.1.2⟩ | exact trivial | (simp [hk]; done) | simp_all)) hg hat); have n3_ := YL (Kd.R_after (ok := (fun k_ => some k_ ≠ (v186 : Value).ownBlock ∧ some k_ ≠ (.slice Ao50 y191.length co50 : Value).ownBlock)) (by (with_reducible repeat (first | apply YS | apply YT | apply YU)); exact Kd.R_mono HO199.out (fun _ hk => by first | exact ⟨⟨hk.1.1.2, hk.1.2⟩, hk.2⟩ | exact trivial | (simp [hk]; done) | simp_all)) hg hat); have n4_ := YL (hb); have n5_ := YL (ho); clear BK167; clear HO187; clear HO193; clear HO199; clear HB; clear HO196; have BK167 := n0_; have HO187 := n1_; have HO193 := n2_; have HO199 := n3_; have HB := n4_; have HO202 := n5_; clear n0_ n1_ n2_ n3_ n4_ n5_; clear ho hb hg hat))
      go_ret2
      exact ⟨_, by first | rfl | (simp [errW_none, errW_some] <;> rfl) | (simp [*, errW_none, errW_some] <;> rfl), by (with_reducible repeat (first | apply YS | apply YT | apply YU)); exact Kd.R_mono HO202.out (fun _ hk => trivial), by repeat (first | (with_reducible first | exact HB.out | apply YA | apply YB | apply YC | refine below_set ?_ GE167.out) | exact HB.out)⟩
     rw [if_neg c39] at H
     have c39b0 : (a0_0 == 4) = false := beq_eq_false_iff_ne.mpr c39
     have c39b1 : (a0_0 != 4) = true := bne_iff_ne.mpr c39
     simp only [Option.some.injEq, Prod.mk.injEq] at H
     obtain ⟨rfl, rfl⟩ := H
     obtain ⟨Ao56, co56, eo56⟩ := Kd.R_slice HO_5.out
     subst eo56
     try go_wp2
     have n0_ := YL (YU HO_5.out)
     have n1_ := YL (YG BK167.out)
     have n2_ := YL (YC HB.out)
     clear HO_5; clear BK167; clear HB; have HO_5 := n0_; have BK167 := n1_; have HB := n2_; clear n0_ n1_ n2_
     refine start_ (n := 17) (S := fun w' => w'.cell? ⟨gb167, 0, none⟩ = some (.int .i64 a0_0) ∧ w'.cell? ⟨gb167, 1, none⟩ = some (.int .i64 a0_1) ∧ w'.cell? ⟨gb167, 2, none⟩ = some (.bool a0_2) ∧ w'.cell? ⟨gb167, 3, none⟩ = some (.int .i64 a0_3) ∧ w'.cell? ⟨gb167, 4, none⟩ = some (.int .i64 a0_4) ∧ w'.cell? ⟨gb167, 5, none⟩ = some (.int .i64 a0_5) ∧ w'.cell? ⟨gb167, 6, none⟩ = some (.int .i64 a0_6) ∧ w'.cell? ⟨gb167, 7, none⟩ = some (.int .i64 a0_7) ∧ w'.cell? ⟨gb167, 8, none⟩ = some (.int .i64 a0_8) ∧ w'.cell? ⟨gb167, 9, none⟩ = some (.int .i64 a0_9) ∧ w'.cell? ⟨gb167, 10, none⟩ = some (.int .i64 a0_10) ∧ w'.cell? ⟨gb167, 11, none⟩ = some (.int .i64 a0_11)) (ds := []) #[false, false, false, false, false, false, false, false, false, false, false, false, false, false, false, false, false] (by kernel_rfl) rfl rfl ⟨(YI BK167.out 0).trans rfl, (YI BK167.out 1).trans rfl, (YI BK167.out 2).trans rfl, (YI BK167.out 3).trans rfl, (YI BK167.out 4).trans rfl, (YI BK167.out 5).trans rfl, (YI BK167.out 6).trans rfl, (YI BK167.out 7).trans rfl, (YI BK167.out 8).trans rfl, (YI BK167.out 9).trans rfl, (YI BK167.out 10).trans rfl, (YI BK167.out 11).trans rfl⟩ (fun hHeld => ?_); refine with_tabW object_Bytes.tab13 object_Bytes.bits13 (fun HT_ HW_ => ?_)
     generalize wc.drew = w57 at HO_5 BK167 HB hHeld ⊢
     refine pure_ (i := 0) (N := some 39) (v := ?_) (a' := ?_) #[true, false, false, false, false, false, false, false, false, false, false, false, false, false, false, false, false] rfl rfl (any_of HT_.out (by kernel_rfl)) (fun _ _ _ h => h) (Or.inl ⟨by rfl, ?_⟩) ?_ ?_
     rotate_left
     ·intro w'
      go_simp; with_reducible rfl
     rotate_left
     ·simp only [Act.put, YM, YN, YO, i64_w, i32_w]
      rfl
     refine pure_ (i := 1) (N := some 40) (v := ?_) (a' := ?_) #[true, true, false, false, false, false, false, false, false, false, false, false, false, false, false, false, false] rfl rfl (any_of HT_.out (by kernel_rfl)) (fun _ _ _ h => h) (Or.inl ⟨by rfl, ?_⟩) ?_ ?_
     rotate_left
     ·intro w'
      go_simp; with_reducible rfl
     rotate_left
     ·simp only [Act.put, YM, YN, YO, i64_w, i32_w]
      rfl
     refine pure_ (i := 2) (N := some 41) (v := ?_) (a' := ?_) #[true, true, true, false, false, false, false, false, false, false, false, false, false, false, false, false, false] rfl rfl (any_of HT_.out (by kernel_rfl)) (fun _ _ _ h => h) (Or.inl ⟨by rfl, ?_⟩) ?_ ?_
     rotate_left
     ·intro w'
      go_simp; with_reducible rfl
     rotate_left
     ·simp only [Act.put, YM, YN, YO, i64_w, i32_w]
      rfl
     refine pure_ (i := 6) (N := some 45) (v := ?_) (a' := ?_) #[true, true, true, false, false, false, true, false, false, false, false, false, false, false, false, false, false] rfl rfl (any_of HT_.out (by kernel_rfl)) (fun _ _ _ h => h) (Or.inl ⟨by rfl, ?_⟩) ?_ ?_
     rotate_left
     ·intro w'
      go_simp; with_reducible rfl
     rotate_left
     ·simp only [Act.put, YM, YN, YO, i64_w, i32_w]
      rfl
     refine pure_ (i := 7) (N := some 46) (v := ?_) (a' := ?_) #[true, true, true, false, false, false, true, true, false, false, false, false, false, false, false, false, false] rfl rfl (any_of HT_.out (by kernel_rfl)) (fun _ _ _ h => h) (Or.inl ⟨by rfl, ?_⟩) ?_ ?_
     rotate_left
     ·intro w'
      go_simp; with_reducible rfl
     rotate_left
     ·simp only [Act.put, YM, YN, YO, i64_w, i32_w]
      rfl
     refine pure_ (i := 10) (N := some 49) (v := ?_) (a' := ?_) #[true, true, true, false, false, false, true, true, false, false, true, false, false, false, false, false, false] rfl rfl (any_of HT_.out (by kernel_rfl)) (fun _ _ _ h => h) (Or.inl ⟨by rfl, ?_⟩) ?_ ?_
     rotate_left
     ·intro w'
      go_simp; with_reducible rfl
     rotate_left
     ·simp only [Act.put, YM, YN, YO, i64_w, i32_w]
      rfl
     refine pure_ (i := 11) (N := some 50) (v := ?_) (a' := ?_) #[true, true, true, false, false, false, true, true, false, false, true, true, false, false, false, false, false] rfl rfl (any_of HT_.out (by kernel_rfl)) (fun _ _ _ h => h) (Or.inl ⟨by rfl, ?_⟩) ?_ ?_
     rotate_left
     ·intro w'
      go_simp; with_reducible rfl
     rotate_left
     ·simp only [Act.put, YM, YN, YO, i64_w, i32_w]
      rfl
     refine take_ (i := 3) (N := some 42) (v := ?_) (a' := ?_) #[true, true, true, true, false, false, true, true, false, false, true, true, false, false, false, false, false] rfl rfl (take_ofW HT_.out HW_.out (by kernel_rfl)) (fun _ _ _ h => h) (Or.inl ⟨by rfl, ?_⟩) hHeld ?_ ?_
     rotate_left
     ·rintro w' ⟨s0, s1, s2, s3, s4, s5, s6, s7, s8, s9, s10, s11⟩
      go_simp; with_reducible rfl
     rotate_left
     ·simp only [Act.put, YM, YN, YO, i64_w, i32_w]
      rfl
     refine take_ (i := 8) (N := some 47) (v := ?_) (a' := ?_) #[true, true, true, true, false, false, true, true, true, false, true, true, false, false, false, false, false] rfl rfl (take_ofW HT_.out HW_.out (by kernel_rfl)) (fun _ _ _ h => h) (Or.inl ⟨by rfl, ?_⟩) hHeld ?_ ?_
     rotate_left
     ·rintro w' ⟨s0, s1, s2, s3, s4, s5, s6, s7, s8, s9, s10, s11⟩
      go_simp; with_reducible rfl
     rotate_left
     ·simp only [Act.put, YM, YN, YO, i64_w, i32_w]
      rfl
     refine pure_ (i := 9) (N := some 48) (v := ?_) (a' := ?_) #[true, true, true, true, false, false, true, true, true, true, true, true, false, false, false, false, false] rfl rfl (any_of HT_.out (by kernel_rfl)) (fun _ _ _ h => h) (Or.inl ⟨by rfl, ?_⟩) ?_ ?_
     rotate_left
     ·intro w'
      go_simp; with_reducible rfl
     rotate_left
     ·simp only [Act.put, YM, YN, YO, i64_w, i32_w]
      rfl
     refine take_ (i := 12) (N := some 51) (v := ?_) (a' := ?_) #[true, true, true, true, false, false, true, true, true, true, true, true, true, false, false, false, false] rfl rfl (take_ofW HT_.out HW_.out (by kernel_rfl)) (fun _ _ _ h => h) (Or.inl ⟨by rfl, ?_⟩) hHeld ?_ ?_
     rotate_left
     ·rintro w' ⟨s0, s1, s2, s3, s4, s5, s6, s7, s8, s9, s10, s11⟩
      go_simp; with_reducible rfl
     rotate_left
     ·simp only [Act.put, YM, YN, YO, i64_w, i32_w]
      rfl
     refine pure_ (i := 13) (N := some 52) (v := ?_) (a' := ?_) #[true, true, true, true, false, false, true, true, true, true, true, true, true, true, false, false, false] rfl rfl (any_of HT_.out (by kernel_rfl)) (fun _ _ _ h => h) (Or.inl ⟨by rfl, ?_⟩) ?_ ?_
     rotate_left
     ·intro w'
      go_simp; with_reducible rfl
     rotate_left
     ·simp only [Act.put, YM, YN, YO, i64_w, i32_w]
      rfl
     refine join_ (σ := Value × Value × Value) 2 #[true, true, true, true, true, true, true, true, true, true, true, true, true, true, true, false, false] (fun s_ => [(43, s_.1), (44, s_.2.1), (53, s_.2.2)]) (fun s_ w' => (w'.cell? ⟨gb167, 0, none⟩ = some (.int .i64 a0_0) ∧ w'.cell? ⟨gb167, 1, none⟩ = some (.int .i64 a0_1) ∧ w'.cell? ⟨gb167, 2, none⟩ = some (.bool a0_2) ∧ w'.cell? ⟨gb167, 3, none⟩ = some (.int .i64 a0_3) ∧ w'.cell? ⟨gb167, 4, none⟩ = some (.int .i64 a0_4) ∧ w'.cell? ⟨gb167, 5, none⟩ = some (.int .i64 a0_5) ∧ w'.cell? ⟨gb167, 6, none⟩ = some (.int .i64 a0_6) ∧ w'.cell? ⟨gb167, 7, none⟩ = some (.int .i64 a0_7) ∧ w'.cell? ⟨gb167, 8, none⟩ = some (.int .i64 a0_8) ∧ w'.cell? ⟨gb167, 9, none⟩ = some (.int .i64 a0_9) ∧ w'.cell? ⟨gb167, 10, none⟩ = some (.int .i64 a0_10) ∧ w'.cell? ⟨gb167, 11, none⟩ = some (.int .i64 a0_11)) ∧ (Kd.R (Kd.int .u8) 5 w' w.heap.size (fun k_ => some k_ ≠ (s_.2.1 : Value).ownBlock ∧ some k_ ≠ (s_.2.2 : Value).ownBlock) s_.1 t185) ∧ (Kd.R (Kd.int .u8) 5 w' w.heap.size (fun k_ => some k_ ≠ (s_.1 : Value).ownBlock ∧ some k_ ≠ (s_.2.2 : Value).ownBlock) s_.2.1 y188) ∧ (Kd.R (Kd.int .u8) 5 w' w.heap.size (fun k_ => some k_ ≠ (s_.1 : Value).ownBlock ∧ some k_ ≠ (s_.2.1 : Value).ownBlock) s_.2.2 y191) ∧ (w'.heap[gb167]? = some (.cells #[.int .i64 a0_0, .int .i64 a0_1, .bool a0_2, .int .i64 a0_3, .int .i64 a0_4, .int .i64 a0_5, .int .i64 a0_6, .int .i64 a0_7, .int .i64 a0_8, .int .i64 a0_9, .int .i64 a0_10, .int .i64 a0_11] 45 (0, 0))) ∧ (Below w.heap.size w w')) ?_ ?_
     rotate_left
     ·intro hCont
      refine two_ (i := 4) (j := 14) (Ni := some 43) (Nj := some 53) #[true, true, true, true, true, false, true, true, true, true, true, true, true, true, false, false, false] #[true, true, true, true, false, false, true, true, true, true, true, true, true, true, true, false, false] rfl rfl rfl rfl (two_of HT_.out (by kernel_rfl)) (by decide) (by decide) (fun K hK => ?_) (fun K hK => ?_)
      ·skip
       refine goes_ Try.func36 (by kernel_rfl) rfl #[.int .i64 a0_8] (by rfl) rfl rfl (by (try simp only [YP, List.map_cons, List.map_nil]); first | done | rfl | (simp only [YR, YQ]; rfl)) ?_
       with_reducible refine (wire_Int.calls a0_8 t185 _ A36.out).mono ?_
       rintro e w58 ⟨v186, rfl, ho0, hb⟩
       refine ⟨_, rfl, ?_⟩
       have n0_ := YL (Kd.R_elder' (upR HO_5) (Kd.R_base ho0) hb)
       have n1_ := YL (Kd.R_lower (Kd.R_new' ho0 (Kd.R_lt (upR HO_5))) (YE (upB HB)))
       have n2_ := YL (YK (g := gb167) (o := .cells #[.int .i64 a0_0, .int .i64 a0_1, .bool a0_2, .int .i64 a0_3, .int .i64 a0_4, .int .i64 a0_5, .int .i64 a0_6, .int .i64 a0_7, .int .i64 a0_8, .int .i64 a0_9, .int .i64 a0_10, .int .i64 a0_11] 45 (0, 0)) (upK BK167) hb)
       have n3_ := YL (YD (upB HB) hb)
       clear HO_5; clear BK167; clear HB; have HO_5 := n0_; have HO187 := n1_; have BK167 := n2_; have HB := n3_; clear n0_ n1_ n2_ n3_; (try clear hb); (try clear hb2); (try clear hk); (try clear hi); (try clear ho0)
       obtain ⟨Ao60, co60, eo60⟩ := Kd.R_slice HO187.out
       (first | subst eo60 | (injection eo60 with f1_ f2_ f3_; have f4_ := f1_.symm; have f5_ := f3_.symm; clear f1_ f2_ f3_; subst f4_; subst f5_))
       refine hK.out _ _ ⟨(YI BK167.out 0).trans rfl, (YI BK167.out 1).trans rfl, (YI BK167.out 2).trans rfl, (YI BK167.out 3).trans rfl, (YI BK167.out 4).trans rfl, (YI BK167.out 5).trans rfl, (YI BK167.out 6).trans rfl, (YI BK167.out 7).trans rfl, (YI BK167.out 8).trans rfl, (YI BK167.out 9).trans rfl, (YI BK167.out 10).trans rfl, (YI BK167.out 11).trans rfl⟩ (fun hHeld => ?_)
       clear hK K
       refine normA (N := 43) ?_
       refine two_ (i := 5) (j := 14) (Ni := some 44) (Nj := some 53) #[true, true, true, true, true, true, true, true, true, true, true, true, true, true, false, false, false] #[true, true, true, true, true, false, true, true, true, true, true, true, true, true, true, false, false] rfl rfl rfl rfl (two_of HT_.out (by kernel_rfl)) (by decide) (by decide) (fun K hK => ?_) (fun K hK => ?_)
       ·skip
        refine Kd.R_append_rows_step (Kd.int .u8) (w0 := w) w.heap.size (by rfl) (.tmp 39) (.tmp 43) 26 5 (.int .u8 0) 1 rfl Try.underlying26 info5 rfl (by decide) (by omega) (.slice Ao56 y169.length co56) y169 t185 _ _ _ (fun k_ => some k_ ≠ (.slice Ao60 t185.length co60 : Value).ownBlock) (fun _ => False) rfl rfl ?aO ?aR (fun _ _ h => h) (fun _ h => h.elim) ?aF ?aB ?aS ?aL ?_
        (case aR => repeat (first | exact (Kd.R_reads' HO187.out).2.2 | (with_reducible refine Kd.C_alloc ?_ _) | (with_reducible refine Kd.C_drewN ?_ _) | (with_reducible refine Kd.C_drew ?_)))
        (case aB => exact (upB HB))
        (case aF => exact (fun k_ hk => Kd.fresh' (Kd.R_lt (upR HO187)) k_ hk))
        (case aO => exact (by (with_reducible repeat (first | apply YS | apply YT | apply YU)); exact Kd.R_mono HO_5.out (fun _ hk => by first | exact hk.2 | exact trivial | (simp [hk]; done) | simp_all)))
        (case aS => exact (YE (upB HB)))
        (case aL => have := LMc37.out; omega)
        intro v189 w59 ho hb hg hat
        rw [← Ny188.out] at ho
        have n0_ := YL (blk_grown (g := gb167) (o := .cells #[.int .i64 a0_0, .int .i64 a0_1, .bool a0_2, .int .i64 a0_3, .int .i64 a0_4, .int .i64 a0_5, .int .i64 a0_6, .int .i64 a0_7, .int .i64 a0_8, .int .i64 a0_9, .int .i64 a0_10, .int .i64 a0_11] 45 (0, 0)) (upK BK167) hg (Kd.R_ne HO_5.out BK167.out (by decide)))
        have n1_ := YL (Kd.R_after (ok := (fun _ => True)) (upR HO187) hg hat)
        have n2_ := YL (hb)
        have n3_ := YL (ho)
        clear BK167; clear HO187; clear HB; clear HO_5; have BK167 := n0_; have HO187 := n1_; have HB := n2_; have HO190 := n3_; clear n0_ n1_ n2_ n3_; clear ho hb hg hat
        refine hK.out _ _ ⟨(YI BK167.out 0).trans rfl, (YI BK167.out 1).trans rfl, (YI BK167.out 2).trans rfl, (YI BK167.out 3).trans rfl, (YI BK167.out 4).trans rfl, (YI BK167.out 5).trans rfl, (YI BK167.out 6).trans rfl, (YI BK167.out 7).trans rfl, (YI BK167.out 8).trans rfl, (YI BK167.out 9).trans rfl, (YI BK167.out 10).trans rfl, (YI BK167.out 11).trans rfl⟩ (fun hHeld => ?_)
        clear hK K
        refine normA (N := 44) ?_
        refine oneA (i := 14) (N := some 53) HT_ (fun K hK => ?_)
        refine Kd.R_lit_step (Kd.int .u8) _ 5 ?hg (N := 53) ?hd (xs := ([(a0_9) % 256, (a0_10) % 256] : List Int)) (inner := [.int .u8 ((a0_9) % 256), .int .u8 ((a0_10) % 256)]) (ok := fun _ => True) (okp := fun _ => True) ?hr ?hp (fun _ hk => hk) trivial (Below.refl _ _) (Nat.le_refl _) (by simp) ?_; (case hd => rfl); (case hg => rfl); (case hr => first | (go_simp; done) | (go_simp; rfl)); (case hp => exact (Reps.one (show Kd.M (Kd.int .u8) _ _ _ ((a0_9) % 256) [.int .u8 ((a0_9) % 256)] from rfl) (Reps.one (show Kd.M (Kd.int .u8) _ _ _ ((a0_10) % 256) [.int .u8 ((a0_10) % 256)] from rfl) (Reps.none _ _))))
        intro v192 w61 ho62 hb hg_ hnew_
        clear hg_ hnew_
        (first | rw [← Ny191.out] at ho62 | (simp only [Int.reduceToNat] at ho62; rw [← Ny191.out] at ho62))
        have n0_ := YL (Kd.R_elder' (upR HO187) (Kd.R_base ho62) hb)
        have n1_ := YL (Kd.R_elder' (upR HO190) (Kd.R_base ho62) hb)
        have n2_ := YL (Kd.R_lower (Kd.R_new' (Kd.R_new' ho62 (Kd.R_lt (upR HO187))) (Kd.R_lt (upR HO190))) (YE (upB HB)))
        have n3_ := YL (YK (g := gb167) (o := .cells #[.int .i64 a0_0, .int .i64 a0_1, .bool a0_2, .int .i64 a0_3, .int .i64 a0_4, .int .i64 a0_5, .int .i64 a0_6, .int .i64 a0_7, .int .i64 a0_8, .int .i64 a0_9, .int .i64 a0_10, .int .i64 a0_11] 45 (0, 0)) (upK BK167) hb)
        have n4_ := YL (YD (upB HB) hb)
        clear HO187; clear HO190; clear BK167; clear HB; have HO187 := n0_; have HO190 := n1_; have HO193 := n2_; have BK167 := n3_; have HB := n4_; clear n0_ n1_ n2_ n3_ n4_; clear hb ho62
        refine hK.out _ _ ⟨(YI BK167.out 0).trans rfl, (YI BK167.out 1).trans rfl, (YI BK167.out 2).trans rfl, (YI BK167.out 3).trans rfl, (YI BK167.out 4).trans rfl, (YI BK167.out 5).trans rfl, (YI BK167.out 6).trans rfl, (YI BK167.out 7).trans rfl, (YI BK167.out 8).trans rfl, (YI BK167.out 9).trans rfl, (YI BK167.out 10).trans rfl, (YI BK167.out 11).trans rfl⟩ (fun hHeld => ?_)
        clear hK K
        refine normA (N := 53) ?_
        exact norm_ (by simp only [putAll, Act.put, YM, YN, YO]) (hCont (.slice Ao60 t185.length co60, v189, v192) _ ⟨hHeld, (by (with_reducible repeat (first | apply YS | apply YT | apply YU)); exact Kd.R_mono HO187.out (fun _ hk => by first | exact ⟨hk.1.2, hk.2⟩ | exact trivial | (simp [hk]; done) | simp_all)), (upR HO190), (by (with_reducible repeat (first | apply YS | apply YT | apply YU)); exact Kd.R_mono HO193.out (fun _ hk => by first | exact ⟨hk.1.2, hk.2⟩ | exact trivial | (simp [hk]; done) | simp_all)), (upK BK167), (upB HB)⟩)
       skip
       refine Kd.R_lit_step (Kd.int .u8) _ 5 ?hg (N := 53) ?hd (xs := ([(a0_9) % 256, (a0_10) % 256] : List Int)) (inner := [.int .u8 ((a0_9) % 256), .int .u8 ((a0_10) % 256)]) (ok := fun _ => True) (okp := fun _ => True) ?hr ?hp (fun _ hk => hk) trivial (Below.refl _ _) (Nat.le_refl _) (by simp) ?_; (case hd => rfl); (case hg => rfl); (case hr => first | (go_simp; done) | (go_simp; rfl)); (case hp => exact (Reps.one (show Kd.M (Kd.int .u8) _ _ _ ((a0_9) % 256) [.int .u8 ((a0_9) % 256)] from rfl) (Reps.one (show Kd.M (Kd.int .u8) _ _ _ ((a0_10) % 256) [.int .u8 ((a0_10) % 256)] from rfl) (Reps.none _ _))))
       intro v192 w59 ho60 hb hg_ hnew_
       clear hg_ hnew_
       (first | rw [← Ny191.out] at ho60 | (simp only [Int.reduceToNat] at ho60; rw [← Ny191.out] at ho60))
       have n0_ := YL (Kd.R_elder' (upR HO_5) (Kd.R_base ho60) hb)
       have n1_ := YL (Kd.R_elder' (upR HO187) (Kd.R_base ho60) hb)
       have n2_ := YL (Kd.R_lower (Kd.R_new' (Kd.R_new' ho60 (Kd.R_lt (upR HO_5))) (Kd.R_lt (upR HO187))) (YE (upB HB)))
       have n3_ := YL (YK (g := gb167) (o := .cells #[.int .i64 a0_0, .int .i64 a0_1, .bool a0_2, .int .i64 a0_3, .int .i64 a0_4, .int .i64 a0_5, .int .i64 a0_6, .int .i64 a0_7, .int .i64 a0_8, .int .i64 a0_9, .int .i64 a0_10, .int .i64 a0_11] 45 (0, 0)) (upK BK167) hb)
       have n4_ := YL (YD (upB HB) hb)
       clear HO_5; clear HO187; clear BK167; clear HB; have HO_5 := n0_; have HO187 := n1_; have HO193 := n2_; have BK167 := n3_; have HB := n4_; clear n0_ n1_ n2_ n3_ n4_; clear hb ho60
       obtain ⟨Ao62, co62, eo62⟩ := Kd.R_slice HO187.out
       (first | subst eo62 | (injection eo62 with f1_ f2_ f3_; have f4_ := f1_.symm; have f5_ := f3_.symm; clear f1_ f2_ f3_; subst f4_; subst f5_))
       refine hK.out _ _ ⟨(YI BK167.out 0).trans rfl, (YI BK167.out 1).trans rfl, (YI BK167.out 2).trans rfl, (YI BK167.out 3).trans rfl, (YI BK167.out 4).trans rfl, (YI BK167.out 5).trans rfl, (YI BK167.out 6).trans rfl, (YI BK167.out 7).trans rfl, (YI BK167.out 8).trans rfl, (YI BK167.out 9).trans rfl, (YI BK167.out 10).trans rfl, (YI BK167.out 11).trans rfl⟩ (fun hHeld => ?_)
       clear hK K
       refine normA (N := 53) ?_
       refine oneA (i := 5) (N := some 44) HT_ (fun K hK => ?_)
       refine Kd.R_append_rows_step (Kd.int .u8) (w0 := w) w.heap.size (by rfl) (.tmp 39) (.tmp 43) 26 5 (.int .u8 0) 1 rfl Try.underlying26 info5 rfl (by decide) (by omega) (.slice Ao56 y169.length co56) y169 t185 _ _ _ (fun k_ => some k_ ≠ (.slice Ao62 t185.length co62 : Value).ownBlock ∧ some k_ ≠ (v192 : Value).ownBlock) (fun _ => False) rfl rfl ?aO ?aR (fun _ _ h => h) (fun _ h => h.elim) ?aF ?aB ?aS ?aL ?_
       (case aR => repeat (first | exact (Kd.R_reads' HO187.out).2.2 | (with_reducible refine Kd.C_alloc ?_ _) | (with_reducible refine Kd.C_drewN ?_ _) | (with_reducible refine Kd.C_drew ?_)))
       (case aB => exact (upB HB))
       (case aF => exact (fun k_ hk => ⟨Kd.fresh' (Kd.R_lt (upR HO187)) k_ hk, Kd.fresh' (Kd.R_lt (upR HO193)) k_ hk⟩))
       (case aO => exact (by (with_reducible repeat (first | apply YS | apply YT | apply YU)); exact Kd.R_mono HO_5.out (fun _ hk => by first | exact ⟨hk.1.2, hk.2⟩ | exact trivial | (simp [hk]; done) | simp_all)))
       (case aS => exact (YE (upB HB)))
       (case aL => have := LMc37.out; omega)
       intro v189 w61 ho hb hg hat
       rw [← Ny188.out] at ho
       have n0_ := YL (blk_grown (g := gb167) (o := .cells #[.int .i64 a0_0, .int .i64 a0_1, .bool a0_2, .int .i64 a0_3, .int .i64 a0_4, .int .i64 a0_5, .int .i64 a0_6, .int .i64 a0_7, .int .i64 a0_8, .int .i64 a0_9, .int .i64 a0_10, .int .i64 a0_11] 45 (0, 0)) (upK BK167) hg (Kd.R_ne HO_5.out BK167.out (by decide)))
       have n1_ := YL (Kd.R_after (ok := (fun k_ => some k_ ≠ (v192 : Value).ownBlock)) (by (with_reducible repeat (first | apply YS | apply YT | apply YU)); exact Kd.R_mono HO187.out (fun _ hk => by first | exact ⟨hk.2, hk.1.2⟩ | exact trivial | (simp [hk]; done) | simp_all)) hg hat)
       have n2_ := YL (Kd.R_after (ok := (fun k_ => some k_ ≠ (.slice Ao62 t185.length co62 : Value).ownBlock)) (by (with_reducible repeat (first | apply YS | apply YT | apply YU)); exact Kd.R_mono HO193.out (fun _ hk => by first | exact ⟨hk.2, hk.1.2⟩ | exact trivial | (simp [hk]; done) | simp_all)) hg hat)
       have n3_ := YL (hb)
       have n4_ := YL (ho)
       clear BK167; clear HO187; clear HO193; clear HB; clear HO_5; have BK167 := n0_; have HO187 := n1_; have HO193 := n2_; have HB := n3_; have HO190 := n4_; clear n0_ n1_ n2_ n3_ n4_; clear ho hb hg hat
       refine hK.out _ _ ⟨(YI BK167.out 0).trans rfl, (YI BK167.out 1).trans rfl, (YI BK167.out 2).trans rfl, (YI BK167.out 3).trans rfl, (YI BK167.out 4).trans rfl, (YI BK167.out 5).trans rfl, (YI BK167.out 6).trans rfl, (YI BK167.out 7).trans rfl, (YI BK167.out 8).trans rfl, (YI BK167.out 9).trans rfl, (YI BK167.out 10).trans rfl, (YI BK167.out 11).trans rfl⟩ (fun hHeld => ?_)
       clear hK K
       refine normA (N := 44) ?_
       exact norm_ (by simp only [putAll, Act.put, YM, YN, YO]) (hCont (.slice Ao62 t185.length co62, v189, v192) _ ⟨hHeld, (by (with_reducible repeat (first | apply YS | apply YT | apply YU)); exact Kd.R_mono HO187.out (fun _ hk => by first | exact ⟨hk.2, hk.1⟩ | exact trivial | (simp [hk]; done) | simp_all)), (upR HO190), (upR HO193), (upK BK167), (upB HB)⟩)
      skip
      refine Kd.R_lit_step (Kd.int .u8) _ 5 ?hg (N := 53) ?hd (xs := ([(a0_9) % 256, (a0_10) % 256] : List Int)) (inner := [.int .u8 ((a0_9) % 256), .int .u8 ((a0_10) % 256)]) (ok := fun _ => True) (okp := fun _ => True) ?hr ?hp (fun _ hk => hk) trivial (Below.refl _ _) (Nat.le_refl _) (by simp) ?_; (case hd => rfl); (case hg => rfl); (case hr => first | (go_simp; done) | (go_simp; rfl)); (case hp => exact (Reps.one (show Kd.M (Kd.int .u8) _ _ _ ((a0_9) % 256) [.int .u8 ((a0_9) % 256)] from rfl) (Reps.one (show Kd.M (Kd.int .u8) _ _ _ ((a0_10) % 256) [.int .u8 ((a0_10) % 256)] from rfl) (Reps.none _ _))))
      intro v192 w58 ho59 hb hg_ hnew_
      clear hg_ hnew_
      (first | rw [← Ny191.out] at ho59 | (simp only [Int.reduceToNat] at ho59; rw [← Ny191.out] at ho59))
      have n0_ := YL (Kd.R_elder' (upR HO_5) (Kd.R_base ho59) hb)
      have n1_ := YL (Kd.R_lower (Kd.R_new' ho59 (Kd.R_lt (upR HO_5))) (YE (upB HB)))
      have n2_ := YL (YK (g := gb167) (o := .cells #[.int .i64 a0_0, .int .i64 a0_1, .bool a0_2, .int .i64 a0_3, .int .i64 a0_4, .int .i64 a0_5, .int .i64 a0_6, .int .i64 a0_7, .int .i64 a0_8, .int .i64 a0_9, .int .i64 a0_10, .int .i64 a0_11] 45 (0, 0)) (upK BK167) hb)
      have n3_ := YL (YD (upB HB) hb)
      clear HO_5; clear BK167; clear HB; have HO_5 := n0_; have HO193 := n1_; have BK167 := n2_; have HB := n3_; clear n0_ n1_ n2_ n3_; clear hb ho59
      refine hK.out _ _ ⟨(YI BK167.out 0).trans rfl, (YI BK167.out 1).trans rfl, (YI BK167.out 2).trans rfl, (YI BK167.out 3).trans rfl, (YI BK167.out 4).trans rfl, (YI BK167.out 5).trans rfl, (YI BK167.out 6).trans rfl, (YI BK167.out 7).trans rfl, (YI BK167.out 8).trans rfl, (YI BK167.out 9).trans rfl, (YI BK167.out 10).trans rfl, (YI BK167.out 11).trans rfl⟩ (fun hHeld => ?_)
      clear hK K
      refine normA (N := 53) ?_
      refine oneA (i := 4) (N := some 43) HT_ (fun K hK => ?_)
      refine goes_ Try.func36 (by kernel_rfl) rfl #[.int .i64 a0_8] (by rfl) rfl rfl (by (try simp only [YP, List.map_cons, List.map_nil]); first | done | rfl | (simp only [YR, YQ]; rfl)) ?_
      with_reducible refine (wire_Int.calls a0_8 t185 _ A36.out).mono ?_
      rintro e w60 ⟨v186, rfl, ho0, hb⟩
      refine ⟨_, rfl, ?_⟩
      have n0_ := YL (Kd.R_elder' (upR HO_5) (Kd.R_base ho0) hb)
      have n1_ := YL (Kd.R_elder' (upR HO193) (Kd.R_base ho0) hb)
      have n2_ := YL (Kd.R_lower (Kd.R_new' (Kd.R_new' ho0 (Kd.R_lt (upR HO_5))) (Kd.R_lt (upR HO193))) (YE (upB HB)))
      have n3_ := YL (YK (g := gb167) (o := .cells #[.int .i64 a0_0, .int .i64 a0_1, .bool a0_2, .int .i64 a0_3, .int .i64 a0_4, .int .i64 a0_5, .int .i64 a0_6, .int .i64 a0_7, .int .i64 a0_8, .int .i64 a0_9, .int .i64 a0_10, .int .i64 a0_11] 45 (0, 0)) (upK BK167) hb)
      have n4_ := YL (YD (upB HB) hb)
      clear HO_5; clear HO193; clear BK167; clear HB; have HO_5 := n0_; have HO193 := n1_; have HO187 := n2_; have BK167 := n3_; have HB := n4_; clear n0_ n1_ n2_ n3_ n4_; (try clear hb); (try clear hb2); (try clear hk); (try clear hi); (try clear ho0)
      obtain ⟨Ao62, co62, eo62⟩ := Kd.R_slice HO187.out
      (first | subst eo62 | (injection eo62 with f1_ f2_ f3_; have f4_ := f1_.symm; have f5_ := f3_.symm; clear f1_ f2_ f3_; subst f4_; subst f5_))
      refine hK.out _ _ ⟨(YI BK167.out 0).trans rfl, (YI BK167.out 1).trans rfl, (YI BK167.out 2).trans rfl, (YI BK167.out 3).trans rfl, (YI BK167.out 4).trans rfl, (YI BK167.out 5).trans rfl, (YI BK167.out 6).trans rfl, (YI BK167.out 7).trans rfl, (YI BK167.out 8).trans rfl, (YI BK167.out 9).trans rfl, (YI BK167.out 10).trans rfl, (YI BK167.out 11).trans rfl⟩ (fun hHeld => ?_)
      clear hK K
      refine normA (N := 43) ?_
      refine oneA (i := 5) (N := some 44) HT_ (fun K hK => ?_)
      refine Kd.R_append_rows_step (Kd.int .u8) (w0 := w) w.heap.size (by rfl) (.tmp 39) (.tmp 43) 26 5 (.int .u8 0) 1 rfl Try.underlying26 info5 rfl (by decide) (by omega) (.slice Ao56 y169.length co56) y169 t185 _ _ _ (fun k_ => some k_ ≠ (v192 : Value).ownBlock ∧ some k_ ≠ (.slice Ao62 t185.length co62 : Value).ownBlock) (fun _ => False) rfl rfl ?aO ?aR (fun _ _ h => h) (fun _ h => h.elim) ?aF ?aB ?aS ?aL ?_
      (case aR => repeat (first | exact (Kd.R_reads' HO187.out).2.2 | (with_reducible refine Kd.C_alloc ?_ _) | (with_reducible refine Kd.C_drewN ?_ _) | (with_reducible refine Kd.C_drew ?_)))
      (case aB => exact (upB HB))
      (case aF => exact (fun k_ hk => ⟨Kd.fresh' (Kd.R_lt (upR HO193)) k_ hk, Kd.fresh' (Kd.R_lt (upR HO187)) k_ hk⟩))
      (case aO => exact (by (with_reducible repeat (first | apply YS | apply YT | apply YU)); exact Kd.R_mono HO_5.out (fun _ hk => by first | exact ⟨hk.1.2, hk.2⟩ | exact trivial | (simp [hk]; done) | simp_all)))
      (case aS => exact (YE (upB HB)))
      (case aL => have := LMc37.out; omega)
      intro v189 w61 ho hb hg hat
      rw [← Ny188.out] at ho
      have n0_ := YL (blk_grown (g := gb167) (o := .cells #[.int .i64 a0_0, .int .i64 a0_1, .bool a0_2, .int .i64 a0_3, .int .i64 a0_4, .int .i64 a0_5, .int .i64 a0_6, .int .i64 a0_7, .int .i64 a0_8, .int .i64 a0_9, .int .i64 a0_10, .int .i64 a0_11] 45 (0, 0)) (upK BK167) hg (Kd.R_ne HO_5.out BK167.out (by decide)))
      have n1_ := YL (Kd.R_after (ok := (fun k_ => some k_ ≠ (.slice Ao62 t185.length co62 : Value).ownBlock)) (by (with_reducible repeat (first | apply YS | apply YT | apply YU)); exact Kd.R_mono HO193.out (fun _ hk => by first | exact ⟨hk.2, hk.1.2⟩ | exact trivial | (simp [hk]; done) | simp_all)) hg hat)
      have n2_ := YL (Kd.R_after (ok := (fun k_ => some k_ ≠ (v192 : Value).ownBlock)) (by (with_reducible repeat (first | apply YS | apply YT | apply YU)); exact Kd.R_mono HO187.out (fun _ hk => by first | exact ⟨hk.2, hk.1.2⟩ | exact trivial | (simp [hk]; done) | simp_all)) hg hat)
      have n3_ := YL (hb)
      have n4_ := YL (ho)
      clear BK167; clear HO193; clear HO187; clear HB; clear HO_5; have BK167 := n0_; have HO193 := n1_; have HO187 := n2_; have HB := n3_; have HO190 := n4_; clear n0_ n1_ n2_ n3_ n4_; clear ho hb hg hat
      refine hK.out _ _ ⟨(YI BK167.out 0).trans rfl, (YI BK167.out 1).trans rfl, (YI BK167.out 2).trans rfl, (YI BK167.out 3).trans rfl, (YI BK167.out 4).trans rfl, (YI BK167.out 5).trans rfl, (YI BK167.out 6).trans rfl, (YI BK167.out 7).trans rfl, (YI BK167.out 8).trans rfl, (YI BK167.out 9).trans rfl, (YI BK167.out 10).trans rfl, (YI BK167.out 11).trans rfl⟩ (fun hHeld => ?_)
      clear hK K
      refine normA (N := 44) ?_
      exact norm_ (by simp only [putAll, Act.put, YM, YN, YO]) (hCont (.slice Ao62 t185.length co62, v189, v192) _ ⟨hHeld, (by (with_reducible repeat (first | apply YS | apply YT | apply YU)); exact Kd.R_mono HO187.out (fun _ hk => by first | exact ⟨hk.2, hk.1⟩ | exact trivial | (simp [hk]; done) | simp_all)), (by (with_reducible repeat (first | apply YS | apply YT | apply YU)); exact Kd.R_mono HO190.out (fun _ hk => by first | exact ⟨hk.2, hk.1⟩ | exact trivial | (simp [hk]; done) | simp_all)), (upR HO193), (upK BK167), (upB HB)⟩)
     rintro ⟨v186, v189, v192⟩ w63 ⟨hS_, h0_, h1_, h2_, h3_, h4_⟩
     have n0_ : Aside0 (Kd.R (Kd.int .u8) 5 w63 w.heap.size (fun k_ => some k_ ≠ (v189 : Value).ownBlock ∧ some k_ ≠ (v192 : Value).ownBlock) v186 t185) := ⟨h0_⟩
     have n1_ : Aside0 (Kd.R (Kd.int .u8) 5 w63 w.heap.size (fun k_ => some k_ ≠ (v186 : Value).ownBlock ∧ some k_ ≠ (v192 : Value).ownBlock) v189 y188) := ⟨h1_⟩
     have n2_ : Aside0 (Kd.R (Kd.int .u8) 5 w63 w.heap.size (fun k_ => some k_ ≠ (v186 : Value).ownBlock ∧ some k_ ≠ (v189 : Value).ownBlock) v192 y191) := ⟨h2_⟩
     have n3_ : Aside0 (w63.heap[gb167]? = some (.cells #[.int .i64 a0_0, .int .i64 a0_1, .bool a0_2, .int .i64 a0_3, .int .i64 a0_4, .int .i64 a0_5, .int .i64 a0_6, .int .i64 a0_7, .int .i64 a0_8, .int .i64 a0_9, .int .i64 a0_10, .int .i64 a0_11] 45 (0, 0))) := ⟨h3_⟩
     have n4_ : Aside0 (Below w.heap.size w w63) := ⟨h4_⟩
     clear HO_5; clear BK167; clear HB; clear h0_ h1_ h2_ h3_ h4_; have HO187 := n0_; have HO190 := n1_; have HO193 := n2_; have BK167 := n3_; have HB := n4_; clear n0_ n1_ n2_ n3_ n4_
     have hHeld : w63.cell? ⟨gb167, 0, none⟩ = some (.int .i64 a0_0) ∧ w63.cell? ⟨gb167, 1, none⟩ = some (.int .i64 a0_1) ∧ w63.cell? ⟨gb167, 2, none⟩ = some (.bool a0_2) ∧ w63.cell? ⟨gb167, 3, none⟩ = some (.int .i64 a0_3) ∧ w63.cell? ⟨gb167, 4, none⟩ = some (.int .i64 a0_4) ∧ w63.cell? ⟨gb167, 5, none⟩ = some (.int .i64 a0_5) ∧ w63.cell? ⟨gb167, 6, none⟩ = some (.int .i64 a0_6) ∧ w63.cell? ⟨gb167, 7, none⟩ = some (.int .i64 a0_7) ∧ w63.cell? ⟨gb167, 8, none⟩ = some (.int .i64 a0_8) ∧ w63.cell? ⟨gb167, 9, none⟩ = some (.int .i64 a0_9) ∧ w63.cell? ⟨gb167, 10, none⟩ = some (.int .i64 a0_10) ∧ w63.cell? ⟨gb167, 11, none⟩ = some (.int .i64 a0_11) := hS_
     obtain ⟨Ao65, co65, eo65⟩ := Kd.R_slice HO193.out
     (first | subst eo65 | (injection eo65 with f1_ f2_ f3_; have f4_ := f1_.symm; have f5_ := f3_.symm; clear f1_ f2_ f3_; subst f4_; subst f5_))
     refine norm_ (a' := ?_) ?_ ?_
     rotate_left
     ·simp only [putAll, Act.put, YM, YN, YO]
      rfl
     refine oneA (i := 15) (N := some 54) HT_ (fun K hK => ?_)
     refine Kd.R_append_rows_step (Kd.int .u8) (w0 := w) w.heap.size (by rfl) (.tmp 44) (.tmp 53) 26 5 (.int .u8 0) 1 rfl Try.underlying26 info5 rfl (by decide) (by omega) v189 y188 y191 _ _ _ (fun k_ => some k_ ≠ (v186 : Value).ownBlock ∧ some k_ ≠ (.slice Ao65 y191.length co65 : Value).ownBlock) (fun _ => False) rfl rfl ?aO ?aR (fun _ _ h => h) (fun _ h => h.elim) ?aF ?aB ?aS ?aL ?_
     (case aR => repeat (first | exact (Kd.R_reads' HO193.out).2.2 | (with_reducible refine Kd.C_alloc ?_ _) | (with_reducible refine Kd.C_drewN ?_ _) | (with_reducible refine Kd.C_drew ?_)))
     (case aB => exact (upB HB))
     (case aF => exact (fun k_ hk => ⟨Kd.fresh' (Kd.R_lt (upR HO187)) k_ hk, Kd.fresh' (Kd.R_lt (upR HO193)) k_ hk⟩))
     (case aO => exact (upR HO190))
     (case aS => exact (YE (upB HB)))
     (case aL => have := LMc38.out; omega)
     intro v195 w64 ho hb hg hat
     rw [← Ny194.out] at ho
     have n0_ := YL (blk_grown (g := gb167) (o := .cells #[.int .i64 a0_0, .int .i64 a0_1, .bool a0_2, .int .i64 a0_3, .int .i64 a0_4, .int .i64 a0_5, .int .i64 a0_6, .int .i64 a0_7, .int .i64 a0_8, .int .i64 a0_9, .int .i64 a0_10, .int .i64 a0_11] 45 (0, 0)) (upK BK167) hg (Kd.R_ne HO190.out BK167.out (by decide)))
     have n1_ := YL (Kd.R_after (ok := (fun k_ => some k_ ≠ (.slice Ao65 y191.length co65 : Value).ownBlock)) (by (with_reducible repeat (first | apply YS | apply YT | apply YU)); exact Kd.R_mono HO187.out (fun _ hk => by first | exact ⟨hk.2, hk.1⟩ | exact trivial | (simp [hk]; done) | simp_all)) hg hat)
     have n2_ := YL (Kd.R_after (ok := (fun k_ => some k_ ≠ (v186 : Value).ownBlock)) (upR HO193) hg hat)
     have n3_ := YL (hb)
     have n4_ := YL (ho)
     clear BK167; clear HO187; clear HO193; clear HB; clear HO190; have BK167 := n0_; have HO187 := n1_; have HO193 := n2_; have HB := n3_; have HO196 := n4_; clear n0_ n1_ n2_ n3_ n4_; clear ho hb hg hat
     refine hK.out _ _ ⟨(YI BK167.out 0).trans rfl, (YI BK167.out 1).trans rfl, (YI BK167.out 2).trans rfl, (YI BK167.out 3).trans rfl, (YI BK167.out 4).trans rfl, (YI BK167.out 5).trans rfl, (YI BK167.out 6).trans rfl, (YI BK167.out 7).trans rfl, (YI BK167.out 8).trans rfl, (YI BK167.out 9).trans rfl, (YI BK167.out 10).trans rfl, (YI BK167.out 11).trans rfl⟩ (fun hHeld => ?_)
     clear hK K
     refine normA (N := 54) ?_
     refine pure_ (i := 16) (N := some 5) (v := ?_) (a' := ?_) #[true, true, true, true, true, true, true, true, true, true, true, true, true, true, true, true, true] rfl rfl (any_of HT_.out (by kernel_rfl)) (fun _ _ _ h => h) (Or.inl ⟨by rfl, ?_⟩) ?_ ?_
     rotate_left
     ·intro w'
      go_simp; with_reducible rfl
     rotate_left
     ·simp only [Act.put, YM, YN, YO, i64_w, i32_w]
      rfl
     refine done_ (done_of HT_.out (by kernel_rfl)) ?_
     have q66_0 : w64.cell? ⟨gb167, 0, none⟩ = some (.int .i64 a0_0) := (YI BK167.out 0).trans rfl
     have q66_1 : w64.cell? ⟨gb167, 1, none⟩ = some (.int .i64 a0_1) := (YI BK167.out 1).trans rfl
     have q66_2 : w64.cell? ⟨gb167, 2, none⟩ = some (.bool a0_2) := (YI BK167.out 2).trans rfl
     have q66_3 : w64.cell? ⟨gb167, 3, none⟩ = some (.int .i64 a0_3) := (YI BK167.out 3).trans rfl
     have q66_4 : w64.cell? ⟨gb167, 4, none⟩ = some (.int .i64 a0_4) := (YI BK167.out 4).trans rfl
     have q66_5 : w64.cell? ⟨gb167, 5, none⟩ = some (.int .i64 a0_5) := (YI BK167.out 5).trans rfl
     have q66_6 : w64.cell? ⟨gb167, 6, none⟩ = some (.int .i64 a0_6) := (YI BK167.out 6).trans rfl
     have q66_7 : w64.cell? ⟨gb167, 7, none⟩ = some (.int .i64 a0_7) := (YI BK167.out 7).trans rfl
     have q66_8 : w64.cell? ⟨gb167, 8, none⟩ = some (.int .i64 a0_8) := (YI BK167.out 8).trans rfl
     have q66_9 : w64.cell? ⟨gb167, 9, none⟩ = some (.int .i64 a0_9) := (YI BK167.out 9).trans rfl
     have q66_10 : w64.cell? ⟨gb167, 10, none⟩ = some (.int .i64 a0_10) := (YI BK167.out 10).trans rfl
     have q66_11 : w64.cell? ⟨gb167, 11, none⟩ = some (.int .i64 a0_11) := (YI BK167.out 11).trans rfl
     have f66_0 := YJ BK167.out 0
     have f66_1 := YJ BK167.out 1
     have f66_2 := YJ BK167.out 2
     have f66_3 := YJ BK167.out 3
     have f66_4 := YJ BK167.out 4
     have f66_5 := YJ BK167.out 5
     have f66_6 := YJ BK167.out 6
     have f66_7 := YJ BK167.out 7
     have f66_8 := YJ BK167.out 8
     have f66_9 := YJ BK167.out 9
     have f66_10 := YJ BK167.out 10
     have f66_11 := YJ BK167.out 11
     try go_wp2
     go_ret2
     exact ⟨_, by first | rfl | (simp [errW_none, errW_some] <;> rfl) | (simp [*, errW_none, errW_some] <;> rfl), by (with_reducible repeat (first | apply YS | apply YT | apply YU)); exact Kd.R_mono HO196.out (fun _ hk => trivial), by repeat (first | (with_reducible first | exact HB.out | apply YA | apply YB | apply YC | refine below_set ?_ GE167.out) | exact HB.out)⟩
    rw [if_neg c35] at H
    have c35b0 : (a0_0 == 3) = false := beq_eq_false_iff_ne.mpr c35
    have c35b1 : (a0_0 != 3) = true := bne_iff_ne.mpr c35
    by_cases c67 : a0_0 = 4
    ·rw [if_pos c67] at H
     have c67b0 : (a0_0 == 4) = true := beq_iff_eq.mpr c67
     have c67b1 : (a0_0 != 4) = false := bne_eq_false_iff_eq.mpr c67
     clear c67
     obtain ⟨y203, hy203⟩ : ∃ y_ : List Int, y_ = (([(a0_11 / 256) % 256, (a0_11) % 256] : List Int)) := ⟨_, rfl⟩
     replace H : (if y169.length + y203.length < 140737488355328 then (some ((y169 ++ y203), 0)) else (none)) = some (r1, r2) := by first | (rw [hy203]; with_reducible exact H) | (have H2_ := (Option.bind_some _ _).symm.trans H; rw [hy203]; with_reducible exact H2_) | (have H2_ := (Option.bind_some _ _).symm.trans H; with_reducible exact H2_) | with_reducible exact H | (rw [hy203]; exact H) | exact H
     have Ny203 := YL hy203; clear hy203
     by_cases c68 : y169.length + y203.length < 140737488355328
     rotate_left
     ·rw [if_neg c68] at H
      exact absurd H (by simp)
     rw [if_pos c68] at H; have LMc68 := YL c68; clear c68
     obtain ⟨y206, hy206⟩ : ∃ y_ : List Int, y_ = (y169 ++ y203) := ⟨_, rfl⟩
     replace H : (some (y206, 0)) = some (r1, r2) := by first | (rw [hy206]; with_reducible exact H) | (have H2_ := (Option.bind_some _ _).symm.trans H; rw [hy206]; with_reducible exact H2_) | (have H2_ := (Option.bind_some _ _).symm.trans H; with_reducible exact H2_) | with_reducible exact H | (rw [hy206]; exact H) | exact H
     have Ny206 := YL hy206; clear hy206
     simp only [Option.some.injEq, Prod.mk.injEq] at H
     obtain ⟨rfl, rfl⟩ := H
     have q69_0 : wc.cell? ⟨gb167, 0, none⟩ = some (.int .i64 a0_0) := (YI BK167.out 0).trans rfl
     have q69_1 : wc.cell? ⟨gb167, 1, none⟩ = some (.int .i64 a0_1) := (YI BK167.out 1).trans rfl
     have q69_2 : wc.cell? ⟨gb167, 2, none⟩ = some (.bool a0_2) := (YI BK167.out 2).trans rfl
     have q69_3 : wc.cell? ⟨gb167, 3, none⟩ = some (.int .i64 a0_3) := (YI BK167.out 3).trans rfl
     have q69_4 : wc.cell? ⟨gb167, 4, none⟩ = some (.int .i64 a0_4) := (YI BK167.out 4).trans rfl
     have q69_5 : wc.cell? ⟨gb167, 5, none⟩ = some (.int .i64 a0_5) := (YI BK167.out 5).trans rfl
     have q69_6 : wc.cell? ⟨gb167, 6, none⟩ = some (.int .i64 a0_6) := (YI BK167.out 6).trans rfl
     have q69_7 : wc.cell? ⟨gb167, 7, none⟩ = some (.int .i64 a0_7) := (YI BK167.out 7).trans rfl
     have q69_8 : wc.cell? ⟨gb167, 8, none⟩ = some (.int .i64 a0_8) := (YI BK167.out 8).trans rfl
     have q69_9 : wc.cell? ⟨gb167, 9, none⟩ = some (.int .i64 a0_9) := (YI BK167.out 9).trans rfl
     have q69_10 : wc.cell? ⟨gb167, 10, none⟩ = some (.int .i64 a0_10) := (YI BK167.out 10).trans rfl
     have q69_11 : wc.cell? ⟨gb167, 11, none⟩ = some (.int .i64 a0_11) := (YI BK167.out 11).trans rfl
     have f69_0 := YJ BK167.out 0
     have f69_1 := YJ BK167.out 1
     have f69_2 := YJ BK167.out 2
     have f69_3 := YJ BK167.out 3
     have f69_4 := YJ BK167.out 4
     have f69_5 := YJ BK167.out 5
     have f69_6 := YJ BK167.out 6
     have f69_7 := YJ BK167.out 7
     have f69_8 := YJ BK167.out 8
     have f69_9 := YJ BK167.out 9
     have f69_10 := YJ BK167.out 10
     have f69_11 := YJ BK167.out 11
     go_wp2_with (first | ((with_reducible refine gate_dst (N := 66) rfl ?_); refine Kd.R_lit (Kd.int .u8) _ 5 ?hg (N := 66) ?hd (xs := ([(a0_11 / 256) % 256, (a0_11) % 256] : List Int)) (inner := [.int .u8 ((a0_11 / 256) % 256), .int .u8 ((a0_11) % 256)]) (ok := fun _ => True) (okp := fun _ => True) ?hr ?hp (fun _ hk => hk) trivial (Below.refl _ _) (Nat.le_refl _) (by simp) ?_; (case hd => rfl); (case hg => rfl); (case hr => first | (go_simp; done) | (go_simp; rfl)); (case hp => exact (Reps.one (show Kd.M (Kd.int .u8) _ _ _ ((a0_11 / 256) % 256) [.int .u8 ((a0_11 / 256) % 256)] from rfl) (Reps.one (show Kd.M (Kd.int .u8) _ _ _ ((a0_11) % 256) [.int .u8 ((a0_11) % 256)] from rfl) (Reps.none _ _)))); intro v204 w70 ho71 hb hg_ hnew_; clear hg_ hnew_; (first | rw [← Ny203.out] at ho71 | (simp only [Int.reduceToNat] at ho71; rw [← Ny203.out] at ho71)); have n0_ := YL (Kd.R_elder' (upR HO_5) (Kd.R_base ho71) hb); have n1_ := YL (Kd.R_lower (Kd.R_new' ho71 (Kd.R_lt (upR HO_5))) (YE (upB HB))); have n2_ := YL (YK (g := gb167) (o := .cells #[.int .i64 a0_0, .int .i64 a0_1, .bool a0_2, .int .i64 a0_3, .int .i64 a0_4, .int .i64 a0_5, .int .i64 a0_6, .int .i64 a0_7, .int .i64 a0_8, .int .i64 a0_9, .int .i64 a0_10, .int .i64 a0_11] 45 (0, 0)) (upK BK167) hb); have n3_ := YL (YD (upB HB) hb); clear HO_5; clear BK167; clear HB; have HO_5 := n0_; have HO205 := n1_; have BK167 := n2_; have HB := n3_; clear n0_ n1_ n2_ n3_; clear hb ho71; obtain ⟨Ao73, co73, eo73⟩ := Kd.R_slice HO205.out; subst eo73) | ((with_reducible refine gate_builtin (b := .append) (xs := #[.tmp 58, .tmp 66]) rfl ?_); at_builtin; refine Kd.R_append_rows (Kd.int .u8) (w0 := w) w.heap.size rfl (.tmp 58) (.tmp 66) 26 5 (.int .u8 0) 1 rfl Try.underlying26 info5 rfl (by decide) (by omega) v170 y169 y203 _ _ _ (fun k_ => some k_ ≠ (.slice Ao73 y203.length co73 : Value).ownBlock) (fun _ => False) rfl rfl ?aO ?aR (fun _ _ h => h) (fun _ h => h.elim) ?aF ?aB ?aS ?aL ?_; (case aR => repeat (first | exact (Kd.R_reads' HO205.out).2.2 | (with_reducible refine Kd.C_alloc ?_ _) | (with_reducible refine Kd.C_drewN ?_ _) | (with_reducible refine Kd.C_drew ?_))); (case aB => exact (upB HB)); (case aF => exact (fun k_ hk => Kd.fresh' (Kd.R_lt (upR HO205)) k_ hk)); (case aO => exact (by (with_reducible repeat (first | apply YS | apply YT | apply YU)); exact Kd.R_mono HO_5.out (fun _ hk => by first | exact hk.2 | exact trivial | (simp [hk]; done) | simp_all))); (case aS => exact (YE (upB HB))); (case aL => have := LMc68.out; omega); intro v207 w72 ho hb hg hat; rw [← Ny206.out] at ho; have n0_ := YL (blk_grown (g := gb167) (o := .cells #[.int .i64 a0_0, .int .i64 a0_1, .bool a0_2, .int .i64 a0_3, .int .i64 a0_4, .int .i64 a0_5, .int .i64 a0_6, .int .i64 a0_7, .int .i64 a0_8, .int .i64 a0_9, .int .i64 a0_10, .int .i64 a0_11] 45 (0, 0)) (upK BK167) hg (Kd.R_ne HO_5.out BK167.out (by decide))); have n1_ := YL (Kd.R_after (ok := (fun _ => True)) (upR HO205) hg hat); have n2_ := YL (hb); have n3_ := YL (ho); clear BK167; clear HO205; clear HB; clear HO_5; have BK167 := n0_; have HO205 := n1_; have HB := n2_; have HO208 := n3_; clear n0_ n1_ n2_ n3_; clear ho hb hg hat))
     go_ret2
     exact ⟨_, by first | rfl | (simp [errW_none, errW_some] <;> rfl) | (simp [*, errW_none, errW_some] <;> rfl), by (with_reducible repeat (first | apply YS | apply YT | apply YU)); exact Kd.R_mono HO208.out (fun _ hk => trivial), by repeat (first | (with_reducible first | exact HB.out | apply YA | apply YB | apply YC | refine below_set ?_ GE167.out) | exact HB.out)⟩
    rw [if_neg c67] at H
    have c67b0 : (a0_0 == 4) = false := beq_eq_false_iff_ne.mpr c67
    have c67b1 : (a0_0 != 4) = true := bne_iff_ne.mpr c67
    simp only [Option.some.injEq, Prod.mk.injEq] at H
    obtain ⟨rfl, rfl⟩ := H
    have q74_0 : wc.cell? ⟨gb167, 0, none⟩ = some (.int .i64 a0_0) := (YI BK167.out 0).trans rfl
    have q74_1 : wc.cell? ⟨gb167, 1, none⟩ = some (.int .i64 a0_1) := (YI BK167.out 1).trans rfl
    have q74_2 : wc.cell? ⟨gb167, 2, none⟩ = some (.bool a0_2) := (YI BK167.out 2).trans rfl
    have q74_3 : wc.cell? ⟨gb167, 3, none⟩ = some (.int .i64 a0_3) := (YI BK167.out 3).trans rfl
    have q74_4 : wc.cell? ⟨gb167, 4, none⟩ = some (.int .i64 a0_4) := (YI BK167.out 4).trans rfl
    have q74_5 : wc.cell? ⟨gb167, 5, none⟩ = some (.int .i64 a0_5) := (YI BK167.out 5).trans rfl
    have q74_6 : wc.cell? ⟨gb167, 6, none⟩ = some (.int .i64 a0_6) := (YI BK167.out 6).trans rfl
    have q74_7 : wc.cell? ⟨gb167, 7, none⟩ = some (.int .i64 a0_7) := (YI BK167.out 7).trans rfl
    have q74_8 : wc.cell? ⟨gb167, 8, none⟩ = some (.int .i64 a0_8) := (YI BK167.out 8).trans rfl
    have q74_9 : wc.cell? ⟨gb167, 9, none⟩ = some (.int .i64 a0_9) := (YI BK167.out 9).trans rfl
    have q74_10 : wc.cell? ⟨gb167, 10, none⟩ = some (.int .i64 a0_10) := (YI BK167.out 10).trans rfl
    have q74_11 : wc.cell? ⟨gb167, 11, none⟩ = some (.int .i64 a0_11) := (YI BK167.out 11).trans rfl
    have f74_0 := YJ BK167.out 0
    have f74_1 := YJ BK167.out 1
    have f74_2 := YJ BK167.out 2
    have f74_3 := YJ BK167.out 3
    have f74_4 := YJ BK167.out 4
    have f74_5 := YJ BK167.out 5
    have f74_6 := YJ BK167.out 6
    have f74_7 := YJ BK167.out 7
    have f74_8 := YJ BK167.out 8
    have f74_9 := YJ BK167.out 9
    have f74_10 := YJ BK167.out 10
    have f74_11 := YJ BK167.out 11
    go_wp2
    go_ret2
    exact ⟨_, by first | rfl | (simp [errW_none, errW_some] <;> rfl) | (simp [*, errW_none, errW_some] <;> rfl), by (with_reducible repeat (first | apply YS | apply YT | apply YU)); exact HO_5.out, by repeat (first | (with_reducible first | exact HB.out | apply YA | apply YB | apply YC | refine below_set ?_ GE167.out) | exact HB.out)⟩
 rw [if_neg c3] at H
 have c3b0 : (t168 == 0) = false := beq_eq_false_iff_ne.mpr c3
 have c3b1 : (t168 != 0) = true := bne_iff_ne.mpr c3
 simp only [Option.some.injEq, Prod.mk.injEq] at H
 obtain ⟨rfl, rfl⟩ := H
 go_enter Try.func23, Try.ntmps23
 go_wp2_with (first | ((with_reducible refine gate_dst (N := 1) rfl ?_); refine box_event ?hg (N := 1) ?hd (cs := #[.int .i64 a0_0, .int .i64 a0_1, .bool a0_2, .int .i64 a0_3, .int .i64 a0_4, .int .i64 a0_5, .int .i64 a0_6, .int .i64 a0_7, .int .i64 a0_8, .int .i64 a0_9, .int .i64 a0_10, .int .i64 a0_11]) (t := 45) ?hr ?_; (case hd => rfl); (case hg => rfl); (case hr => first | (go_simp; done) | (go_simp; rfl)); intro gb167 hg w75 hbox hb; have n0_ := YL (YD (upB HB) hb); have n1_ := YL (hbox); have n2_ := YL ((by rw [hg]; exact (YE (upB HB)) : w.heap.size ≤ gb167)); have n3_ := YL ((by rw [hg]; exact (YE (upB HB)) : w.heap.size ≤ gb167)); clear HB; have HB := n0_; have BK167 := n1_; have GW167 := n2_; have GE167 := n3_; clear n0_ n1_ n2_ n3_; clear hb hbox hg; have q76_0 : w75.cell? ⟨gb167, 0, none⟩ = some (.int .i64 a0_0) := (YI BK167.out 0).trans rfl; have q76_1 : w75.cell? ⟨gb167, 1, none⟩ = some (.int .i64 a0_1) := (YI BK167.out 1).trans rfl; have q76_2 : w75.cell? ⟨gb167, 2, none⟩ = some (.bool a0_2) := (YI BK167.out 2).trans rfl; have q76_3 : w75.cell? ⟨gb167, 3, none⟩ = some (.int .i64 a0_3) := (YI BK167.out 3).trans rfl; have q76_4 : w75.cell? ⟨gb167, 4, none⟩ = some (.int .i64 a0_4) := (YI BK167.out 4).trans rfl; have q76_5 : w75.cell? ⟨gb167, 5, none⟩ = some (.int .i64 a0_5) := (YI BK167.out 5).trans rfl; have q76_6 : w75.cell? ⟨gb167, 6, none⟩ = some (.int .i64 a0_6) := (YI BK167.out 6).trans rfl; have q76_7 : w75.cell? ⟨gb167, 7, none⟩ = some (.int .i64 a0_7) := (YI BK167.out 7).trans rfl; have q76_8 : w75.cell? ⟨gb167, 8, none⟩ = some (.int .i64 a0_8) := (YI BK167.out 8).trans rfl; have q76_9 : w75.cell? ⟨gb167, 9, none⟩ = some (.int .i64 a0_9) := (YI BK167.out 9).trans rfl; have q76_10 : w75.cell? ⟨gb167, 10, none⟩ = some (.int .i64 a0_10) := (YI BK167.out 10).trans rfl; have q76_11 : w75.cell? ⟨gb167, 11, none⟩ = some (.int .i64 a0_11) := (YI BK167.out 11).trans rfl; have f76_0 := YJ BK167.out 0; have f76_1 := YJ BK167.out 1; have f76_2 := YJ BK167.out 2; have f76_3 := YJ BK167.out 3; have f76_4 := YJ BK167.out 4; have f76_5 := YJ BK167.out 5; have f76_6 := YJ BK167.out 6; have f76_7 := YJ BK167.out 7; have f76_8 := YJ BK167.out 8; have f76_9 := YJ BK167.out 9; have f76_10 := YJ BK167.out 10; have f76_11 := YJ BK167.out 11) | ((with_reducible refine gate_callee (f := 34) rfl ?_); refine goesA (some 9) Try.func34 #[.agg #[.int .i64 a0_0, .int .i64 a0_1, .bool a0_2, .int .i64 a0_3, .int .i64 a0_4, .int .i64 a0_5, .int .i64 a0_6, .int .i64 a0_7, .int .i64 a0_8, .int .i64 a0_9, .int .i64 a0_10, .int .i64 a0_11]] ?_; (with_reducible refine (object_Check.calls k a0_0 a0_1 a0_2 a0_3 a0_4 a0_5 a0_6 a0_7 a0_8 a0_9 a0_10 a0_11 t168 _ A2.out).mono ?_); rintro e w77 ⟨rfl, hb⟩; refine ⟨_, rfl, ?_⟩; have n0_ := YL (YK (g := gb167) (o := .cells #[.int .i64 a0_0, .int .i64 a0_1, .bool a0_2, .int .i64 a0_3, .int .i64 a0_4, .int .i64 a0_5, .int .i64 a0_6, .int .i64 a0_7, .int .i64 a0_8, .int .i64 a0_9, .int .i64 a0_10, .int .i64 a0_11] 45 (0, 0)) (upK BK167) hb); have n1_ := YL (YD (upB HB) hb); clear BK167; clear HB; have BK167 := n0_; have HB := n1_; clear n0_ n1_; (try clear hb); (try clear hb2); (try clear hk); (try clear hi)))
 go_ret2
 exact ⟨_, by first | rfl | (simp [errW_none, errW_some] <;> rfl) | (simp [*, errW_none, errW_some] <;> rfl), by first | exact Kd.R_nil _ _ _ _ _ | exact Kd.N_nil _ _ _ _ _ | exact Kd.V_nil _ _ _ _ _ | exact Kd.Q_nil _ _ _ _ _ | exact Kd.S_nil _ _ _ _ _, by repeat (first | (with_reducible first | exact HB.out | apply YA | apply YB | apply YC | refine below_set ?_ GE167.out) | exact HB.out)⟩
end Go.Proofs.Ytfigbjjaffkidaa.P
namespace Go.Proofs.Ytfigbjjaffkidaa.P
open Go.RowKit YtfigbjjaffkidaaW.PrintWords YtfigbjjaffkidaaW.PrintLast YtfigbjjaffkidaaW.PrintMore
open YtfigbjjaffkidaaW.PrintWords renaming below_alloc → YA, pw_below_drewN → YB, below_drew1 → YC, below_step → YD, below_size → YE, blk_drewN → YF, blk_drew → YG, blk_alloc → YH, blk_cell → YI, blk_frozen → YJ
open YtfigbjjaffkidaaW.PrintWords.Aside0 renaming mk → YK
attribute [local go_sem] max2_int min2_int max_two min_two max_three min_three max_four min_four
def object_Size.f (k : Nat) (a0_0 : Int) (a0_1 : Int) (a0_2 : Bool) (a0_3 : Int) (a0_4 : Int) (a0_5 : Int) (a0_6 : Int) (a0_7 : Int) (a0_8 : Int) (a0_9 : Int) (a0_10 : Int) (a0_11 : Int) : Option (Int) := (object_Bytes.f k a0_0 a0_1 a0_2 a0_3 a0_4 a0_5 a0_6 a0_7 a0_8 a0_9 a0_10 a0_11).bind fun bt210 => (some (bt210.1.length : Int))
theorem object_Size.mono : ∀ a0 a1 a2 a3 a4 a5 a6 a7 a8 a9 a10 a11 k, LeO (object_Size.f k a0 a1 a2 a3 a4 a5 a6 a7 a8 a9 a10 a11) (object_Size.f (k + 1) a0 a1 a2 a3 a4 a5 a6 a7 a8 a9 a10 a11) := by
 intro a0 a1 a2 a3 a4 a5 a6 a7 a8 a9 a10 a11 k
 unfold object_Size.f
 repeat' first
   | (with_reducible exact object_Bytes.mono _ _ _ _ _ _ _ _ _ _ _ _ _)
   | (with_reducible exact LeO.refl _)
   | (with_reducible exact LeO.none _)
   | (with_reducible refine LeO.ite ?_ ?_)
   | (with_reducible refine LeO.bind ?_ (fun _ => ?_))
   | exact object_Bytes.mono _ _ _ _ _ _ _ _ _ _ _ _ _
   | exact LeO.none _
   | refine LeO.ite ?_ ?_
   | refine LeO.bind ?_ (fun _ => ?_)
theorem object_Size.calls (k : Nat) (a0_0 : Int) (a0_1 : Int) (a0_2 : Bool) (a0_3 : Int) (a0_4 : Int) (a0_5 : Int) (a0_6 : Int) (a0_7 : Int) (a0_8 : Int) (a0_9 : Int) (a0_10 : Int) (a0_11 : Int) (r : Int) (w : World) (h : object_Size.f k a0_0 a0_1 a0_2 a0_3 a0_4 a0_5 a0_6 a0_7 a0_8 a0_9 a0_10 a0_11 = some r) :
  Calls Try.prog 18 #[.agg #[.int .i64 a0_0, .int .i64 a0_1, .bool a0_2, .int .i64 a0_3, .int .i64 a0_4, .int .i64 a0_5, .int .i64 a0_6, .int .i64 a0_7, .int .i64 a0_8, .int .i64 a0_9, .int .i64 a0_10, .int .i64 a0_11]] w fun e w' => e = .returned (.int .i64 r) ∧ Below w.heap.size w w' := by
 have hu45 := Try.underlying45
 have HB := YK (Below.refl w.heap.size w)
 have H : ((object_Bytes.f k a0_0 a0_1 a0_2 a0_3 a0_4 a0_5 a0_6 a0_7 a0_8 a0_9 a0_10 a0_11).bind fun bt210 => (some (bt210.1.length : Int))) = some r := h
 clear h; replace H := Option.bind_eq_some_iff.mp H
 obtain ⟨⟨t210, t213⟩, A20, H⟩ := H
 replace H : (some (t210.length : Int)) = some r := H
 have A2 := YK A20; clear A20
 obtain rfl := Option.some.inj H
 go_enter Try.func18, Try.ntmps18
 go_wp2_with (first | ((with_reducible refine gate_dst (N := 1) rfl ?_); refine box_event ?hg (N := 1) ?hd (cs := #[.int .i64 a0_0, .int .i64 a0_1, .bool a0_2, .int .i64 a0_3, .int .i64 a0_4, .int .i64 a0_5, .int .i64 a0_6, .int .i64 a0_7, .int .i64 a0_8, .int .i64 a0_9, .int .i64 a0_10, .int .i64 a0_11]) (t := 45) ?hr ?_; (case hd => rfl); (case hg => rfl); (case hr => first | (go_simp; done) | (go_simp; rfl)); intro gb209 hg w3 hbox hb; have n0_ := YK (YD (upB HB) hb); have n1_ := YK (hbox); have n2_ := YK ((by rw [hg]; exact (YE (upB HB)) : w.heap.size ≤ gb209)); have n3_ := YK ((by rw [hg]; exact (YE (upB HB)) : w.heap.size ≤ gb209)); clear HB; have HB := n0_; have BK209 := n1_; have GW209 := n2_; have GE209 := n3_; clear n0_ n1_ n2_ n3_; clear hb hbox hg; have q4_0 : w3.cell? ⟨gb209, 0, none⟩ = some (.int .i64 a0_0) := (YI BK209.out 0).trans rfl; have q4_1 : w3.cell? ⟨gb209, 1, none⟩ = some (.int .i64 a0_1) := (YI BK209.out 1).trans rfl; have q4_2 : w3.cell? ⟨gb209, 2, none⟩ = some (.bool a0_2) := (YI BK209.out 2).trans rfl; have q4_3 : w3.cell? ⟨gb209, 3, none⟩ = some (.int .i64 a0_3) := (YI BK209.out 3).trans rfl; have q4_4 : w3.cell? ⟨gb209, 4, none⟩ = some (.int .i64 a0_4) := (YI BK209.out 4).trans rfl; have q4_5 : w3.cell? ⟨gb209, 5, none⟩ = some (.int .i64 a0_5) := (YI BK209.out 5).trans rfl; have q4_6 : w3.cell? ⟨gb209, 6, none⟩ = some (.int .i64 a0_6) := (YI BK209.out 6).trans rfl; have q4_7 : w3.cell? ⟨gb209, 7, none⟩ = some (.int .i64 a0_7) := (YI BK209.out 7).trans rfl; have q4_8 : w3.cell? ⟨gb209, 8, none⟩ = some (.int .i64 a0_8) := (YI BK209.out 8).trans rfl; have q4_9 : w3.cell? ⟨gb209, 9, none⟩ = some (.int .i64 a0_9) := (YI BK209.out 9).trans rfl; have q4_10 : w3.cell? ⟨gb209, 10, none⟩ = some (.int .i64 a0_10) := (YI BK209.out 10).trans rfl; have q4_11 : w3.cell? ⟨gb209, 11, none⟩ = some (.int .i64 a0_11) := (YI BK209.out 11).trans rfl; have f4_0 := YJ BK209.out 0; have f4_1 := YJ BK209.out 1; have f4_2 := YJ BK209.out 2; have f4_3 := YJ BK209.out 3; have f4_4 := YJ BK209.out 4; have f4_5 := YJ BK209.out 5; have f4_6 := YJ BK209.out 6; have f4_7 := YJ BK209.out 7; have f4_8 := YJ BK209.out 8; have f4_9 := YJ BK209.out 9; have f4_10 := YJ BK209.out 10; have f4_11 := YJ BK209.out 11) | ((with_reducible refine gate_callee (f := 23) rfl ?_); refine goesA (some 7) Try.func23 #[.agg #[.int .i64 a0_0, .int .i64 a0_1, .bool a0_2, .int .i64 a0_3, .int .i64 a0_4, .int .i64 a0_5, .int .i64 a0_6, .int .i64 a0_7, .int .i64 a0_8, .int .i64 a0_9, .int .i64 a0_10, .int .i64 a0_11]] ?_; (with_reducible refine (object_Bytes.calls k a0_0 a0_1 a0_2 a0_3 a0_4 a0_5 a0_6 a0_7 a0_8 a0_9 a0_10 a0_11 t210 t213 _ A2.out).mono ?_); rintro e w5 ⟨v211, rfl, ho0, hb⟩; refine ⟨_, rfl, ?_⟩; have n0_ := YK (Kd.R_lower ho0 (YE (upB HB))); have n1_ := YK (blk_below (g := gb209) (o := .cells #[.int .i64 a0_0, .int .i64 a0_1, .bool a0_2, .int .i64 a0_3, .int .i64 a0_4, .int .i64 a0_5, .int .i64 a0_6, .int .i64 a0_7, .int .i64 a0_8, .int .i64 a0_9, .int .i64 a0_10, .int .i64 a0_11] 45 (0, 0)) (upK BK209) hb); have n2_ := YK (YD (upB HB) hb); clear BK209; clear HB; have HO212 := n0_; have BK209 := n1_; have HB := n2_; clear n0_ n1_ n2_; (try clear hb); (try clear hb2); (try clear hk); (try clear hi); (try clear ho0); obtain ⟨Ao6, co6, eo6⟩ := Kd.R_slice HO212.out; subst eo6))
 go_ret
 exact ⟨by first | rfl | (simp [errW_none, errW_some] <;> rfl) | (simp [*, errW_none, errW_some] <;> rfl), by repeat (first | (with_reducible first | exact HB.out | apply YA | apply YB | apply YC | refine below_set ?_ GE209.out) | exact HB.out)⟩
def batch_size.l0 : Nat → Int → List (S45) → Int → Int → Option (Int)
 | 0, _, _, _, _ => none
 | k + 1, x3, x6, x7, x8 => if x8 < x7 then (if 0 ≤ x8 then (if x8 < (x6.length : Int) then ((object_Size.f k ((rd_T45 x6 x8).f0) ((rd_T45 x6 x8).f1) ((rd_T45 x6 x8).f2.f0) ((rd_T45 x6 x8).f2.f1) ((rd_T45 x6 x8).f2.f2) ((rd_T45 x6 x8).f2.f3) ((rd_T45 x6 x8).f2.f4) ((rd_T45 x6 x8).f2.f5) ((rd_T45 x6 x8).f3.f0) ((rd_T45 x6 x8).f3.f1) ((rd_T45 x6 x8).f3.f2) ((rd_T45 x6 x8).f4)).bind fun t216 => (batch_size.l0 k (wrap64 (x3 + t216)) x6 x7 (wrap64 (x8 + 1)))) else (none)) else (none)) else (some x3)
def batch_size.f (k : Nat) (l0 : List (S45)) : Option (Int) := batch_size.l0 k 3 l0 (l0.length : Int) 0
theorem batch_size.mono_l : ∀ k, (∀ y0 y1 y2 y3, LeO (batch_size.l0 k y0 y1 y2 y3) (batch_size.l0 (k + 1) y0 y1 y2 y3))
 | 0 => fun _ _ _ _ r h => by simp [batch_size.l0] at h
 | k + 1 => by
  have ih0 := batch_size.mono_l k
  ·intro y0 y1 y2 y3
   unfold batch_size.l0
   repeat' first
   | (with_reducible exact ih0 _ _ _ _)
   | (with_reducible exact object_Size.mono _ _ _ _ _ _ _ _ _ _ _ _ _)
   | (with_reducible exact LeO.refl _)
   | (with_reducible exact LeO.none _)
   | (with_reducible refine LeO.ite ?_ ?_)
   | (with_reducible refine LeO.bind ?_ (fun _ => ?_))
   | exact ih0 _ _ _ _
   | exact object_Size.mono _ _ _ _ _ _ _ _ _ _ _ _ _
   | exact LeO.none _
   | refine LeO.ite ?_ ?_
   | refine LeO.bind ?_ (fun _ => ?_)
theorem batch_size.mono : ∀ a0 k, LeO (batch_size.f k a0) (batch_size.f (k + 1) a0) := by
 intro a0 k
 have ih0 := batch_size.mono_l k
 unfold batch_size.f
 repeat' first
   | (with_reducible exact ih0 _ _ _ _)
   | (with_reducible exact object_Size.mono _ _ _ _ _ _ _ _ _ _ _ _ _)
   | (with_reducible exact LeO.refl _)
   | (with_reducible exact LeO.none _)
   | (with_reducible refine LeO.ite ?_ ?_)
   | (with_reducible refine LeO.bind ?_ (fun _ => ?_))
   | exact ih0 _ _ _ _
   | exact object_Size.mono _ _ _ _ _ _ _ _ _ _ _ _ _
   | exact LeO.none _
   | refine LeO.ite ?_ ?_
   | refine LeO.bind ?_ (fun _ => ?_)
theorem batch_size.calls (k : Nat) (A0 : Option Addr) (c0 : Nat) (l0 : List (S45)) (r : Int) (w : World) (hr0 : Kd.C k45 w A0 l0.length l0) (hc0 : l0.length ≤ c0) (h : batch_size.f k l0 = some r) :
  Calls Try.prog 27 #[.slice A0 l0.length c0] w fun e w' => e = .returned (.int .i64 r) ∧ Below w.heap.size w w' := by
 have hu45 := Try.underlying45
 have HR0 := YK hr0; have HC0 := YK hc0; clear hr0 hc0
 have HB := YK (Below.refl w.heap.size w)
 have H : (batch_size.l0 k 3 l0 (l0.length : Int) 0) = some r := h
 clear h
 have H' := YK H
 clear H
 go_enter Try.func27, Try.ntmps27
 go_wp2
 go_loopg [3, 8] k (fun kq v3 v8 w' => ∃ (x3_1 : Int) (x8_1 : Int), v3 = .int .i64 x3_1 ∧ v8 = .int .i64 x8_1 ∧ Aside0 (batch_size.l0 kq x3_1 l0 (l0.length : Int) x8_1 = some r) ∧ Aside0 (kq ≤ k) ∧ Aside0 (Below w.heap.size w w'))
 case atStart => exact ⟨(3), (0), (by first | rfl | (simp; done) | (simp [*]; done)), (by first | rfl | (simp; done) | (simp [*]; done)), H', ⟨Nat.le_refl _⟩, ⟨by repeat (first | (with_reducible first | exact HB.out | apply YA | apply YB | apply YC) | exact HB.out)⟩⟩
 case round =>
  clear H'
  obtain ⟨x3_1, x8_1, rfl, rfl, HA, HK1, HB⟩ := hrel
  cases gk with
  | zero => exact absurd HA.out (by simp [batch_size.l0])
  | succ k1 =>
   have H := HA.out
   clear HA
   simp only [batch_size.l0] at H
   by_cases c2 : x8_1 < (l0.length : Int)
   ·rw [if_pos c2] at H
    have c2b0 : decide (x8_1 < (l0.length : Int)) = true := decide_eq_true c2
    clear c2
    by_cases c3 : 0 ≤ x8_1
    rotate_left
    ·rw [if_neg c3] at H
     exact absurd H (by simp)
    rw [if_pos c3] at H; have c3b0 : decide (0 ≤ x8_1) = true := decide_eq_true c3; clear c3
    by_cases c4 : x8_1 < (l0.length : Int)
    rotate_left
    ·rw [if_neg c4] at H
     exact absurd H (by simp)
    rw [if_pos c4] at H
    have c4b0 : decide (x8_1 < (l0.length : Int)) = true := decide_eq_true c4
    clear c4; replace H := Option.bind_eq_some_iff.mp H; obtain ⟨t216, A50, H⟩ := H
    replace H : (batch_size.l0 k1 (wrap64 (x3_1 + t216)) l0 (l0.length : Int) (wrap64 (x8_1 + 1))) = some r := H
    have A5 := YK A50; clear A50
    have H' := YK H
    clear H
    have p214 : 0 ≤ (x8_1 : Int) := of_decide_eq_true (by first | (with_reducible assumption) | assumption)
    have q214 : x8_1 < (l0.length : Int) := of_decide_eq_true (by first | (with_reducible assumption) | assumption)
    obtain ⟨ad214, e214, hx214_0, hx214_1, hx214_2, hx214_3, hx214_4, hx214_5, hx214_6, hx214_7, hx214_8, hx214_9, hx214_10, hx214_11⟩ := at_T45 HR0.out x8_1 p214 q214
    cases e214
    replace hx214_0 := (HB.out.cell (World.block_lt_of_cell? w _ hx214_0)).trans hx214_0
    replace hx214_1 := (HB.out.cell (World.block_lt_of_cell? w _ hx214_1)).trans hx214_1
    replace hx214_2 := (HB.out.cell (World.block_lt_of_cell? w _ hx214_2)).trans hx214_2
    replace hx214_3 := (HB.out.cell (World.block_lt_of_cell? w _ hx214_3)).trans hx214_3
    replace hx214_4 := (HB.out.cell (World.block_lt_of_cell? w _ hx214_4)).trans hx214_4
    replace hx214_5 := (HB.out.cell (World.block_lt_of_cell? w _ hx214_5)).trans hx214_5
    replace hx214_6 := (HB.out.cell (World.block_lt_of_cell? w _ hx214_6)).trans hx214_6
    replace hx214_7 := (HB.out.cell (World.block_lt_of_cell? w _ hx214_7)).trans hx214_7
    replace hx214_8 := (HB.out.cell (World.block_lt_of_cell? w _ hx214_8)).trans hx214_8
    replace hx214_9 := (HB.out.cell (World.block_lt_of_cell? w _ hx214_9)).trans hx214_9
    replace hx214_10 := (HB.out.cell (World.block_lt_of_cell? w _ hx214_10)).trans hx214_10
    replace hx214_11 := (HB.out.cell (World.block_lt_of_cell? w _ hx214_11)).trans hx214_11
    replace p214 := eq_true p214
    replace q214 := eq_true q214
    go_wp2_with (first | ((with_reducible refine gate_dst (N := 5) rfl ?_); refine box_event ?hg (N := 5) ?hd (cs := #[.int .i64 0, .int .i64 0, .bool false, .int .i64 0, .int .i64 0, .int .i64 0, .int .i64 0, .int .i64 0, .int .i64 0, .int .i64 0, .int .i64 0, .int .i64 0]) (t := 45) ?hr ?_; (case hd => rfl); (case hg => rfl); (case hr => first | (go_simp; done) | (go_simp; rfl)); intro gb215 hg w6 hbox hb; have n0_ := YK (YD (upB HB) hb); have n1_ := YK (hbox); have n2_ := YK ((by rw [hg]; exact (YE (upB HB)) : w.heap.size ≤ gb215)); have n3_ := YK ((by rw [hg]; exact (YE (upB HB)) : w.heap.size ≤ gb215)); clear HB; have HB := n0_; have BK215 := n1_; have GW215 := n2_; have GE215 := n3_; clear n0_ n1_ n2_ n3_; clear hb hbox hg; have q7_0 : w6.cell? ⟨gb215, 0, none⟩ = some (.int .i64 0) := (YI BK215.out 0).trans rfl; have q7_1 : w6.cell? ⟨gb215, 1, none⟩ = some (.int .i64 0) := (YI BK215.out 1).trans rfl; have q7_2 : w6.cell? ⟨gb215, 2, none⟩ = some (.bool false) := (YI BK215.out 2).trans rfl; have q7_3 : w6.cell? ⟨gb215, 3, none⟩ = some (.int .i64 0) := (YI BK215.out 3).trans rfl; have q7_4 : w6.cell? ⟨gb215, 4, none⟩ = some (.int .i64 0) := (YI BK215.out 4).trans rfl; have q7_5 : w6.cell? ⟨gb215, 5, none⟩ = some (.int .i64 0) := (YI BK215.out 5).trans rfl; have q7_6 : w6.cell? ⟨gb215, 6, none⟩ = some (.int .i64 0) := (YI BK215.out 6).trans rfl; have q7_7 : w6.cell? ⟨gb215, 7, none⟩ = some (.int .i64 0) := (YI BK215.out 7).trans rfl; have q7_8 : w6.cell? ⟨gb215, 8, none⟩ = some (.int .i64 0) := (YI BK215.out 8).trans rfl; have q7_9 : w6.cell? ⟨gb215, 9, none⟩ = some (.int .i64 0) := (YI BK215.out 9).trans rfl; have q7_10 : w6.cell? ⟨gb215, 10, none⟩ = some (.int .i64 0) := (YI BK215.out 10).trans rfl; have q7_11 : w6.cell? ⟨gb215, 11, none⟩ = some (.int .i64 0) := (YI BK215.out 11).trans rfl; have f7_0 := YJ BK215.out 0; have f7_1 := YJ BK215.out 1; have f7_2 := YJ BK215.out 2; have f7_3 := YJ BK215.out 3; have f7_4 := YJ BK215.out 4; have f7_5 := YJ BK215.out 5; have f7_6 := YJ BK215.out 6; have f7_7 := YJ BK215.out 7; have f7_8 := YJ BK215.out 8; have f7_9 := YJ BK215.out 9; have f7_10 := YJ BK215.out 10; have f7_11 := YJ BK215.out 11) | ((with_reducible refine gate_callee (f := 18) rfl ?_); refine goesA (some 14) Try.func18 #[.agg #[.int .i64 ((rd_T45 l0 x8_1).f0), .int .i64 ((rd_T45 l0 x8_1).f1), .bool ((rd_T45 l0 x8_1).f2.f0), .int .i64 ((rd_T45 l0 x8_1).f2.f1), .int .i64 ((rd_T45 l0 x8_1).f2.f2), .int .i64 ((rd_T45 l0 x8_1).f2.f3), .int .i64 ((rd_T45 l0 x8_1).f2.f4), .int .i64 ((rd_T45 l0 x8_1).f2.f5), .int .i64 ((rd_T45 l0 x8_1).f3.f0), .int .i64 ((rd_T45 l0 x8_1).f3.f1), .int .i64 ((rd_T45 l0 x8_1).f3.f2), .int .i64 ((rd_T45 l0 x8_1).f4)]] ?_; (with_reducible refine (object_Size.calls k1 ((rd_T45 l0 x8_1).f0) ((rd_T45 l0 x8_1).f1) ((rd_T45 l0 x8_1).f2.f0) ((rd_T45 l0 x8_1).f2.f1) ((rd_T45 l0 x8_1).f2.f2) ((rd_T45 l0 x8_1).f2.f3) ((rd_T45 l0 x8_1).f2.f4) ((rd_T45 l0 x8_1).f2.f5) ((rd_T45 l0 x8_1).f3.f0) ((rd_T45 l0 x8_1).f3.f1) ((rd_T45 l0 x8_1).f3.f2) ((rd_T45 l0 x8_1).f4) t216 _ A5.out).mono ?_); rintro e w8 ⟨rfl, hb⟩; refine ⟨_, rfl, ?_⟩; have n0_ := YK (blk_below (g := gb215) (o := .cells #[.int .i64 ((rd_T45 l0 x8_1).f0), .int .i64 ((rd_T45 l0 x8_1).f1), .bool ((rd_T45 l0 x8_1).f2.f0), .int .i64 ((rd_T45 l0 x8_1).f2.f1), .int .i64 ((rd_T45 l0 x8_1).f2.f2), .int .i64 ((rd_T45 l0 x8_1).f2.f3), .int .i64 ((rd_T45 l0 x8_1).f2.f4), .int .i64 ((rd_T45 l0 x8_1).f2.f5), .int .i64 ((rd_T45 l0 x8_1).f3.f0), .int .i64 ((rd_T45 l0 x8_1).f3.f1), .int .i64 ((rd_T45 l0 x8_1).f3.f2), .int .i64 ((rd_T45 l0 x8_1).f4)] 45 (0, 0)) (by (with_reducible repeat (first | refine YF ?_ _ | refine YG ?_ | refine YH ?_ _)); refine blk_put (cs := #[.int .i64 ((rd_T45 l0 x8_1).f0), .int .i64 ((rd_T45 l0 x8_1).f1), .bool ((rd_T45 l0 x8_1).f2.f0), .int .i64 ((rd_T45 l0 x8_1).f2.f1), .int .i64 ((rd_T45 l0 x8_1).f2.f2), .int .i64 ((rd_T45 l0 x8_1).f2.f3), .int .i64 ((rd_T45 l0 x8_1).f2.f4), .int .i64 ((rd_T45 l0 x8_1).f2.f5), .int .i64 ((rd_T45 l0 x8_1).f3.f0), .int .i64 ((rd_T45 l0 x8_1).f3.f1), .int .i64 ((rd_T45 l0 x8_1).f3.f2), .int .i64 0]) ?_ 11 _ rfl; (with_reducible repeat (first | refine YF ?_ _ | refine YG ?_ | refine YH ?_ _)); refine blk_put (cs := #[.int .i64 ((rd_T45 l0 x8_1).f0), .int .i64 ((rd_T45 l0 x8_1).f1), .bool ((rd_T45 l0 x8_1).f2.f0), .int .i64 ((rd_T45 l0 x8_1).f2.f1), .int .i64 ((rd_T45 l0 x8_1).f2.f2), .int .i64 ((rd_T45 l0 x8_1).f2.f3), .int .i64 ((rd_T45 l0 x8_1).f2.f4), .int .i64 ((rd_T45 l0 x8_1).f2.f5), .int .i64 ((rd_T45 l0 x8_1).f3.f0), .int .i64 ((rd_T45 l0 x8_1).f3.f1), .int .i64 0, .int .i64 0]) ?_ 10 _ rfl; (with_reducible repeat (first | refine YF ?_ _ | refine YG ?_ | refine YH ?_ _)); refine blk_put (cs := #[.int .i64 ((rd_T45 l0 x8_1).f0), .int .i64 ((rd_T45 l0 x8_1).f1), .bool ((rd_T45 l0 x8_1).f2.f0), .int .i64 ((rd_T45 l0 x8_1).f2.f1), .int .i64 ((rd_T45 l0 x8_1).f2.f2), .int .i64 ((rd_T45 l0 x8_1).f2.f3), .int .i64 ((rd_T45 l0 x8_1).f2.f4), .int .i64 ((rd_T45 l0 x8_1).f2.f5), .int .i64 ((rd_T45 l0 x8_1).f3.f0), .int .i64 0, .int .i64 0, .int .i64 0]) ?_ 9 _ rfl; (with_reducible repeat (first | refine YF ?_ _ | refine YG ?_ | refine YH ?_ _)); refine blk_put (cs := #[.int .i64 ((rd_T45 l0 x8_1).f0), .int .i64 ((rd_T45 l0 x8_1).f1), .bool ((rd_T45 l0 x8_1).f2.f0), .int .i64 ((rd_T45 l0 x8_1).f2.f1), .int .i64 ((rd_T45 l0 x8_1).f2.f2), .int .i64 ((rd_T45 l0 x8_1).f2.f3), .int .i64 ((rd_T45 l0 x8_1).f2.f4), .int .i64 ((rd_T45 l0 x8_1).f2.f5), .int .i64 0, .int .i64 0, .int .i64 0, .int .i64 0]) ?_ 8 _ rfl; (with_reducible repeat (first | refine YF ?_ _ | refine YG ?_ | refine YH ?_ _)); refine blk_put (cs := #[.int .i64 ((rd_T45 l0 x8_1).f0), .int .i64 ((rd_T45 l0 x8_1).f1), .bool ((rd_T45 l0 x8_1).f2.f0), .int .i64 ((rd_T45 l0 x8_1).f2.f1), .int .i64 ((rd_T45 l0 x8_1).f2.f2), .int .i64 ((rd_T45 l0 x8_1).f2.f3), .int .i64 ((rd_T45 l0 x8_1).f2.f4), .int .i64 0, .int .i64 0, .int .i64 0, .int .i64 0, .int .i64 0]) ?_ 7 _ rfl; (with_reducible repeat (first | refine YF ?_ _ | refine YG ?_ | refine YH ?_ _)); refine blk_put (cs := #[.int .i64 ((rd_T45 l0 x8_1).f0), .int .i64 ((rd_T45 l0 x8_1).f1), .bool ((rd_T45 l0 x8_1).f2.f0), .int .i64 ((rd_T45 l0 x8_1).f2.f1), .int .i64 ((rd_T45 l0 x8_1).f2.f2), .int .i64 ((rd_T45 l0 x8_1).f2.f3), .int .i64 0, .int .i64 0, .int .i64 0, .int .i64 0, .int .i64 0, .int .i64 0]) ?_ 6 _ rfl; (with_reducible repeat (first | refine YF ?_ _ | refine YG ?_ | refine YH ?_ _)); refine blk_put (cs := #[.int .i64 ((rd_T45 l0 x8_1).f0), .int .i64 ((rd_T45 l0 x8_1).f1), .bool ((rd_T45 l0 x8_1).f2.f0), .int .i64 ((rd_T45 l0 x8_1).f2.f1), .int .i64 ((rd_T45 l0 x8_1).f2.f2), .int .i64 0, .int .i64 0, .int .i64 0, .int .i64 0, .int .i64 0, .int .i64 0, .int .i64 0]) ?_ 5 _ rfl; (with_reducible repeat (first | refine YF ?_ _ | refine YG ?_ | refine YH ?_ _)); refine blk_put (cs := #[.int .i64 ((rd_T45 l0 x8_1).f0), .int .i64 ((rd_T45 l0 x8_1).f1), .bool ((rd_T45 l0 x8_1).f2.f0), .int .i64 ((rd_T45 l0 x8_1).f2.f1), .int .i64 0, .int .i64 0, .int .i64 0, .int .i64 0, .int .i64 0, .int .i64 0, .int .i64 0, .int .i64 0]) ?_ 4 _ rfl; (with_reducible repeat (first | refine YF ?_ _ | refine YG ?_ | refine YH ?_ _)); refine blk_put (cs := #[.int .i64 ((rd_T45 l0 x8_1).f0), .int .i64 ((rd_T45 l0 x8_1).f1), .bool ((rd_T45 l0 x8_1).f2.f0), .int .i64 0, .int .i64 0, .int .i64 0, .int .i64 0, .int .i64 0, .int .i64 0, .int .i64 0, .int .i64 0, .int .i64 0]) ?_ 3 _ rfl; (with_reducible repeat (first | refine YF ?_ _ | refine YG ?_ | refine YH ?_ _)); refine blk_put (cs := #[.int .i64 ((rd_T45 l0 x8_1).f0), .int .i64 ((rd_T45 l0 x8_1).f1), .bool false, .int .i64 0, .int .i64 0, .int .i64 0, .int .i64 0, .int .i64 0, .int .i64 0, .int .i64 0, .int .i64 0, .int .i64 0]) ?_ 2 _ rfl; (with_reducible repeat (first | refine YF ?_ _ | refine YG ?_ | refine YH ?_ _)); refine blk_put (cs := #[.int .i64 ((rd_T45 l0 x8_1).f0), .int .i64 0, .bool false, .int .i64 0, .int .i64 0, .int .i64 0, .int .i64 0, .int .i64 0, .int .i64 0, .int .i64 0, .int .i64 0, .int .i64 0]) ?_ 1 _ rfl; (with_reducible repeat (first | refine YF ?_ _ | refine YG ?_ | refine YH ?_ _)); refine blk_put (cs := #[.int .i64 0, .int .i64 0, .bool false, .int .i64 0, .int .i64 0, .int .i64 0, .int .i64 0, .int .i64 0, .int .i64 0, .int .i64 0, .int .i64 0, .int .i64 0]) ?_ 0 _ rfl; (with_reducible repeat (first | refine YF ?_ _ | refine YG ?_ | refine YH ?_ _)); exact BK215.out) hb); have n1_ := YK (YD (upB HB) hb); clear BK215; clear HB; have BK215 := n0_; have HB := n1_; clear n0_ n1_; (try clear hb); (try clear hb2); (try clear hk); (try clear hi)))
    go_roundg k1
    case measure => have := HK1.out; omega
    case rel => exact ⟨(wrap64 (x3_1 + t216)), (wrap64 (x8_1 + 1)), (by first | rfl | (simp; done) | (simp [*]; done)), (by first | rfl | (simp; done) | (simp [*]; done)), H', ⟨by have := HK1.out; omega⟩, ⟨by repeat (first | (with_reducible first | exact HB.out | apply YA | apply YB | apply YC | refine below_set ?_ GE215.out) | exact HB.out)⟩⟩
   rw [if_neg c2] at H
   have c2b0 : decide (x8_1 < (l0.length : Int)) = false := decide_eq_false c2
   clear c2
   obtain rfl := Option.some.inj H
   go_wp2
   go_ret
   exact ⟨by first | rfl | (simp [errW_none, errW_some] <;> rfl) | (simp [*, errW_none, errW_some] <;> rfl), by repeat (first | (with_reducible first | exact HB.out | apply YA | apply YB | apply YC) | exact HB.out)⟩
end Go.Proofs.Ytfigbjjaffkidaa.P
namespace Go.Proofs.Ytfigbjjaffkidaa.P
open Go.RowKit YtfigbjjaffkidaaW.PrintWords YtfigbjjaffkidaaW.PrintLast YtfigbjjaffkidaaW.PrintMore
open YtfigbjjaffkidaaW.PrintWords renaming below_alloc → YA, pw_below_drewN → YB, below_drew1 → YC, below_step → YD, below_size → YE, blk_drewN → YF, blk_drew → YG, blk_alloc → YH, blk_cell → YI, blk_frozen → YJ, blk_below → YK
open YtfigbjjaffkidaaW.PrintWords.Aside0 renaming mk → YL
attribute [local go_sem] max2_int min2_int max_two min_two max_three min_three max_four min_four
def batch_Check.f (k : Nat) (a0_0 : Int) (l0_1 : List (S45)) : Option (Int) := if a0_0 < 0 then (some 1) else (if a0_0 > 65535 then (some 1) else (if (l0_1.length : Int) = 0 then (some 1) else (if (l0_1.length : Int) > 32 then (some 1) else ((api_Object_25.f k l0_1).bind fun t218 => (if t218 = true then (some 1) else ((batch_size.f k l0_1).bind fun t219 => (if t219 > 512 then (some 1) else (some 0))))))))
theorem batch_Check.mono : ∀ a0 a1 k, LeO (batch_Check.f k a0 a1) (batch_Check.f (k + 1) a0 a1) := by
 intro a0 a1 k
 unfold batch_Check.f
 repeat' first
   | (with_reducible exact api_Object_25.mono _ _)
   | (with_reducible exact batch_size.mono _ _)
   | (with_reducible exact LeO.refl _)
   | (with_reducible exact LeO.none _)
   | (with_reducible refine LeO.ite ?_ ?_)
   | (with_reducible refine LeO.bind ?_ (fun _ => ?_))
   | exact api_Object_25.mono _ _
   | exact batch_size.mono _ _
   | exact LeO.none _
   | refine LeO.ite ?_ ?_
   | refine LeO.bind ?_ (fun _ => ?_)
theorem batch_Check.calls (k : Nat) (a0_0 : Int) (A0_1 : Option Addr) (c0_1 : Nat) (l0_1 : List (S45)) (r : Int) (w : World) (hr0_1 : Kd.C k45 w A0_1 l0_1.length l0_1) (hc0_1 : l0_1.length ≤ c0_1) (h : batch_Check.f k a0_0 l0_1 = some r) :
  Calls Try.prog 12 #[.agg #[.int .i64 a0_0, .slice A0_1 l0_1.length c0_1]] w fun e w' => e = .returned (.int .i64 r) ∧ Below w.heap.size w w' := by
 have hu24 := Try.underlying24
 have HR0_1 := YL hr0_1; have HC0_1 := YL hc0_1; clear hr0_1 hc0_1
 have HB := YL (Below.refl w.heap.size w)
 have H : (if a0_0 < 0 then (some 1) else (if a0_0 > 65535 then (some 1) else (if (l0_1.length : Int) = 0 then (some 1) else (if (l0_1.length : Int) > 32 then (some 1) else ((api_Object_25.f k l0_1).bind fun t218 => (if t218 = true then (some 1) else ((batch_size.f k l0_1).bind fun t219 => (if t219 > 512 then (some 1) else (some 0))))))))) = some r := h
 clear h
 by_cases c2 : a0_0 < 0
 ·rw [if_pos c2] at H
  have c2b0 : decide (a0_0 < 0) = true := decide_eq_true c2; clear c2
  obtain rfl := Option.some.inj H
  go_enter Try.func12, Try.ntmps12
  go_wp2_with (first | ((with_reducible refine gate_dst (N := 1) rfl ?_); (try (refine gate_guard (by rfl) ?_; dsimp only)); refine box_event ?hg (N := 1) ?hd (cs := #[.int .i64 a0_0, .slice A0_1 l0_1.length c0_1]) (t := 24) ?hr ?_; (case hd => rfl); (case hg => rfl); (case hr => first | (go_simp; done) | (go_simp; rfl)); intro gb217 hg w3 hbox hb; have n0_ := YL (YD (upB HB) hb); have n1_ := YL (hbox); have n2_ := YL ((by rw [hg]; exact (YE (upB HB)) : w.heap.size ≤ gb217)); have n3_ := YL ((by rw [hg]; exact (YE (upB HB)) : w.heap.size ≤ gb217)); clear HB; have HB := n0_; have BK217 := n1_; have GW217 := n2_; have GE217 := n3_; clear n0_ n1_ n2_ n3_; clear hb hbox hg; have q4_0 : w3.cell? ⟨gb217, 0, none⟩ = some (.int .i64 a0_0) := (YI BK217.out 0).trans rfl; have q4_1 : w3.cell? ⟨gb217, 1, none⟩ = some (.slice A0_1 l0_1.length c0_1) := (YI BK217.out 1).trans rfl; have f4_0 := YJ BK217.out 0; have f4_1 := YJ BK217.out 1))
  go_ret
  exact ⟨by first | rfl | (simp [errW_none, errW_some] <;> rfl) | (simp [*, errW_none, errW_some] <;> rfl), by repeat (first | (with_reducible first | exact HB.out | apply YA | apply YB | apply YC | refine below_set ?_ GE217.out) | exact HB.out)⟩
 rw [if_neg c2] at H; have c2b0 : decide (a0_0 < 0) = false := decide_eq_false c2; clear c2
 by_cases c5 : a0_0 > 65535
 ·rw [if_pos c5] at H
  have c5b0 : decide (65535 < a0_0) = true := decide_eq_true c5; clear c5
  obtain rfl := Option.some.inj H
  go_enter Try.func12, Try.ntmps12
  go_wp2_with (first | ((with_reducible refine gate_dst (N := 1) rfl ?_); (try (refine gate_guard (by rfl) ?_; dsimp only)); refine box_event ?hg (N := 1) ?hd (cs := #[.int .i64 a0_0, .slice A0_1 l0_1.length c0_1]) (t := 24) ?hr ?_; (case hd => rfl); (case hg => rfl); (case hr => first | (go_simp; done) | (go_simp; rfl)); intro gb217 hg w6 hbox hb; have n0_ := YL (YD (upB HB) hb); have n1_ := YL (hbox); have n2_ := YL ((by rw [hg]; exact (YE (upB HB)) : w.heap.size ≤ gb217)); have n3_ := YL ((by rw [hg]; exact (YE (upB HB)) : w.heap.size ≤ gb217)); clear HB; have HB := n0_; have BK217 := n1_; have GW217 := n2_; have GE217 := n3_; clear n0_ n1_ n2_ n3_; clear hb hbox hg; have q7_0 : w6.cell? ⟨gb217, 0, none⟩ = some (.int .i64 a0_0) := (YI BK217.out 0).trans rfl; have q7_1 : w6.cell? ⟨gb217, 1, none⟩ = some (.slice A0_1 l0_1.length c0_1) := (YI BK217.out 1).trans rfl; have f7_0 := YJ BK217.out 0; have f7_1 := YJ BK217.out 1))
  go_ret
  exact ⟨by first | rfl | (simp [errW_none, errW_some] <;> rfl) | (simp [*, errW_none, errW_some] <;> rfl), by repeat (first | (with_reducible first | exact HB.out | apply YA | apply YB | apply YC | refine below_set ?_ GE217.out) | exact HB.out)⟩
 rw [if_neg c5] at H; have c5b0 : decide (65535 < a0_0) = false := decide_eq_false c5; clear c5
 by_cases c8 : (l0_1.length : Int) = 0
 ·rw [if_pos c8] at H
  have c8b0 : ((l0_1.length : Int) == 0) = true := beq_iff_eq.mpr c8
  have c8b1 : ((l0_1.length : Int) != 0) = false := bne_eq_false_iff_eq.mpr c8
  clear c8
  obtain rfl := Option.some.inj H
  go_enter Try.func12, Try.ntmps12
  go_wp2_with (first | ((with_reducible refine gate_dst (N := 1) rfl ?_); (try (refine gate_guard (by rfl) ?_; dsimp only)); refine box_event ?hg (N := 1) ?hd (cs := #[.int .i64 a0_0, .slice A0_1 l0_1.length c0_1]) (t := 24) ?hr ?_; (case hd => rfl); (case hg => rfl); (case hr => first | (go_simp; done) | (go_simp; rfl)); intro gb217 hg w9 hbox hb; have n0_ := YL (YD (upB HB) hb); have n1_ := YL (hbox); have n2_ := YL ((by rw [hg]; exact (YE (upB HB)) : w.heap.size ≤ gb217)); have n3_ := YL ((by rw [hg]; exact (YE (upB HB)) : w.heap.size ≤ gb217)); clear HB; have HB := n0_; have BK217 := n1_; have GW217 := n2_; have GE217 := n3_; clear n0_ n1_ n2_ n3_; clear hb hbox hg; have q10_0 : w9.cell? ⟨gb217, 0, none⟩ = some (.int .i64 a0_0) := (YI BK217.out 0).trans rfl; have q10_1 : w9.cell? ⟨gb217, 1, none⟩ = some (.slice A0_1 l0_1.length c0_1) := (YI BK217.out 1).trans rfl; have f10_0 := YJ BK217.out 0; have f10_1 := YJ BK217.out 1))
  go_ret
  exact ⟨by first | rfl | (simp [errW_none, errW_some] <;> rfl) | (simp [*, errW_none, errW_some] <;> rfl), by repeat (first | (with_reducible first | exact HB.out | apply YA | apply YB | apply YC | refine below_set ?_ GE217.out) | exact HB.out)⟩
 rw [if_neg c8] at H
 have c8b0 : ((l0_1.length : Int) == 0) = false := beq_eq_false_iff_ne.mpr c8
 have c8b1 : ((l0_1.length : Int) != 0) = true := bne_iff_ne.mpr c8
 have c8b2 : ¬ (l0_1 = []) := fun h_ => c8 (by rw [h_]; rfl)
 by_cases c11 : (l0_1.length : Int) > 32
 ·rw [if_pos c11] at H
  have c11b0 : decide (32 < (l0_1.length : Int)) = true := decide_eq_true c11
  have c11b1 : decide (32 < l0_1.length) = true := decide_eq_true (by omega)
  clear c11
  obtain rfl := Option.some.inj H
  go_enter Try.func12, Try.ntmps12
  go_wp2_with (first | ((with_reducible refine gate_dst (N := 1) rfl ?_); (try (refine gate_guard (by rfl) ?_; dsimp only)); refine box_event ?hg (N := 1) ?hd (cs := #[.int .i64 a0_0, .slice A0_1 l0_1.length c0_1]) (t := 24) ?hr ?_; (case hd => rfl); (case hg => rfl); (case hr => first | (go_simp; done) | (go_simp; rfl)); intro gb217 hg w12 hbox hb; have n0_ := YL (YD (upB HB) hb); have n1_ := YL (hbox); have n2_ := YL ((by rw [hg]; exact (YE (upB HB)) : w.heap.size ≤ gb217)); have n3_ := YL ((by rw [hg]; exact (YE (upB HB)) : w.heap.size ≤ gb217)); clear HB; have HB := n0_; have BK217 := n1_; have GW217 := n2_; have GE217 := n3_; clear n0_ n1_ n2_ n3_; clear hb hbox hg; have q13_0 : w12.cell? ⟨gb217, 0, none⟩ = some (.int .i64 a0_0) := (YI BK217.out 0).trans rfl; have q13_1 : w12.cell? ⟨gb217, 1, none⟩ = some (.slice A0_1 l0_1.length c0_1) := (YI BK217.out 1).trans rfl; have f13_0 := YJ BK217.out 0; have f13_1 := YJ BK217.out 1))
  go_ret
  exact ⟨by first | rfl | (simp [errW_none, errW_some] <;> rfl) | (simp [*, errW_none, errW_some] <;> rfl), by repeat (first | (with_reducible first | exact HB.out | apply YA | apply YB | apply YC | refine below_set ?_ GE217.out) | exact HB.out)⟩
 rw [if_neg c11] at H
 have c11b0 : decide (32 < (l0_1.length : Int)) = false := decide_eq_false c11
 have c11b1 : decide (32 < l0_1.length) = false := decide_eq_false (by omega)
 clear c11; replace H := Option.bind_eq_some_iff.mp H; obtain ⟨t218, A140, H⟩ := H
 replace H : (if t218 = true then (some 1) else ((batch_size.f k l0_1).bind fun t219 => (if t219 > 512 then (some 1) else (some 0)))) = some r := H
 have A14 := YL A140; clear A140
 by_cases c15 : t218 = true
 ·subst c15
  have H1 : (some 1) = some r := by rw [if_pos rfl] at H; exact H
  clear H
  have H := H1
  clear H1
  obtain rfl := Option.some.inj H
  go_enter Try.func12, Try.ntmps12
  go_wp2_with (first | ((with_reducible refine gate_dst (N := 1) rfl ?_); (try (refine gate_guard (by rfl) ?_; dsimp only)); refine box_event ?hg (N := 1) ?hd (cs := #[.int .i64 a0_0, .slice A0_1 l0_1.length c0_1]) (t := 24) ?hr ?_; (case hd => rfl); (case hg => rfl); (case hr => first | (go_simp; done) | (go_simp; rfl)); intro gb217 hg w16 hbox hb; have n0_ := YL (YD (upB HB) hb); have n1_ := YL (hbox); have n2_ := YL ((by rw [hg]; exact (YE (upB HB)) : w.heap.size ≤ gb217)); have n3_ := YL ((by rw [hg]; exact (YE (upB HB)) : w.heap.size ≤ gb217)); clear HB; have HB := n0_; have BK217 := n1_; have GW217 := n2_; have GE217 := n3_; clear n0_ n1_ n2_ n3_; clear hb hbox hg; have q17_0 : w16.cell? ⟨gb217, 0, none⟩ = some (.int .i64 a0_0) := (YI BK217.out 0).trans rfl; have q17_1 : w16.cell? ⟨gb217, 1, none⟩ = some (.slice A0_1 l0_1.length c0_1) := (YI BK217.out 1).trans rfl; have f17_0 := YJ BK217.out 0; have f17_1 := YJ BK217.out 1) | (go_at_call 25; (with_reducible refine (api_Object_25.calls k _ _ l0_1  true _ ?side1 ?side2 A14.out).mono ?_); (case side1 => repeat (first | exact (Kd.C_below HR0_1.out HB.out) | (with_reducible refine Kd.C_alloc ?_ _) | (with_reducible refine Kd.C_drewN ?_ _) | (with_reducible refine Kd.C_drew ?_))); (case side2 => exact HC0_1.out); rintro e w18 ⟨rfl, hb⟩; have n0_ := YL (YK (g := gb217) (o := .cells #[.int .i64 a0_0, .slice A0_1 l0_1.length c0_1] 24 (0, 0)) (upK BK217) hb); have n1_ := YL (YD (upB HB) hb); clear BK217; clear HB; have BK217 := n0_; have HB := n1_; clear n0_ n1_; (try clear hb); (try clear hb2); (try clear hk); (try clear hi)))
  go_ret
  exact ⟨by first | rfl | (simp [errW_none, errW_some] <;> rfl) | (simp [*, errW_none, errW_some] <;> rfl), by repeat (first | (with_reducible first | exact HB.out | apply YA | apply YB | apply YC | refine below_set ?_ GE217.out) | exact HB.out)⟩
 replace c15 := Bool.eq_false_iff.mpr c15
 subst c15
 have H1 : ((batch_size.f k l0_1).bind fun t219 => (if t219 > 512 then (some 1) else (some 0))) = some r := by rw [if_neg (show ¬ (false = true) by decide)] at H; exact H
 clear H
 have H := H1
 clear H1; replace H := Option.bind_eq_some_iff.mp H; obtain ⟨t219, A190, H⟩ := H
 replace H : (if t219 > 512 then (some 1) else (some 0)) = some r := H
 have A19 := YL A190; clear A190
 by_cases c20 : t219 > 512
 ·rw [if_pos c20] at H
  have c20b0 : decide (512 < t219) = true := decide_eq_true c20; clear c20
  obtain rfl := Option.some.inj H
  go_enter Try.func12, Try.ntmps12
  go_wp2_with (first | ((with_reducible refine gate_dst (N := 1) rfl ?_); (try (refine gate_guard (by rfl) ?_; dsimp only)); refine box_event ?hg (N := 1) ?hd (cs := #[.int .i64 a0_0, .slice A0_1 l0_1.length c0_1]) (t := 24) ?hr ?_; (case hd => rfl); (case hg => rfl); (case hr => first | (go_simp; done) | (go_simp; rfl)); intro gb217 hg w21 hbox hb; have n0_ := YL (YD (upB HB) hb); have n1_ := YL (hbox); have n2_ := YL ((by rw [hg]; exact (YE (upB HB)) : w.heap.size ≤ gb217)); have n3_ := YL ((by rw [hg]; exact (YE (upB HB)) : w.heap.size ≤ gb217)); clear HB; have HB := n0_; have BK217 := n1_; have GW217 := n2_; have GE217 := n3_; clear n0_ n1_ n2_ n3_; clear hb hbox hg; have q22_0 : w21.cell? ⟨gb217, 0, none⟩ = some (.int .i64 a0_0) := (YI BK217.out 0).trans rfl; have q22_1 : w21.cell? ⟨gb217, 1, none⟩ = some (.slice A0_1 l0_1.length c0_1) := (YI BK217.out 1).trans rfl; have f22_0 := YJ BK217.out 0; have f22_1 := YJ BK217.out 1) | (go_at_call 25; (with_reducible refine (api_Object_25.calls k _ _ l0_1  false _ ?side1 ?side2 A14.out).mono ?_); (case side1 => repeat (first | exact (Kd.C_below HR0_1.out HB.out) | (with_reducible refine Kd.C_alloc ?_ _) | (with_reducible refine Kd.C_drewN ?_ _) | (with_reducible refine Kd.C_drew ?_))); (case side2 => exact HC0_1.out); rintro e w23 ⟨rfl, hb⟩; have n0_ := YL (YK (g := gb217) (o := .cells #[.int .i64 a0_0, .slice A0_1 l0_1.length c0_1] 24 (0, 0)) (upK BK217) hb); have n1_ := YL (YD (upB HB) hb); clear BK217; clear HB; have BK217 := n0_; have HB := n1_; clear n0_ n1_; (try clear hb); (try clear hb2); (try clear hk); (try clear hi); have q24_0 : w23.cell? ⟨gb217, 0, none⟩ = some (.int .i64 a0_0) := (YI BK217.out 0).trans rfl; have q24_1 : w23.cell? ⟨gb217, 1, none⟩ = some (.slice A0_1 l0_1.length c0_1) := (YI BK217.out 1).trans rfl; have f24_0 := YJ BK217.out 0; have f24_1 := YJ BK217.out 1) | (go_at_call 27; (with_reducible refine (batch_size.calls k _ _ l0_1 t219 _ ?side1 ?side2 A19.out).mono ?_); (case side1 => repeat (first | exact (Kd.C_below HR0_1.out HB.out) | (with_reducible refine Kd.C_alloc ?_ _) | (with_reducible refine Kd.C_drewN ?_ _) | (with_reducible refine Kd.C_drew ?_))); (case side2 => exact HC0_1.out); rintro e w25 ⟨rfl, hb⟩; have n0_ := YL (YK (g := gb217) (o := .cells #[.int .i64 a0_0, .slice A0_1 l0_1.length c0_1] 24 (0, 0)) (upK BK217) hb); have n1_ := YL (YD (upB HB) hb); clear BK217; clear HB; have BK217 := n0_; have HB := n1_; clear n0_ n1_; (try clear hb); (try clear hb2); (try clear hk); (try clear hi)))
  go_ret
  exact ⟨by first | rfl | (simp [errW_none, errW_some] <;> rfl) | (simp [*, errW_none, errW_some] <;> rfl), by repeat (first | (with_reducible first | exact HB.out | apply YA | apply YB | apply YC | refine below_set ?_ GE217.out) | exact HB.out)⟩
 rw [if_neg c20] at H; have c20b0 : decide (512 < t219) = false := decide_eq_false c20; clear c20
 obtain rfl := Option.some.inj H
 go_enter Try.func12, Try.ntmps12
 go_wp2_with (first | ((with_reducible refine gate_dst (N := 1) rfl ?_); (try (refine gate_guard (by rfl) ?_; dsimp only)); refine box_event ?hg (N := 1) ?hd (cs := #[.int .i64 a0_0, .slice A0_1 l0_1.length c0_1]) (t := 24) ?hr ?_; (case hd => rfl); (case hg => rfl); (case hr => first | (go_simp; done) | (go_simp; rfl)); intro gb217 hg w26 hbox hb; have n0_ := YL (YD (upB HB) hb); have n1_ := YL (hbox); have n2_ := YL ((by rw [hg]; exact (YE (upB HB)) : w.heap.size ≤ gb217)); have n3_ := YL ((by rw [hg]; exact (YE (upB HB)) : w.heap.size ≤ gb217)); clear HB; have HB := n0_; have BK217 := n1_; have GW217 := n2_; have GE217 := n3_; clear n0_ n1_ n2_ n3_; clear hb hbox hg; have q27_0 : w26.cell? ⟨gb217, 0, none⟩ = some (.int .i64 a0_0) := (YI BK217.out 0).trans rfl; have q27_1 : w26.cell? ⟨gb217, 1, none⟩ = some (.slice A0_1 l0_1.length c0_1) := (YI BK217.out 1).trans rfl; have f27_0 := YJ BK217.out 0; have f27_1 := YJ BK217.out 1) | (go_at_call 25; (with_reducible refine (api_Object_25.calls k _ _ l0_1  false _ ?side1 ?side2 A14.out).mono ?_); (case side1 => repeat (first | exact (Kd.C_below HR0_1.out HB.out) | (with_reducible refine Kd.C_alloc ?_ _) | (with_reducible refine Kd.C_drewN ?_ _) | (with_reducible refine Kd.C_drew ?_))); (case side2 => exact HC0_1.out); rintro e w28 ⟨rfl, hb⟩; have n0_ := YL (YK (g := gb217) (o := .cells #[.int .i64 a0_0, .slice A0_1 l0_1.length c0_1] 24 (0, 0)) (upK BK217) hb); have n1_ := YL (YD (upB HB) hb); clear BK217; clear HB; have BK217 := n0_; have HB := n1_; clear n0_ n1_; (try clear hb); (try clear hb2); (try clear hk); (try clear hi); have q29_0 : w28.cell? ⟨gb217, 0, none⟩ = some (.int .i64 a0_0) := (YI BK217.out 0).trans rfl; have q29_1 : w28.cell? ⟨gb217, 1, none⟩ = some (.slice A0_1 l0_1.length c0_1) := (YI BK217.out 1).trans rfl; have f29_0 := YJ BK217.out 0; have f29_1 := YJ BK217.out 1) | (go_at_call 27; (with_reducible refine (batch_size.calls k _ _ l0_1 t219 _ ?side1 ?side2 A19.out).mono ?_); (case side1 => repeat (first | exact (Kd.C_below HR0_1.out HB.out) | (with_reducible refine Kd.C_alloc ?_ _) | (with_reducible refine Kd.C_drewN ?_ _) | (with_reducible refine Kd.C_drew ?_))); (case side2 => exact HC0_1.out); rintro e w30 ⟨rfl, hb⟩; have n0_ := YL (YK (g := gb217) (o := .cells #[.int .i64 a0_0, .slice A0_1 l0_1.length c0_1] 24 (0, 0)) (upK BK217) hb); have n1_ := YL (YD (upB HB) hb); clear BK217; clear HB; have BK217 := n0_; have HB := n1_; clear n0_ n1_; (try clear hb); (try clear hb2); (try clear hk); (try clear hi)))
 go_ret
 exact ⟨by first | rfl | (simp [errW_none, errW_some] <;> rfl) | (simp [*, errW_none, errW_some] <;> rfl), by repeat (first | (with_reducible first | exact HB.out | apply YA | apply YB | apply YC | refine below_set ?_ GE217.out) | exact HB.out)⟩
end Go.Proofs.Ytfigbjjaffkidaa.P
namespace Go.Proofs.Ytfigbjjaffkidaa.P
open Go.RowKit YtfigbjjaffkidaaW.PrintWords YtfigbjjaffkidaaW.PrintLast YtfigbjjaffkidaaW.PrintMore
open YtfigbjjaffkidaaW.PrintWords renaming below_alloc → YA, pw_below_drewN → YB, below_drew1 → YC, below_step → YD, below_size → YE, blk_drewN → YF, blk_drew → YG, blk_alloc → YH, blk_cell → YI, blk_frozen → YJ, blk_below → YK
open YtfigbjjaffkidaaW.PrintWords.Aside0 renaming mk → YL
open List renaming map_toArray → YM, length_take → YN, length_drop → YO
open YtfigbjjaffkidaaW.PrintWords.Kd renaming R_alloc → YP, R_drewN → YQ, R_drew → YR
attribute [local go_sem] max2_int min2_int max_two min_two max_three min_three max_four min_four
def batch_Bytes.l0 : Nat → List Int → List (S45) → Int → Int → Option (List Int × Int)
 | 0, _, _, _, _ => none
 | k + 1, x5, x28, x29, x30 => if x30 < x29 then (if 0 ≤ x30 then (if x30 < (x28.length : Int) then ((object_Bytes.f k ((rd_T45 x28 x30).f0) ((rd_T45 x28 x30).f1) ((rd_T45 x28 x30).f2.f0) ((rd_T45 x28 x30).f2.f1) ((rd_T45 x28 x30).f2.f2) ((rd_T45 x28 x30).f2.f3) ((rd_T45 x28 x30).f2.f4) ((rd_T45 x28 x30).f2.f5) ((rd_T45 x28 x30).f3.f0) ((rd_T45 x28 x30).f3.f1) ((rd_T45 x28 x30).f3.f2) ((rd_T45 x28 x30).f4)).bind fun bt227 => (if bt227.2 = 0 then (if x5.length + bt227.1.length < 140737488355328 then (batch_Bytes.l0 k (x5 ++ bt227.1) x28 x29 (wrap64 (x30 + 1))) else (none)) else (some (([] : List Int), bt227.2)))) else (none)) else (none)) else (some (x5, 0))
def batch_Bytes.f (k : Nat) (a0_0 : Int) (l0_1 : List (S45)) : Option (List Int × Int) := (batch_Check.f k a0_0 l0_1).bind fun t221 => (if t221 = 0 then (batch_Bytes.l0 k (([(a0_0 / 256) % 256, (a0_0) % 256, ((l0_1.length : Int)) % 256] : List Int)) l0_1 (l0_1.length : Int) 0) else (some (([] : List Int), t221)))
theorem batch_Bytes.mono_l : ∀ k, (∀ y0 y1 y2 y3, LeO (batch_Bytes.l0 k y0 y1 y2 y3) (batch_Bytes.l0 (k + 1) y0 y1 y2 y3))
 | 0 => fun _ _ _ _ r h => by simp [batch_Bytes.l0] at h
 | k + 1 => by
  have ih0 := batch_Bytes.mono_l k
  ·intro y0 y1 y2 y3
   unfold batch_Bytes.l0
   repeat' first
   | (with_reducible exact ih0 _ _ _ _)
   | (with_reducible exact batch_Check.mono _ _ _)
   | (with_reducible exact object_Bytes.mono _ _ _ _ _ _ _ _ _ _ _ _ _)
   | (with_reducible exact LeO.refl _)
   | (with_reducible exact LeO.none _)
   | (with_reducible refine LeO.ite ?_ ?_)
   | (with_reducible refine LeO.bind ?_ (fun _ => ?_))
   | exact ih0 _ _ _ _
   | exact batch_Check.mono _ _ _
   | exact object_Bytes.mono _ _ _ _ _ _ _ _ _ _ _ _ _
   | exact LeO.none _
   | refine LeO.ite ?_ ?_
   | refine LeO.bind ?_ (fun _ => ?_)
theorem batch_Bytes.mono : ∀ a0 a1 k, LeO (batch_Bytes.f k a0 a1) (batch_Bytes.f (k + 1) a0 a1) := by
 intro a0 a1 k
 have ih0 := batch_Bytes.mono_l k
 unfold batch_Bytes.f
 repeat' first
   | (with_reducible exact ih0 _ _ _ _)
   | (with_reducible exact batch_Check.mono _ _ _)
   | (with_reducible exact object_Bytes.mono _ _ _ _ _ _ _ _ _ _ _ _ _)
   | (with_reducible exact LeO.refl _)
   | (with_reducible exact LeO.none _)
   | (with_reducible refine LeO.ite ?_ ?_)
   | (with_reducible refine LeO.bind ?_ (fun _ => ?_))
   | exact ih0 _ _ _ _
   | exact batch_Check.mono _ _ _
   | exact object_Bytes.mono _ _ _ _ _ _ _ _ _ _ _ _ _
   | exact LeO.none _
   | refine LeO.ite ?_ ?_
   | refine LeO.bind ?_ (fun _ => ?_)
theorem batch_Bytes.calls (k : Nat) (a0_0 : Int) (A0_1 : Option Addr) (c0_1 : Nat) (l0_1 : List (S45)) (r1 : List Int) (r2 : Int) (w : World) (hr0_1 : Kd.C k45 w A0_1 l0_1.length l0_1) (hc0_1 : l0_1.length ≤ c0_1) (h : batch_Bytes.f k a0_0 l0_1 = some (r1, r2)) :
  Calls Try.prog 9 #[.agg #[.int .i64 a0_0, .slice A0_1 l0_1.length c0_1]] w fun e w' => ∃ v0_ : Value, e = .returned (.tuple #[v0_, .int .i64 r2]) ∧ Kd.R (Kd.int .u8) 5 w' w.heap.size (fun _ => True) v0_ r1 ∧ Below w.heap.size w w' := by
 have hu24 := Try.underlying24
 have hu45 := Try.underlying45
 have HR0_1 := YL hr0_1; have HC0_1 := YL hc0_1; clear hr0_1 hc0_1
 have HB := YL (Below.refl w.heap.size w)
 have H : ((batch_Check.f k a0_0 l0_1).bind fun t221 => (if t221 = 0 then (batch_Bytes.l0 k (([(a0_0 / 256) % 256, (a0_0) % 256, ((l0_1.length : Int)) % 256] : List Int)) l0_1 (l0_1.length : Int) 0) else (some (([] : List Int), t221)))) = some (r1, r2) := h
 clear h; replace H := Option.bind_eq_some_iff.mp H; obtain ⟨t221, A20, H⟩ := H
 replace H : (if t221 = 0 then (batch_Bytes.l0 k (([(a0_0 / 256) % 256, (a0_0) % 256, ((l0_1.length : Int)) % 256] : List Int)) l0_1 (l0_1.length : Int) 0) else (some (([] : List Int), t221))) = some (r1, r2) := H
 have A2 := YL A20; clear A20
 by_cases c3 : t221 = 0
 ·rw [if_pos c3] at H
  have c3b0 : (t221 == 0) = true := beq_iff_eq.mpr c3
  have c3b1 : (t221 != 0) = false := bne_eq_false_iff_eq.mpr c3
  clear c3
  obtain ⟨y222, hy222⟩ : ∃ y_ : List Int, y_ = (([(a0_0 / 256) % 256, (a0_0) % 256, ((l0_1.length : Int)) % 256] : List Int)) := ⟨_, rfl⟩
  replace H : (batch_Bytes.l0 k y222 l0_1 (l0_1.length : Int) 0) = some (r1, r2) := by first | (rw [hy222]; with_reducible exact H) | (have H2_ := (Option.bind_some _ _).symm.trans H; rw [hy222]; with_reducible exact H2_) | (have H2_ := (Option.bind_some _ _).symm.trans H; with_reducible exact H2_) | with_reducible exact H | (rw [hy222]; exact H) | exact H
  have Ny222 := YL hy222; clear hy222
  have H' := YL H
  clear H
  go_enter Try.func9, Try.ntmps9
  go_wp2_with (first | ((with_reducible refine gate_dst (N := 1) rfl ?_); refine box_event ?hg (N := 1) ?hd (cs := #[.int .i64 a0_0, .slice A0_1 l0_1.length c0_1]) (t := 24) ?hr ?_; (case hd => rfl); (case hg => rfl); (case hr => first | (go_simp; done) | (go_simp; rfl)); intro gb220 hg w4 hbox hb; have n0_ := YL (YD (upB HB) hb); have n1_ := YL (hbox); have n2_ := YL ((by rw [hg]; exact (YE (upB HB)) : w.heap.size ≤ gb220)); have n3_ := YL ((by rw [hg]; exact (YE (upB HB)) : w.heap.size ≤ gb220)); clear HB; have HB := n0_; have BK220 := n1_; have GW220 := n2_; have GE220 := n3_; clear n0_ n1_ n2_ n3_; clear hb hbox hg; have q5_0 : w4.cell? ⟨gb220, 0, none⟩ = some (.int .i64 a0_0) := (YI BK220.out 0).trans rfl; have q5_1 : w4.cell? ⟨gb220, 1, none⟩ = some (.slice A0_1 l0_1.length c0_1) := (YI BK220.out 1).trans rfl; have f5_0 := YJ BK220.out 0; have f5_1 := YJ BK220.out 1) | ((with_reducible refine gate_callee (f := 12) rfl ?_); refine goesA (some 11) Try.func12 #[.agg #[.int .i64 a0_0, .slice A0_1 l0_1.length c0_1]] ?_; (with_reducible refine (batch_Check.calls k a0_0 _ _ l0_1 t221 _ ?side1 ?side2 A2.out).mono ?_); (case side1 => repeat (first | exact (Kd.C_below HR0_1.out HB.out) | (with_reducible refine Kd.C_alloc ?_ _) | (with_reducible refine Kd.C_drewN ?_ _) | (with_reducible refine Kd.C_drew ?_))); (case side2 => exact HC0_1.out); rintro e w6 ⟨rfl, hb⟩; refine ⟨_, rfl, ?_⟩; have n0_ := YL (YK (g := gb220) (o := .cells #[.int .i64 a0_0, .slice A0_1 l0_1.length c0_1] 24 (0, 0)) (upK BK220) hb); have n1_ := YL (YD (upB HB) hb); clear BK220; clear HB; have BK220 := n0_; have HB := n1_; clear n0_ n1_; (try clear hb); (try clear hb2); (try clear hk); (try clear hi); have q7_0 : w6.cell? ⟨gb220, 0, none⟩ = some (.int .i64 a0_0) := (YI BK220.out 0).trans rfl; have q7_1 : w6.cell? ⟨gb220, 1, none⟩ = some (.slice A0_1 l0_1.length c0_1) := (YI BK220.out 1).trans rfl; have f7_0 := YJ BK220.out 0; have f7_1 := YJ BK220.out 1) | ((with_reducible refine gate_dst (N := 26) rfl ?_); refine Kd.R_lit (Kd.int .u8) _ 5 ?hg (N := 26) ?hd (xs := ([(a0_0 / 256) % 256, (a0_0) % 256, ((l0_1.length : Int)) % 256] : List Int)) (inner := [.int .u8 ((a0_0 / 256) % 256), .int .u8 ((a0_0) % 256), .int .u8 (((l0_1.length : Int)) % 256)]) (ok := fun _ => True) (okp := fun _ => True) ?hr ?hp (fun _ hk => hk) trivial (Below.refl _ _) (Nat.le_refl _) (by simp) ?_; (case hd => rfl); (case hg => rfl); (case hr => first | (go_simp; done) | (go_simp; rfl)); (case hp => exact (Reps.one (show Kd.M (Kd.int .u8) _ _ _ ((a0_0 / 256) % 256) [.int .u8 ((a0_0 / 256) % 256)] from rfl) (Reps.one (show Kd.M (Kd.int .u8) _ _ _ ((a0_0) % 256) [.int .u8 ((a0_0) % 256)] from rfl) (Reps.one (show Kd.M (Kd.int .u8) _ _ _ (((l0_1.length : Int)) % 256) [.int .u8 (((l0_1.length : Int)) % 256)] from rfl) (Reps.none _ _))))); intro v223 w8 ho9 hb hg_ hnew_; clear hg_ hnew_; (first | rw [← Ny222.out] at ho9 | (simp only [Int.reduceToNat] at ho9; rw [← Ny222.out] at ho9)); have n0_ := YL (Kd.R_lower ho9 (YE (upB HB))); have n1_ := YL (YK (g := gb220) (o := .cells #[.int .i64 a0_0, .slice A0_1 l0_1.length c0_1] 24 (0, 0)) (upK BK220) hb); have n2_ := YL (YD (upB HB) hb); clear BK220; clear HB; have HO224 := n0_; have BK220 := n1_; have HB := n2_; clear n0_ n1_ n2_; clear hb ho9; have q10_0 : w8.cell? ⟨gb220, 0, none⟩ = some (.int .i64 a0_0) := (YI BK220.out 0).trans rfl; have q10_1 : w8.cell? ⟨gb220, 1, none⟩ = some (.slice A0_1 l0_1.length c0_1) := (YI BK220.out 1).trans rfl; have f10_0 := YJ BK220.out 0; have f10_1 := YJ BK220.out 1))
  go_loopg [5, 30] k (fun kq v5 v30 w' => ∃ (x5_1 : List Int) (x30_1 : Int), v30 = .int .i64 x30_1 ∧ Aside0 (batch_Bytes.l0 kq x5_1 l0_1 (l0_1.length : Int) x30_1 = some (r1, r2)) ∧ Aside0 (kq ≤ k) ∧ Aside0 (Kd.R (Kd.int .u8) 5 w' w.heap.size (fun _ => True) v5 x5_1) ∧ Aside0 (w'.heap[gb220]? = some (.cells #[.int .i64 a0_0, (.slice A0_1 l0_1.length c0_1)] 24 (0, 0))) ∧ Aside0 (Below w.heap.size w w'))
  case atStart => exact ⟨(y222), (0), (by first | rfl | (simp; done) | (simp [*]; done)), H', ⟨Nat.le_refl _⟩, ⟨by (with_reducible repeat (first | apply YP | apply YQ | apply YR)); exact HO224.out⟩, ⟨by (with_reducible repeat (first | refine YF ?_ _ | refine YG ?_ | refine YH ?_ _)); exact BK220.out⟩, ⟨by repeat (first | (with_reducible first | exact HB.out | apply YA | apply YB | apply YC | refine below_set ?_ GE220.out) | exact HB.out)⟩⟩
  case round =>
   clear H'
   try clear c1; try clear p2
   try clear c3; try clear c3b0
   try clear c3b1; try clear c9
   try clear q10_0; try clear q10_1
   try clear q5_0; try clear q5_1
   try clear q7_0; try clear q7_1
   try clear f10_0; try clear f10_1
   try clear f5_0; try clear f5_1
   try clear f7_0; try clear f7_1
   obtain ⟨x5_1, x30_1, rfl, HA, HK1, HO_5, BK220, HB⟩ := hrel
   cases gk with
   | zero => exact absurd HA.out (by simp [batch_Bytes.l0])
   | succ k1 =>
    have H := HA.out
    clear HA
    simp only [batch_Bytes.l0] at H
    by_cases c11 : x30_1 < (l0_1.length : Int)
    ·rw [if_pos c11] at H
     have c11b0 : decide (x30_1 < (l0_1.length : Int)) = true := decide_eq_true c11
     clear c11
     by_cases c12 : 0 ≤ x30_1
     rotate_left
     ·rw [if_neg c12] at H
      exact absurd H (by simp)
     rw [if_pos c12] at H; have c12b0 : decide (0 ≤ x30_1) = true := decide_eq_true c12; clear c12
     by_cases c13 : x30_1 < (l0_1.length : Int)
     rotate_left
     ·rw [if_neg c13] at H
      exact absurd H (by simp)
     rw [if_pos c13] at H
     have c13b0 : decide (x30_1 < (l0_1.length : Int)) = true := decide_eq_true c13
     clear c13; replace H := Option.bind_eq_some_iff.mp H
     obtain ⟨⟨t227, t230⟩, A140, H⟩ := H
     replace H : (if t230 = 0 then (if x5_1.length + t227.length < 140737488355328 then (batch_Bytes.l0 k1 (x5_1 ++ t227) l0_1 (l0_1.length : Int) (wrap64 (x30_1 + 1))) else (none)) else (some (([] : List Int), t230))) = some (r1, r2) := H
     have A14 := YL A140; clear A140
     by_cases c15 : t230 = 0
     ·rw [if_pos c15] at H
      have c15b0 : (t230 == 0) = true := beq_iff_eq.mpr c15
      have c15b1 : (t230 != 0) = false := bne_eq_false_iff_eq.mpr c15
      clear c15
      by_cases c16 : x5_1.length + t227.length < 140737488355328
      rotate_left
      ·rw [if_neg c16] at H
       exact absurd H (by simp)
      rw [if_pos c16] at H; have LMc16 := YL c16; clear c16
      obtain ⟨y231, hy231⟩ : ∃ y_ : List Int, y_ = (x5_1 ++ t227) := ⟨_, rfl⟩
      replace H : (batch_Bytes.l0 k1 y231 l0_1 (l0_1.length : Int) (wrap64 (x30_1 + 1))) = some (r1, r2) := by first | (rw [hy231]; with_reducible exact H) | (have H2_ := (Option.bind_some _ _).symm.trans H; rw [hy231]; with_reducible exact H2_) | (have H2_ := (Option.bind_some _ _).symm.trans H; with_reducible exact H2_) | with_reducible exact H | (rw [hy231]; exact H) | exact H
      have Ny231 := YL hy231; clear hy231
      have H' := YL H
      clear H
      have p225 : 0 ≤ (x30_1 : Int) := of_decide_eq_true (by first | (with_reducible assumption) | assumption)
      have q225 : x30_1 < (l0_1.length : Int) := of_decide_eq_true (by first | (with_reducible assumption) | assumption)
      obtain ⟨ad225, e225, hx225_0, hx225_1, hx225_2, hx225_3, hx225_4, hx225_5, hx225_6, hx225_7, hx225_8, hx225_9, hx225_10, hx225_11⟩ := at_T45 HR0_1.out x30_1 p225 q225
      cases e225
      replace hx225_0 := (HB.out.cell (World.block_lt_of_cell? w _ hx225_0)).trans hx225_0
      replace hx225_1 := (HB.out.cell (World.block_lt_of_cell? w _ hx225_1)).trans hx225_1
      replace hx225_2 := (HB.out.cell (World.block_lt_of_cell? w _ hx225_2)).trans hx225_2
      replace hx225_3 := (HB.out.cell (World.block_lt_of_cell? w _ hx225_3)).trans hx225_3
      replace hx225_4 := (HB.out.cell (World.block_lt_of_cell? w _ hx225_4)).trans hx225_4
      replace hx225_5 := (HB.out.cell (World.block_lt_of_cell? w _ hx225_5)).trans hx225_5
      replace hx225_6 := (HB.out.cell (World.block_lt_of_cell? w _ hx225_6)).trans hx225_6
      replace hx225_7 := (HB.out.cell (World.block_lt_of_cell? w _ hx225_7)).trans hx225_7
      replace hx225_8 := (HB.out.cell (World.block_lt_of_cell? w _ hx225_8)).trans hx225_8
      replace hx225_9 := (HB.out.cell (World.block_lt_of_cell? w _ hx225_9)).trans hx225_9
      replace hx225_10 := (HB.out.cell (World.block_lt_of_cell? w _ hx225_10)).trans hx225_10
      replace hx225_11 := (HB.out.cell (World.block_lt_of_cell? w _ hx225_11)).trans hx225_11
      replace p225 := eq_true p225
      replace q225 := eq_true q225
      go_wp2_with (first | ((with_reducible refine gate_dst (N := 7) rfl ?_); refine box_event ?hg (N := 7) ?hd (cs := #[.int .i64 0, .int .i64 0, .bool false, .int .i64 0, .int .i64 0, .int .i64 0, .int .i64 0, .int .i64 0, .int .i64 0, .int .i64 0, .int .i64 0, .int .i64 0]) (t := 45) ?hr ?_; (case hd => rfl); (case hg => rfl); (case hr => first | (go_simp; done) | (go_simp; rfl)); intro gb226 hg w17 hbox hb; have n0_ := YL (Kd.R_below (upR HO_5) hb); have n1_ := YL (YK (g := gb220) (o := .cells #[.int .i64 a0_0, .slice (some ad225) l0_1.length c0_1] 24 (0, 0)) (upK BK220) hb); have n2_ := YL (YD (upB HB) hb); have n3_ := YL (hbox); have n4_ := YL ((by rw [hg]; exact (YE (upB HB)) : w.heap.size ≤ gb226)); have n5_ := YL ((by rw [hg]; exact (YE (upB HB)) : w.heap.size ≤ gb226)); have n6_ := YL ((by rw [hg]; exact Nat.ne_of_lt (blk_lt (g := gb220) (o := .cells #[.int .i64 a0_0, .slice (some ad225) l0_1.length c0_1] 24 (0, 0)) (upK BK220)) : gb220 ≠ gb226)); have n7_ := YL ((by rw [hg]; exact Nat.ne_of_gt (blk_lt (g := gb220) (o := .cells #[.int .i64 a0_0, .slice (some ad225) l0_1.length c0_1] 24 (0, 0)) (upK BK220)) : gb226 ≠ gb220)); clear HO_5; clear BK220; clear HB; have HO_5 := n0_; have BK220 := n1_; have HB := n2_; have BK226 := n3_; have GW226 := n4_; have GE226 := n5_; have NB220_226 := n6_; have NB226_220 := n7_; clear n0_ n1_ n2_ n3_ n4_ n5_ n6_ n7_; clear hb hbox hg; have hnb18 := NB226_220.out; have hnc18 := NB220_226.out; have q19_0 : w17.cell? ⟨gb226, 0, none⟩ = some (.int .i64 0) := (YI BK226.out 0).trans rfl; have q19_1 : w17.cell? ⟨gb226, 1, none⟩ = some (.int .i64 0) := (YI BK226.out 1).trans rfl; have q19_2 : w17.cell? ⟨gb226, 2, none⟩ = some (.bool false) := (YI BK226.out 2).trans rfl; have q19_3 : w17.cell? ⟨gb226, 3, none⟩ = some (.int .i64 0) := (YI BK226.out 3).trans rfl; have q19_4 : w17.cell? ⟨gb226, 4, none⟩ = some (.int .i64 0) := (YI BK226.out 4).trans rfl; have q19_5 : w17.cell? ⟨gb226, 5, none⟩ = some (.int .i64 0) := (YI BK226.out 5).trans rfl; have q19_6 : w17.cell? ⟨gb226, 6, none⟩ = some (.int .i64 0) := (YI BK226.out 6).trans rfl; have q19_7 : w17.cell? ⟨gb226, 7, none⟩ = some (.int .i64 0) := (YI BK226.out 7).trans rfl; have q19_8 : w17.cell? ⟨gb226, 8, none⟩ = some (.int .i64 0) := (YI BK226.out 8).trans rfl; have q19_9 : w17.cell? ⟨gb226, 9, none⟩ = some (.int .i64 0) := (YI BK226.out 9).trans rfl; have q19_10 : w17.cell? ⟨gb226, 10, none⟩ = some (.int .i64 0) := (YI BK226.out 10).trans rfl; have q19_11 : w17.cell? ⟨gb226, 11, none⟩ = some (.int .i64 0) := (YI BK226.out 11).trans rfl; have f19_0 := YJ BK226.out 0; have f19_1 := YJ BK226.out 1; have f19_2 := YJ BK226.out 2; have f19_3 := YJ BK226.out 3; have f19_4 := YJ BK226.out 4; have f19_5 := YJ BK226.out 5; have f19_6 := YJ BK226.out 6; have f19_7 := YJ BK226.out 7; have f19_8 := YJ BK226.out 8; have f19_9 := YJ BK226.out 9; have f19_10 := YJ BK226.out 10; have f19_11 := YJ BK226.out 11) | ((with_reducible refine gate_callee (f := 23) rfl ?_); refine goesA (some 36) Try.func23 #[.agg #[.int .i64 ((rd_T45 l0_1 x30_1).f0), .int .i64 ((rd_T45 l0_1 x30_1).f1), .bool ((rd_T45 l0_1 x30_1).f2.f0), .int .i64 ((rd_T45 l0_1 x30_1).f2.f1), .int .i64 ((rd_T45 l0_1 x30_1).f2.f2), .int .i64 ((rd_T45 l0_1 x30_1).f2.f3), .int .i64 ((rd_T45 l0_1 x30_1).f2.f4), .int .i64 ((rd_T45 l0_1 x30_1).f2.f5), .int .i64 ((rd_T45 l0_1 x30_1).f3.f0), .int .i64 ((rd_T45 l0_1 x30_1).f3.f1), .int .i64 ((rd_T45 l0_1 x30_1).f3.f2), .int .i64 ((rd_T45 l0_1 x30_1).f4)]] ?_; (with_reducible refine (object_Bytes.calls k1 ((rd_T45 l0_1 x30_1).f0) ((rd_T45 l0_1 x30_1).f1) ((rd_T45 l0_1 x30_1).f2.f0) ((rd_T45 l0_1 x30_1).f2.f1) ((rd_T45 l0_1 x30_1).f2.f2) ((rd_T45 l0_1 x30_1).f2.f3) ((rd_T45 l0_1 x30_1).f2.f4) ((rd_T45 l0_1 x30_1).f2.f5) ((rd_T45 l0_1 x30_1).f3.f0) ((rd_T45 l0_1 x30_1).f3.f1) ((rd_T45 l0_1 x30_1).f3.f2) ((rd_T45 l0_1 x30_1).f4) t227 t230 _ A14.out).mono ?_); rintro e w20 ⟨v228, rfl, ho0, hb⟩; refine ⟨_, rfl, ?_⟩; have n0_ := YL (Kd.R_elder' (by (with_reducible repeat (first | apply YP | apply YQ | apply YR)); exact (Kd.R_mono (Kd.R_far (p := ⟨gb226, 11, none⟩) (Kd.R_far (p := ⟨gb226, 10, none⟩) (Kd.R_far (p := ⟨gb226, 9, none⟩) (Kd.R_far (p := ⟨gb226, 8, none⟩) (Kd.R_far (p := ⟨gb226, 7, none⟩) (Kd.R_far (p := ⟨gb226, 6, none⟩) (Kd.R_far (p := ⟨gb226, 5, none⟩) (Kd.R_far (p := ⟨gb226, 4, none⟩) (Kd.R_far (p := ⟨gb226, 3, none⟩) (Kd.R_far (p := ⟨gb226, 2, none⟩) (Kd.R_far (p := ⟨gb226, 1, none⟩) (Kd.R_far (p := ⟨gb226, 0, none⟩) (Kd.R_types HO_5.out BK226.out (by decide)) (fun _ hk => hk.2) (.int .i64 ((rd_T45 l0_1 x30_1).f0))) (fun _ hk => hk.2) (.int .i64 ((rd_T45 l0_1 x30_1).f1))) (fun _ hk => hk.2) (.bool ((rd_T45 l0_1 x30_1).f2.f0))) (fun _ hk => hk.2) (.int .i64 ((rd_T45 l0_1 x30_1).f2.f1))) (fun _ hk => hk.2) (.int .i64 ((rd_T45 l0_1 x30_1).f2.f2))) (fun _ hk => hk.2) (.int .i64 ((rd_T45 l0_1 x30_1).f2.f3))) (fun _ hk => hk.2) (.int .i64 ((rd_T45 l0_1 x30_1).f2.f4))) (fun _ hk => hk.2) (.int .i64 ((rd_T45 l0_1 x30_1).f2.f5))) (fun _ hk => hk.2) (.int .i64 ((rd_T45 l0_1 x30_1).f3.f0))) (fun _ hk => hk.2) (.int .i64 ((rd_T45 l0_1 x30_1).f3.f1))) (fun _ hk => hk.2) (.int .i64 ((rd_T45 l0_1 x30_1).f3.f2))) (fun _ hk => hk.2) (.int .i64 ((rd_T45 l0_1 x30_1).f4))) (fun _ h_ => h_.1))) (Kd.R_base ho0) hb); have n1_ := YL (Kd.R_lower (Kd.R_new' ho0 (Kd.R_lt (by (with_reducible repeat (first | apply YP | apply YQ | apply YR)); exact (Kd.R_mono (Kd.R_far (p := ⟨gb226, 11, none⟩) (Kd.R_far (p := ⟨gb226, 10, none⟩) (Kd.R_far (p := ⟨gb226, 9, none⟩) (Kd.R_far (p := ⟨gb226, 8, none⟩) (Kd.R_far (p := ⟨gb226, 7, none⟩) (Kd.R_far (p := ⟨gb226, 6, none⟩) (Kd.R_far (p := ⟨gb226, 5, none⟩) (Kd.R_far (p := ⟨gb226, 4, none⟩) (Kd.R_far (p := ⟨gb226, 3, none⟩) (Kd.R_far (p := ⟨gb226, 2, none⟩) (Kd.R_far (p := ⟨gb226, 1, none⟩) (Kd.R_far (p := ⟨gb226, 0, none⟩) (Kd.R_types HO_5.out BK226.out (by decide)) (fun _ hk => hk.2) (.int .i64 ((rd_T45 l0_1 x30_1).f0))) (fun _ hk => hk.2) (.int .i64 ((rd_T45 l0_1 x30_1).f1))) (fun _ hk => hk.2) (.bool ((rd_T45 l0_1 x30_1).f2.f0))) (fun _ hk => hk.2) (.int .i64 ((rd_T45 l0_1 x30_1).f2.f1))) (fun _ hk => hk.2) (.int .i64 ((rd_T45 l0_1 x30_1).f2.f2))) (fun _ hk => hk.2) (.int .i64 ((rd_T45 l0_1 x30_1).f2.f3))) (fun _ hk => hk.2) (.int .i64 ((rd_T45 l0_1 x30_1).f2.f4))) (fun _ hk => hk.2) (.int .i64 ((rd_T45 l0_1 x30_1).f2.f5))) (fun _ hk => hk.2) (.int .i64 ((rd_T45 l0_1 x30_1).f3.f0))) (fun _ hk => hk.2) (.int .i64 ((rd_T45 l0_1 x30_1).f3.f1))) (fun _ hk => hk.2) (.int .i64 ((rd_T45 l0_1 x30_1).f3.f2))) (fun _ hk => hk.2) (.int .i64 ((rd_T45 l0_1 x30_1).f4))) (fun _ h_ => h_.1))))) (YE (upB HB))); have n2_ := YL (YK (g := gb220) (o := .cells #[.int .i64 a0_0, .slice (some ad225) l0_1.length c0_1] 24 (0, 0)) (by (with_reducible repeat (first | refine YF ?_ _ | refine YG ?_ | refine YH ?_ _)); refine blk_far ?_ NB220_226.out _; (with_reducible repeat (first | refine YF ?_ _ | refine YG ?_ | refine YH ?_ _)); refine blk_far ?_ NB220_226.out _; (with_reducible repeat (first | refine YF ?_ _ | refine YG ?_ | refine YH ?_ _)); refine blk_far ?_ NB220_226.out _; (with_reducible repeat (first | refine YF ?_ _ | refine YG ?_ | refine YH ?_ _)); refine blk_far ?_ NB220_226.out _; (with_reducible repeat (first | refine YF ?_ _ | refine YG ?_ | refine YH ?_ _)); refine blk_far ?_ NB220_226.out _; (with_reducible repeat (first | refine YF ?_ _ | refine YG ?_ | refine YH ?_ _)); refine blk_far ?_ NB220_226.out _; (with_reducible repeat (first | refine YF ?_ _ | refine YG ?_ | refine YH ?_ _)); refine blk_far ?_ NB220_226.out _; (with_reducible repeat (first | refine YF ?_ _ | refine YG ?_ | refine YH ?_ _)); refine blk_far ?_ NB220_226.out _; (with_reducible repeat (first | refine YF ?_ _ | refine YG ?_ | refine YH ?_ _)); refine blk_far ?_ NB220_226.out _; (with_reducible repeat (first | refine YF ?_ _ | refine YG ?_ | refine YH ?_ _)); refine blk_far ?_ NB220_226.out _; (with_reducible repeat (first | refine YF ?_ _ | refine YG ?_ | refine YH ?_ _)); refine blk_far ?_ NB220_226.out _; (with_reducible repeat (first | refine YF ?_ _ | refine YG ?_ | refine YH ?_ _)); refine blk_far ?_ NB220_226.out _; (with_reducible repeat (first | refine YF ?_ _ | refine YG ?_ | refine YH ?_ _)); exact BK220.out) hb); have n3_ := YL (YK (g := gb226) (o := .cells #[.int .i64 ((rd_T45 l0_1 x30_1).f0), .int .i64 ((rd_T45 l0_1 x30_1).f1), .bool ((rd_T45 l0_1 x30_1).f2.f0), .int .i64 ((rd_T45 l0_1 x30_1).f2.f1), .int .i64 ((rd_T45 l0_1 x30_1).f2.f2), .int .i64 ((rd_T45 l0_1 x30_1).f2.f3), .int .i64 ((rd_T45 l0_1 x30_1).f2.f4), .int .i64 ((rd_T45 l0_1 x30_1).f2.f5), .int .i64 ((rd_T45 l0_1 x30_1).f3.f0), .int .i64 ((rd_T45 l0_1 x30_1).f3.f1), .int .i64 ((rd_T45 l0_1 x30_1).f3.f2), .int .i64 ((rd_T45 l0_1 x30_1).f4)] 45 (0, 0)) (by (with_reducible repeat (first | refine YF ?_ _ | refine YG ?_ | refine YH ?_ _)); refine blk_put (cs := #[.int .i64 ((rd_T45 l0_1 x30_1).f0), .int .i64 ((rd_T45 l0_1 x30_1).f1), .bool ((rd_T45 l0_1 x30_1).f2.f0), .int .i64 ((rd_T45 l0_1 x30_1).f2.f1), .int .i64 ((rd_T45 l0_1 x30_1).f2.f2), .int .i64 ((rd_T45 l0_1 x30_1).f2.f3), .int .i64 ((rd_T45 l0_1 x30_1).f2.f4), .int .i64 ((rd_T45 l0_1 x30_1).f2.f5), .int .i64 ((rd_T45 l0_1 x30_1).f3.f0), .int .i64 ((rd_T45 l0_1 x30_1).f3.f1), .int .i64 ((rd_T45 l0_1 x30_1).f3.f2), .int .i64 0]) ?_ 11 _ rfl; (with_reducible repeat (first | refine YF ?_ _ | refine YG ?_ | refine YH ?_ _)); refine blk_put (cs := #[.int .i64 ((rd_T45 l0_1 x30_1).f0), .int .i64 ((rd_T45 l0_1 x30_1).f1), .bool ((rd_T45 l0_1 x30_1).f2.f0), .int .i64 ((rd_T45 l0_1 x30_1).f2.f1), .int .i64 ((rd_T45 l0_1 x30_1).f2.f2), .int .i64 ((rd_T45 l0_1 x30_1).f2.f3), .int .i64 ((rd_T45 l0_1 x30_1).f2.f4), .int .i64 ((rd_T45 l0_1 x30_1).f2.f5), .int .i64 ((rd_T45 l0_1 x30_1).f3.f0), .int .i64 ((rd_T45 l0_1 x30_1).f3.f1), .int .i64 0, .int .i64 0]) ?_ 10 _ rfl; (with_reducible repeat (first | refine YF ?_ _ | refine YG ?_ | refine YH ?_ _)); refine blk_put (cs := #[.int .i64 ((rd_T45 l0_1 x30_1).f0), .int .i64 ((rd_T45 l0_1 x30_1).f1), .bool ((rd_T45 l0_1 x30_1).f2.f0), .int .i64 ((rd_T45 l0_1 x30_1).f2.f1), .int .i64 ((rd_T45 l0_1 x30_1).f2.f2), .int .i64 ((rd_T45 l0_1 x30_1).f2.f3), .int .i64 ((rd_T45 l0_1 x30_1).f2.f4), .int .i64 ((rd_T45 l0_1 x30_1).f2.f5), .int .i64 ((rd_T45 l0_1 x30_1).f3.f0), .int .i64 0, .int .i64 0, .int .i64 0]) ?_ 9 _ rfl; (with_reducible repeat (first | refine YF ?_ _ | refine YG ?_ | refine YH ?_ _)); refine blk_put (cs := #[.int .i64 ((rd_T45 l0_1 x30_1).f0), .int .i64 ((rd_T45 l0_1 x30_1).f1), .bool ((rd_T45 l0_1 x30_1).f2.f0), .int .i64 ((rd_T45 l0_1 x30_1).f2.f1), .int .i64 ((rd_T45 l0_1 x30_1).f2.f2), .int .i64 ((rd_T45 l0_1 x30_1).f2.f3), .int .i64 ((rd_T45 l0_1 x30_1).f2.f4), .int .i64 ((rd_T45 l0_1 x30_1).f2.f5), .int .i64 0, .int .i64 0, .int .i64 0, .int .i64 0]) ?_ 8 _ rfl; (with_reducible repeat (first | refine YF ?_ _ | refine YG ?_ | refine YH ?_ _)); refine blk_put (cs := #[.int .i64 ((rd_T45 l0_1 x30_1).f0), .int .i64 ((rd_T45 l0_1 x30_1).f1), .bool ((rd_T45 l0_1 x30_1).f2.f0), .int .i64 ((rd_T45 l0_1 x30_1).f2.f1), .int .i64 ((rd_T45 l0_1 x30_1).f2.f2), .int .i64 ((rd_T45 l0_1 x30_1).f2.f3), .int .i64 ((rd_T45 l0_1 x30_1).f2.f4), .int .i64 0, .int .i64 0, .int .i64 0, .int .i64 0, .int .i64 0]) ?_ 7 _ rfl; (with_reducible repeat (first | refine YF ?_ _ | refine YG ?_ | refine YH ?_ _)); refine blk_put (cs := #[.int .i64 ((rd_T45 l0_1 x30_1).f0), .int .i64 ((rd_T45 l0_1 x30_1).f1), .bool ((rd_T45 l0_1 x30_1).f2.f0), .int .i64 ((rd_T45 l0_1 x30_1).f2.f1), .int .i64 ((rd_T45 l0_1 x30_1).f2.f2), .int .i64 ((rd_T45 l0_1 x30_1).f2.f3), .int .i64 0, .int .i64 0, .int .i64 0, .int .i64 0, .int .i64 0, .int .i64 0]) ?_ 6 _ rfl; (with_reducible repeat (first | refine YF ?_ _ | refine YG ?_ | refine YH ?_ _)); refine blk_put (cs := #[.int .i64 ((rd_T45 l0_1 x30_1).f0), .int .i64 ((rd_T45 l0_1 x30_1).f1), .bool ((rd_T45 l0_1 x30_1).f2.f0), .int .i64 ((rd_T45 l0_1 x30_1).f2.f1), .int .i64 ((rd_T45 l0_1 x30_1).f2.f2), .int .i64 0, .int .i64 0, .int .i64 0, .int .i64 0, .int .i64 0, .int .i64 0, .int .i64 0]) ?_ 5 _ rfl; (with_reducible repeat (first | refine YF ?_ _ | refine YG ?_ | refine YH ?_ _)); refine blk_put (cs := #[.int .i64 ((rd_T45 l0_1 x30_1).f0), .int .i64 ((rd_T45 l0_1 x30_1).f1), .bool ((rd_T45 l0_1 x30_1).f2.f0), .int .i64 ((rd_T45 l0_1 x30_1).f2.f1), .int .i64 0, .int .i64 0, .int .i64 0, .int .i64 0, .int .i64 0, .int .i64 0, .int .i64 0, .int .i64 0]) ?_ 4 _ rfl; (with_reducible repeat (first | refine YF ?_ _ | refine YG ?_ | refine YH ?_ _)); refine blk_put (cs := #[.int .i64 ((rd_T45 l0_1 x30_1).f0), .int .i64 ((rd_T45 l0_1 x30_1).f1), .bool ((rd_T45 l0_1 x30_1).f2.f0), .int .i64 0, .int .i64 0, .int .i64 0, .int .i64 0, .int .i64 0, .int .i64 0, .int .i64 0, .int .i64 0, .int .i64 0]) ?_ 3 _ rfl; (with_reducible repeat (first | refine YF ?_ _ | refine YG ?_ | refine YH ?_ _)); refine blk_put (cs := #[.int .i64 ((rd_T45 l0_1 x30_1).f0), .int .i64 ((rd_T45 l0_1 x30_1).f1), .bool false, .int .i64 0, .int .i64 0, .int .i64 0, .int .i64 0, .int .i64 0, .int .i64 0, .int .i64 0, .int .i64 0, .int .i64 0]) ?_ 2 _ rfl; (with_reducible repeat (first | refine YF ?_ _ | refine YG ?_ | refine YH ?_ _)); refine blk_put (cs := #[.int .i64 ((rd_T45 l0_1 x30_1).f0), .int .i64 0, .bool false, .int .i64 0, .int .i64 0, .int .i64 0, .int .i64 0, .int .i64 0, .int .i64 0, .int .i64 0, .int .i64 0, .int .i64 0]) ?_ 1 _ rfl; (with_reducible repeat (first | refine YF ?_ _ | refine YG ?_ | refine YH ?_ _)); refine blk_put (cs := #[.int .i64 0, .int .i64 0, .bool false, .int .i64 0, .int .i64 0, .int .i64 0, .int .i64 0, .int .i64 0, .int .i64 0, .int .i64 0, .int .i64 0, .int .i64 0]) ?_ 0 _ rfl; (with_reducible repeat (first | refine YF ?_ _ | refine YG ?_ | refine YH ?_ _)); exact BK226.out) hb); have n4_ := YL (YD (upB HB) hb); clear HO_5; clear BK220; clear BK226; clear HB; have HO_5 := n0_; have HO229 := n1_; have BK220 := n2_; have BK226 := n3_; have HB := n4_; clear n0_ n1_ n2_ n3_ n4_; (try clear hb); (try clear hb2); (try clear hk); (try clear hi); (try clear ho0); obtain ⟨Ao22, co22, eo22⟩ := Kd.R_slice HO229.out; subst eo22) | ((with_reducible refine gate_builtin (b := .append) (xs := #[.tmp 42, .tmp 43]) rfl ?_); at_builtin; refine Kd.R_append_rows (Kd.int .u8) (w0 := w) w.heap.size rfl (.tmp 42) (.tmp 43) 26 5 (.int .u8 0) 1 rfl Try.underlying26 info5 rfl (by decide) (by omega) u5 x5_1 t227 _ _ _ (fun k_ => some k_ ≠ (.slice Ao22 t227.length co22 : Value).ownBlock) (fun _ => False) rfl rfl ?aO ?aR (fun _ _ h => h) (fun _ h => h.elim) ?aF ?aB ?aS ?aL ?_; (case aR => repeat (first | exact (Kd.R_reads' HO229.out).2.2 | (with_reducible refine Kd.C_alloc ?_ _) | (with_reducible refine Kd.C_drewN ?_ _) | (with_reducible refine Kd.C_drew ?_))); (case aB => exact (upB HB)); (case aF => exact (fun k_ hk => Kd.fresh' (Kd.R_lt (upR HO229)) k_ hk)); (case aO => exact (by (with_reducible repeat (first | apply YP | apply YQ | apply YR)); exact Kd.R_mono HO_5.out (fun _ hk => by first | exact hk.2 | exact trivial | (simp [hk]; done) | simp_all))); (case aS => exact (YE (upB HB))); (case aL => have := LMc16.out; omega); intro v232 w21 ho hb hg hat; rw [← Ny231.out] at ho; have n0_ := YL (blk_grown (g := gb220) (o := .cells #[.int .i64 a0_0, .slice (some ad225) l0_1.length c0_1] 24 (0, 0)) (upK BK220) hg (Kd.R_ne HO_5.out BK220.out (by decide))); have n1_ := YL (blk_grown (g := gb226) (o := .cells #[.int .i64 ((rd_T45 l0_1 x30_1).f0), .int .i64 ((rd_T45 l0_1 x30_1).f1), .bool ((rd_T45 l0_1 x30_1).f2.f0), .int .i64 ((rd_T45 l0_1 x30_1).f2.f1), .int .i64 ((rd_T45 l0_1 x30_1).f2.f2), .int .i64 ((rd_T45 l0_1 x30_1).f2.f3), .int .i64 ((rd_T45 l0_1 x30_1).f2.f4), .int .i64 ((rd_T45 l0_1 x30_1).f2.f5), .int .i64 ((rd_T45 l0_1 x30_1).f3.f0), .int .i64 ((rd_T45 l0_1 x30_1).f3.f1), .int .i64 ((rd_T45 l0_1 x30_1).f3.f2), .int .i64 ((rd_T45 l0_1 x30_1).f4)] 45 (0, 0)) (upK BK226) hg (Kd.R_ne HO_5.out BK226.out (by decide))); have n2_ := YL (Kd.R_after (ok := (fun _ => True)) (upR HO229) hg hat); have n3_ := YL (hb); have n4_ := YL (ho); clear BK220; clear BK226; clear HO229; clear HB; clear HO_5; have BK220 := n0_; have BK226 := n1_; have HO229 := n2_; have HB := n3_; have HO233 := n4_; clear n0_ n1_ n2_ n3_ n4_; clear ho hb hg hat))
      go_roundg k1
      case measure => have := HK1.out; omega
      case rel => exact ⟨(y231), (wrap64 (x30_1 + 1)), (by first | rfl | (simp; done) | (simp [*]; done)), H', ⟨by have := HK1.out; omega⟩, ⟨by (with_reducible repeat (first | apply YP | apply YQ | apply YR)); exact Kd.R_mono HO233.out (fun _ hk => trivial)⟩, ⟨by (with_reducible repeat (first | refine YF ?_ _ | refine YG ?_ | refine YH ?_ _)); exact BK220.out⟩, ⟨by repeat (first | (with_reducible first | exact HB.out | apply YA | apply YB | apply YC | refine below_set ?_ GE220.out | refine below_set ?_ GE226.out) | exact HB.out)⟩⟩
     rw [if_neg c15] at H
     have c15b0 : (t230 == 0) = false := beq_eq_false_iff_ne.mpr c15
     have c15b1 : (t230 != 0) = true := bne_iff_ne.mpr c15
     simp only [Option.some.injEq, Prod.mk.injEq] at H
     obtain ⟨rfl, rfl⟩ := H
     have p225 : 0 ≤ (x30_1 : Int) := of_decide_eq_true (by first | (with_reducible assumption) | assumption)
     have q225 : x30_1 < (l0_1.length : Int) := of_decide_eq_true (by first | (with_reducible assumption) | assumption)
     obtain ⟨ad225, e225, hx225_0, hx225_1, hx225_2, hx225_3, hx225_4, hx225_5, hx225_6, hx225_7, hx225_8, hx225_9, hx225_10, hx225_11⟩ := at_T45 HR0_1.out x30_1 p225 q225
     cases e225
     replace hx225_0 := (HB.out.cell (World.block_lt_of_cell? w _ hx225_0)).trans hx225_0
     replace hx225_1 := (HB.out.cell (World.block_lt_of_cell? w _ hx225_1)).trans hx225_1
     replace hx225_2 := (HB.out.cell (World.block_lt_of_cell? w _ hx225_2)).trans hx225_2
     replace hx225_3 := (HB.out.cell (World.block_lt_of_cell? w _ hx225_3)).trans hx225_3
     replace hx225_4 := (HB.out.cell (World.block_lt_of_cell? w _ hx225_4)).trans hx225_4
     replace hx225_5 := (HB.out.cell (World.block_lt_of_cell? w _ hx225_5)).trans hx225_5
     replace hx225_6 := (HB.out.cell (World.block_lt_of_cell? w _ hx225_6)).trans hx225_6
     replace hx225_7 := (HB.out.cell (World.block_lt_of_cell? w _ hx225_7)).trans hx225_7
     replace hx225_8 := (HB.out.cell (World.block_lt_of_cell? w _ hx225_8)).trans hx225_8
     replace hx225_9 := (HB.out.cell (World.block_lt_of_cell? w _ hx225_9)).trans hx225_9
     replace hx225_10 := (HB.out.cell (World.block_lt_of_cell? w _ hx225_10)).trans hx225_10
     replace hx225_11 := (HB.out.cell (World.block_lt_of_cell? w _ hx225_11)).trans hx225_11
     replace p225 := eq_true p225
     replace q225 := eq_true q225
     go_wp2_with (first | ((with_reducible refine gate_dst (N := 7) rfl ?_); refine box_event ?hg (N := 7) ?hd (cs := #[.int .i64 0, .int .i64 0, .bool false, .int .i64 0, .int .i64 0, .int .i64 0, .int .i64 0, .int .i64 0, .int .i64 0, .int .i64 0, .int .i64 0, .int .i64 0]) (t := 45) ?hr ?_; (case hd => rfl); (case hg => rfl); (case hr => first | (go_simp; done) | (go_simp; rfl)); intro gb226 hg w23 hbox hb; have n0_ := YL (Kd.R_below (upR HO_5) hb); have n1_ := YL (YK (g := gb220) (o := .cells #[.int .i64 a0_0, .slice (some ad225) l0_1.length c0_1] 24 (0, 0)) (upK BK220) hb); have n2_ := YL (YD (upB HB) hb); have n3_ := YL (hbox); have n4_ := YL ((by rw [hg]; exact (YE (upB HB)) : w.heap.size ≤ gb226)); have n5_ := YL ((by rw [hg]; exact (YE (upB HB)) : w.heap.size ≤ gb226)); have n6_ := YL ((by rw [hg]; exact Nat.ne_of_lt (blk_lt (g := gb220) (o := .cells #[.int .i64 a0_0, .slice (some ad225) l0_1.length c0_1] 24 (0, 0)) (upK BK220)) : gb220 ≠ gb226)); have n7_ := YL ((by rw [hg]; exact Nat.ne_of_gt (blk_lt (g := gb220) (o := .cells #[.int .i64 a0_0, .slice (some ad225) l0_1.length c0_1] 24 (0, 0)) (upK BK220)) : gb226 ≠ gb220)); clear HO_5; clear BK220; clear HB; have HO_5 := n0_; have BK220 := n1_; have HB := n2_; have BK226 := n3_; have GW226 := n4_; have GE226 := n5_; have NB220_226 := n6_; have NB226_220 := n7_; clear n0_ n1_ n2_ n3_ n4_ n5_ n6_ n7_; clear hb hbox hg; have hnb24 := NB226_220.out; have hnc24 := NB220_226.out; have q25_0 : w23.cell? ⟨gb226, 0, none⟩ = some (.int .i64 0) := (YI BK226.out 0).trans rfl; have q25_1 : w23.cell? ⟨gb226, 1, none⟩ = some (.int .i64 0) := (YI BK226.out 1).trans rfl; have q25_2 : w23.cell? ⟨gb226, 2, none⟩ = some (.bool false) := (YI BK226.out 2).trans rfl; have q25_3 : w23.cell? ⟨gb226, 3, none⟩ = some (.int .i64 0) := (YI BK226.out 3).trans rfl; have q25_4 : w23.cell? ⟨gb226, 4, none⟩ = some (.int .i64 0) := (YI BK226.out 4).trans rfl; have q25_5 : w23.cell? ⟨gb226, 5, none⟩ = some (.int .i64 0) := (YI BK226.out 5).trans rfl; have q25_6 : w23.cell? ⟨gb226, 6, none⟩ = some (.int .i64 0) := (YI BK226.out 6).trans rfl; have q25_7 : w23.cell? ⟨gb226, 7, none⟩ = some (.int .i64 0) := (YI BK226.out 7).trans rfl; have q25_8 : w23.cell? ⟨gb226, 8, none⟩ = some (.int .i64 0) := (YI BK226.out 8).trans rfl; have q25_9 : w23.cell? ⟨gb226, 9, none⟩ = some (.int .i64 0) := (YI BK226.out 9).trans rfl; have q25_10 : w23.cell? ⟨gb226, 10, none⟩ = some (.int .i64 0) := (YI BK226.out 10).trans rfl; have q25_11 : w23.cell? ⟨gb226, 11, none⟩ = some (.int .i64 0) := (YI BK226.out 11).trans rfl; have f25_0 := YJ BK226.out 0; have f25_1 := YJ BK226.out 1; have f25_2 := YJ BK226.out 2; have f25_3 := YJ BK226.out 3; have f25_4 := YJ BK226.out 4; have f25_5 := YJ BK226.out 5; have f25_6 := YJ BK226.out 6; have f25_7 := YJ BK226.out 7; have f25_8 := YJ BK226.out 8; have f25_9 := YJ BK226.out 9; have f25_10 := YJ BK226.out 10; have f25_11 := YJ BK226.out 11) | ((with_reducible refine gate_callee (f := 23) rfl ?_); refine goesA (some 36) Try.func23 #[.agg #[.int .i64 ((rd_T45 l0_1 x30_1).f0), .int .i64 ((rd_T45 l0_1 x30_1).f1), .bool ((rd_T45 l0_1 x30_1).f2.f0), .int .i64 ((rd_T45 l0_1 x30_1).f2.f1), .int .i64 ((rd_T45 l0_1 x30_1).f2.f2), .int .i64 ((rd_T45 l0_1 x30_1).f2.f3), .int .i64 ((rd_T45 l0_1 x30_1).f2.f4), .int .i64 ((rd_T45 l0_1 x30_1).f2.f5), .int .i64 ((rd_T45 l0_1 x30_1).f3.f0), .int .i64 ((rd_T45 l0_1 x30_1).f3.f1), .int .i64 ((rd_T45 l0_1 x30_1).f3.f2), .int .i64 ((rd_T45 l0_1 x30_1).f4)]] ?_; (with_reducible refine (object_Bytes.calls k1 ((rd_T45 l0_1 x30_1).f0) ((rd_T45 l0_1 x30_1).f1) ((rd_T45 l0_1 x30_1).f2.f0) ((rd_T45 l0_1 x30_1).f2.f1) ((rd_T45 l0_1 x30_1).f2.f2) ((rd_T45 l0_1 x30_1).f2.f3) ((rd_T45 l0_1 x30_1).f2.f4) ((rd_T45 l0_1 x30_1).f2.f5) ((rd_T45 l0_1 x30_1).f3.f0) ((rd_T45 l0_1 x30_1).f3.f1) ((rd_T45 l0_1 x30_1).f3.f2) ((rd_T45 l0_1 x30_1).f4) t227 t230 _ A14.out).mono ?_); rintro e w26 ⟨v228, rfl, ho0, hb⟩; refine ⟨_, rfl, ?_⟩; have n0_ := YL (Kd.R_elder' (by (with_reducible repeat (first | apply YP | apply YQ | apply YR)); exact (Kd.R_mono (Kd.R_far (p := ⟨gb226, 11, none⟩) (Kd.R_far (p := ⟨gb226, 10, none⟩) (Kd.R_far (p := ⟨gb226, 9, none⟩) (Kd.R_far (p := ⟨gb226, 8, none⟩) (Kd.R_far (p := ⟨gb226, 7, none⟩) (Kd.R_far (p := ⟨gb226, 6, none⟩) (Kd.R_far (p := ⟨gb226, 5, none⟩) (Kd.R_far (p := ⟨gb226, 4, none⟩) (Kd.R_far (p := ⟨gb226, 3, none⟩) (Kd.R_far (p := ⟨gb226, 2, none⟩) (Kd.R_far (p := ⟨gb226, 1, none⟩) (Kd.R_far (p := ⟨gb226, 0, none⟩) (Kd.R_types HO_5.out BK226.out (by decide)) (fun _ hk => hk.2) (.int .i64 ((rd_T45 l0_1 x30_1).f0))) (fun _ hk => hk.2) (.int .i64 ((rd_T45 l0_1 x30_1).f1))) (fun _ hk => hk.2) (.bool ((rd_T45 l0_1 x30_1).f2.f0))) (fun _ hk => hk.2) (.int .i64 ((rd_T45 l0_1 x30_1).f2.f1))) (fun _ hk => hk.2) (.int .i64 ((rd_T45 l0_1 x30_1).f2.f2))) (fun _ hk => hk.2) (.int .i64 ((rd_T45 l0_1 x30_1).f2.f3))) (fun _ hk => hk.2) (.int .i64 ((rd_T45 l0_1 x30_1).f2.f4))) (fun _ hk => hk.2) (.int .i64 ((rd_T45 l0_1 x30_1).f2.f5))) (fun _ hk => hk.2) (.int .i64 ((rd_T45 l0_1 x30_1).f3.f0))) (fun _ hk => hk.2) (.int .i64 ((rd_T45 l0_1 x30_1).f3.f1))) (fun _ hk => hk.2) (.int .i64 ((rd_T45 l0_1 x30_1).f3.f2))) (fun _ hk => hk.2) (.int .i64 ((rd_T45 l0_1 x30_1).f4))) (fun _ h_ => h_.1))) (Kd.R_base ho0) hb); have n1_ := YL (Kd.R_lower (Kd.R_new' ho0 (Kd.R_lt (by (with_reducible repeat (first | apply YP | apply YQ | apply YR)); exact (Kd.R_mono (Kd.R_far (p := ⟨gb226, 11, none⟩) (Kd.R_far (p := ⟨gb226, 10, none⟩) (Kd.R_far (p := ⟨gb226, 9, none⟩) (Kd.R_far (p := ⟨gb226, 8, none⟩) (Kd.R_far (p := ⟨gb226, 7, none⟩) (Kd.R_far (p := ⟨gb226, 6, none⟩) (Kd.R_far (p := ⟨gb226, 5, none⟩) (Kd.R_far (p := ⟨gb226, 4, none⟩) (Kd.R_far (p := ⟨gb226, 3, none⟩) (Kd.R_far (p := ⟨gb226, 2, none⟩) (Kd.R_far (p := ⟨gb226, 1, none⟩) (Kd.R_far (p := ⟨gb226, 0, none⟩) (Kd.R_types HO_5.out BK226.out (by decide)) (fun _ hk => hk.2) (.int .i64 ((rd_T45 l0_1 x30_1).f0))) (fun _ hk => hk.2) (.int .i64 ((rd_T45 l0_1 x30_1).f1))) (fun _ hk => hk.2) (.bool ((rd_T45 l0_1 x30_1).f2.f0))) (fun _ hk => hk.2) (.int .i64 ((rd_T45 l0_1 x30_1).f2.f1))) (fun _ hk => hk.2) (.int .i64 ((rd_T45 l0_1 x30_1).f2.f2))) (fun _ hk => hk.2) (.int .i64 ((rd_T45 l0_1 x30_1).f2.f3))) (fun _ hk => hk.2) (.int .i64 ((rd_T45 l0_1 x30_1).f2.f4))) (fun _ hk => hk.2) (.int .i64 ((rd_T45 l0_1 x30_1).f2.f5))) (fun _ hk => hk.2) (.int .i64 ((rd_T45 l0_1 x30_1).f3.f0))) (fun _ hk => hk.2) (.int .i64 ((rd_T45 l0_1 x30_1).f3.f1))) (fun _ hk => hk.2) (.int .i64 ((rd_T45 l0_1 x30_1).f3.f2))) (fun _ hk => hk.2) (.int .i64 ((rd_T45 l0_1 x30_1).f4))) (fun _ h_ => h_.1))))) (YE (upB HB))); have n2_ := YL (YK (g := gb220) (o := .cells #[.int .i64 a0_0, .slice (some ad225) l0_1.length c0_1] 24 (0, 0)) (by (with_reducible repeat (first | refine YF ?_ _ | refine YG ?_ | refine YH ?_ _)); refine blk_far ?_ NB220_226.out _; (with_reducible repeat (first | refine YF ?_ _ | refine YG ?_ | refine YH ?_ _)); refine blk_far ?_ NB220_226.out _; (with_reducible repeat (first | refine YF ?_ _ | refine YG ?_ | refine YH ?_ _)); refine blk_far ?_ NB220_226.out _; (with_reducible repeat (first | refine YF ?_ _ | refine YG ?_ | refine YH ?_ _)); refine blk_far ?_ NB220_226.out _; (with_reducible repeat (first | refine YF ?_ _ | refine YG ?_ | refine YH ?_ _)); refine blk_far ?_ NB220_226.out _; (with_reducible repeat (first | refine YF ?_ _ | refine YG ?_ | refine YH ?_ _)); refine blk_far ?_ NB220_226.out _; (with_reducible repeat (first | refine YF ?_ _ | refine YG ?_ | refine YH ?_ _)); refine blk_far ?_ NB220_226.out _; (with_reducible repeat (first | refine YF ?_ _ | refine YG ?_ | refine YH ?_ _)); refine blk_far ?_ NB220_226.out _; (with_reducible repeat (first | refine YF ?_ _ | refine YG ?_ | refine YH ?_ _)); refine blk_far ?_ NB220_226.out _; (with_reducible repeat (first | refine YF ?_ _ | refine YG ?_ | refine YH ?_ _)); refine blk_far ?_ NB220_226.out _; (with_reducible repeat (first | refine YF ?_ _ | refine YG ?_ | refine YH ?_ _)); refine blk_far ?_ NB220_226.out _; (with_reducible repeat (first | refine YF ?_ _ | refine YG ?_ | refine YH ?_ _)); refine blk_far ?_ NB220_226.out _; (with_reducible repeat (first | refine YF ?_ _ | refine YG ?_ | refine YH ?_ _)); exact BK220.out) hb); have n3_ := YL (YK (g := gb226) (o := .cells #[.int .i64 ((rd_T45 l0_1 x30_1).f0), .int .i64 ((rd_T45 l0_1 x30_1).f1), .bool ((rd_T45 l0_1 x30_1).f2.f0), .int .i64 ((rd_T45 l0_1 x30_1).f2.f1), .int .i64 ((rd_T45 l0_1 x30_1).f2.f2), .int .i64 ((rd_T45 l0_1 x30_1).f2.f3), .int .i64 ((rd_T45 l0_1 x30_1).f2.f4), .int .i64 ((rd_T45 l0_1 x30_1).f2.f5), .int .i64 ((rd_T45 l0_1 x30_1).f3.f0), .int .i64 ((rd_T45 l0_1 x30_1).f3.f1), .int .i64 ((rd_T45 l0_1 x30_1).f3.f2), .int .i64 ((rd_T45 l0_1 x30_1).f4)] 45 (0, 0)) (by (with_reducible repeat (first | refine YF ?_ _ | refine YG ?_ | refine YH ?_ _)); refine blk_put (cs := #[.int .i64 ((rd_T45 l0_1 x30_1).f0), .int .i64 ((rd_T45 l0_1 x30_1).f1), .bool ((rd_T45 l0_1 x30_1).f2.f0), .int .i64 ((rd_T45 l0_1 x30_1).f2.f1), .int .i64 ((rd_T45 l0_1 x30_1).f2.f2), .int .i64 ((rd_T45 l0_1 x30_1).f2.f3), .int .i64 ((rd_T45 l0_1 x30_1).f2.f4), .int .i64 ((rd_T45 l0_1 x30_1).f2.f5), .int .i64 ((rd_T45 l0_1 x30_1).f3.f0), .int .i64 ((rd_T45 l0_1 x30_1).f3.f1), .int .i64 ((rd_T45 l0_1 x30_1).f3.f2), .int .i64 0]) ?_ 11 _ rfl; (with_reducible repeat (first | refine YF ?_ _ | refine YG ?_ | refine YH ?_ _)); refine blk_put (cs := #[.int .i64 ((rd_T45 l0_1 x30_1).f0), .int .i64 ((rd_T45 l0_1 x30_1).f1), .bool ((rd_T45 l0_1 x30_1).f2.f0), .int .i64 ((rd_T45 l0_1 x30_1).f2.f1), .int .i64 ((rd_T45 l0_1 x30_1).f2.f2), .int .i64 ((rd_T45 l0_1 x30_1).f2.f3), .int .i64 ((rd_T45 l0_1 x30_1).f2.f4), .int .i64 ((rd_T45 l0_1 x30_1).f2.f5), .int .i64 ((rd_T45 l0_1 x30_1).f3.f0), .int .i64 ((rd_T45 l0_1 x30_1).f3.f1), .int .i64 0, .int .i64 0]) ?_ 10 _ rfl; (with_reducible repeat (first | refine YF ?_ _ | refine YG ?_ | refine YH ?_ _)); refine blk_put (cs := #[.int .i64 ((rd_T45 l0_1 x30_1).f0), .int .i64 ((rd_T45 l0_1 x30_1).f1), .bool ((rd_T45 l0_1 x30_1).f2.f0), .int .i64 ((rd_T45 l0_1 x30_1).f2.f1), .int .i64 ((rd_T45 l0_1 x30_1).f2.f2), .int .i64 ((rd_T45 l0_1 x30_1).f2.f3), .int .i64 ((rd_T45 l0_1 x30_1).f2.f4), .int .i64 ((rd_T45 l0_1 x30_1).f2.f5), .int .i64 ((rd_T45 l0_1 x30_1).f3.f0), .int .i64 0, .int .i64 0, .int .i64 0]) ?_ 9 _ rfl; (with_reducible repeat (first | refine YF ?_ _ | refine YG ?_ | refine YH ?_ _)); refine blk_put (cs := #[.int .i64 ((rd_T45 l0_1 x30_1).f0), .int .i64 ((rd_T45 l0_1 x30_1).f1), .bool ((rd_T45 l0_1 x30_1).f2.f0), .int .i64 ((rd_T45 l0_1 x30_1).f2.f1), .int .i64 ((rd_T45 l0_1 x30_1).f2.f2), .int .i64 ((rd_T45 l0_1 x30_1).f2.f3), .int .i64 ((rd_T45 l0_1 x30_1).f2.f4), .int .i64 ((rd_T45 l0_1 x30_1).f2.f5), .int .i64 0, .int .i64 0, .int .i64 0, .int .i64 0]) ?_ 8 _ rfl; (with_reducible repeat (first | refine YF ?_ _ | refine YG ?_ | refine YH ?_ _)); refine blk_put (cs := #[.int .i64 ((rd_T45 l0_1 x30_1).f0), .int .i64 ((rd_T45 l0_1 x30_1).f1), .bool ((rd_T45 l0_1 x30_1).f2.f0), .int .i64 ((rd_T45 l0_1 x30_1).f2.f1), .int .i64 ((rd_T45 l0_1 x30_1).f2.f2), .int .i64 ((rd_T45 l0_1 x30_1).f2.f3), .int .i64 ((rd_T45 l0_1 x30_1).f2.f4), .int .i64 0, .int .i64 0, .int .i64 0, .int .i64 0, .int .i64 0]) ?_ 7 _ rfl; (with_reducible repeat (first | refine YF ?_ _ | refine YG ?_ | refine YH ?_ _)); refine blk_put (cs := #[.int .i64 ((rd_T45 l0_1 x30_1).f0), .int .i64 ((rd_T45 l0_1 x30_1).f1), .bool ((rd_T45 l0_1 x30_1).f2.f0), .int .i64 ((rd_T45 l0_1 x30_1).f2.f1), .int .i64 ((rd_T45 l0_1 x30_1).f2.f2), .int .i64 ((rd_T45 l0_1 x30_1).f2.f3), .int .i64 0, .int .i64 0, .int .i64 0, .int .i64 0, .int .i64 0, .int .i64 0]) ?_ 6 _ rfl; (with_reducible repeat (first | refine YF ?_ _ | refine YG ?_ | refine YH ?_ _)); refine blk_put (cs := #[.int .i64 ((rd_T45 l0_1 x30_1).f0), .int .i64 ((rd_T45 l0_1 x30_1).f1), .bool ((rd_T45 l0_1 x30_1).f2.f0), .int .i64 ((rd_T45 l0_1 x30_1).f2.f1), .int .i64 ((rd_T45 l0_1 x30_1).f2.f2), .int .i64 0, .int .i64 0, .int .i64 0, .int .i64 0, .int .i64 0, .int .i64 0, .int .i64 0]) ?_ 5 _ rfl; (with_reducible repeat (first | refine YF ?_ _ | refine YG ?_ | refine YH ?_ _)); refine blk_put (cs := #[.int .i64 ((rd_T45 l0_1 x30_1).f0), .int .i64 ((rd_T45 l0_1 x30_1).f1), .bool ((rd_T45 l0_1 x30_1).f2.f0), .int .i64 ((rd_T45 l0_1 x30_1).f2.f1), .int .i64 0, .int .i64 0, .int .i64 0, .int .i64 0, .int .i64 0, .int .i64 0, .int .i64 0, .int .i64 0]) ?_ 4 _ rfl; (with_reducible repeat (first | refine YF ?_ _ | refine YG ?_ | refine YH ?_ _)); refine blk_put (cs := #[.int .i64 ((rd_T45 l0_1 x30_1).f0), .int .i64 ((rd_T45 l0_1 x30_1).f1), .bool ((rd_T45 l0_1 x30_1).f2.f0), .int .i64 0, .int .i64 0, .int .i64 0, .int .i64 0, .int .i64 0, .int .i64 0, .int .i64 0, .int .i64 0, .int .i64 0]) ?_ 3 _ rfl; (with_reducible repeat (first | refine YF ?_ _ | refine YG ?_ | refine YH ?_ _)); refine blk_put (cs := #[.int .i64 ((rd_T45 l0_1 x30_1).f0), .int .i64 ((rd_T45 l0_1 x30_1).f1), .bool false, .int .i64 0, .int .i64 0, .int .i64 0, .int .i64 0, .int .i64 0, .int .i64 0, .int .i64 0, .int .i64 0, .int .i64 0]) ?_ 2 _ rfl; (with_reducible repeat (first | refine YF ?_ _ | refine YG ?_ | refine YH ?_ _)); refine blk_put (cs := #[.int .i64 ((rd_T45 l0_1 x30_1).f0), .int .i64 0, .bool false, .int .i64 0, .int .i64 0, .int .i64 0, .int .i64 0, .int .i64 0, .int .i64 0, .int .i64 0, .int .i64 0, .int .i64 0]) ?_ 1 _ rfl; (with_reducible repeat (first | refine YF ?_ _ | refine YG ?_ | refine YH ?_ _)); refine blk_put (cs := #[.int .i64 0, .int .i64 0, .bool false, .int .i64 0, .int .i64 0, .int .i64 0, .int .i64 0, .int .i64 0, .int .i64 0, .int .i64 0, .int .i64 0, .int .i64 0]) ?_ 0 _ rfl; (with_reducible repeat (first | refine YF ?_ _ | refine YG ?_ | refine YH ?_ _)); exact BK226.out) hb); have n4_ := YL (YD (upB HB) hb); clear HO_5; clear BK220; clear BK226; clear HB; have HO_5 := n0_; have HO229 := n1_; have BK220 := n2_; have BK226 := n3_; have HB := n4_; clear n0_ n1_ n2_ n3_ n4_; (try clear hb); (try clear hb2); (try clear hk); (try clear hi); (try clear ho0)))
     go_ret2
     exact ⟨_, by first | rfl | (simp [errW_none, errW_some] <;> rfl) | (simp [*, errW_none, errW_some] <;> rfl), by first | exact Kd.R_nil _ _ _ _ _ | exact Kd.N_nil _ _ _ _ _ | exact Kd.V_nil _ _ _ _ _ | exact Kd.Q_nil _ _ _ _ _ | exact Kd.S_nil _ _ _ _ _, by repeat (first | (with_reducible first | exact HB.out | apply YA | apply YB | apply YC | refine below_set ?_ GE220.out | refine below_set ?_ GE226.out) | exact HB.out)⟩
    rw [if_neg c11] at H
    have c11b0 : decide (x30_1 < (l0_1.length : Int)) = false := decide_eq_false c11
    clear c11
    simp only [Option.some.injEq, Prod.mk.injEq] at H
    obtain ⟨rfl, rfl⟩ := H
    go_wp2
    go_ret2
    exact ⟨_, by first | rfl | (simp [errW_none, errW_some] <;> rfl) | (simp [*, errW_none, errW_some] <;> rfl), by (with_reducible repeat (first | apply YP | apply YQ | apply YR)); exact HO_5.out, by repeat (first | (with_reducible first | exact HB.out | apply YA | apply YB | apply YC | refine below_set ?_ GE220.out) | exact HB.out)⟩
 rw [if_neg c3] at H
 have c3b0 : (t221 == 0) = false := beq_eq_false_iff_ne.mpr c3
 have c3b1 : (t221 != 0) = true := bne_iff_ne.mpr c3
 simp only [Option.some.injEq, Prod.mk.injEq] at H
 obtain ⟨rfl, rfl⟩ := H
 go_enter Try.func9, Try.ntmps9
 go_wp2_with (first | ((with_reducible refine gate_dst (N := 1) rfl ?_); refine box_event ?hg (N := 1) ?hd (cs := #[.int .i64 a0_0, .slice A0_1 l0_1.length c0_1]) (t := 24) ?hr ?_; (case hd => rfl); (case hg => rfl); (case hr => first | (go_simp; done) | (go_simp; rfl)); intro gb220 hg w27 hbox hb; have n0_ := YL (YD (upB HB) hb); have n1_ := YL (hbox); have n2_ := YL ((by rw [hg]; exact (YE (upB HB)) : w.heap.size ≤ gb220)); have n3_ := YL ((by rw [hg]; exact (YE (upB HB)) : w.heap.size ≤ gb220)); clear HB; have HB := n0_; have BK220 := n1_; have GW220 := n2_; have GE220 := n3_; clear n0_ n1_ n2_ n3_; clear hb hbox hg; have q28_0 : w27.cell? ⟨gb220, 0, none⟩ = some (.int .i64 a0_0) := (YI BK220.out 0).trans rfl; have q28_1 : w27.cell? ⟨gb220, 1, none⟩ = some (.slice A0_1 l0_1.length c0_1) := (YI BK220.out 1).trans rfl; have f28_0 := YJ BK220.out 0; have f28_1 := YJ BK220.out 1) | ((with_reducible refine gate_callee (f := 12) rfl ?_); refine goesA (some 11) Try.func12 #[.agg #[.int .i64 a0_0, .slice A0_1 l0_1.length c0_1]] ?_; (with_reducible refine (batch_Check.calls k a0_0 _ _ l0_1 t221 _ ?side1 ?side2 A2.out).mono ?_); (case side1 => repeat (first | exact (Kd.C_below HR0_1.out HB.out) | (with_reducible refine Kd.C_alloc ?_ _) | (with_reducible refine Kd.C_drewN ?_ _) | (with_reducible refine Kd.C_drew ?_))); (case side2 => exact HC0_1.out); rintro e w29 ⟨rfl, hb⟩; refine ⟨_, rfl, ?_⟩; have n0_ := YL (YK (g := gb220) (o := .cells #[.int .i64 a0_0, .slice A0_1 l0_1.length c0_1] 24 (0, 0)) (upK BK220) hb); have n1_ := YL (YD (upB HB) hb); clear BK220; clear HB; have BK220 := n0_; have HB := n1_; clear n0_ n1_; (try clear hb); (try clear hb2); (try clear hk); (try clear hi)))
 go_ret2
 exact ⟨_, by first | rfl | (simp [errW_none, errW_some] <;> rfl) | (simp [*, errW_none, errW_some] <;> rfl), by first | exact Kd.R_nil _ _ _ _ _ | exact Kd.N_nil _ _ _ _ _ | exact Kd.V_nil _ _ _ _ _ | exact Kd.Q_nil _ _ _ _ _ | exact Kd.S_nil _ _ _ _ _, by repeat (first | (with_reducible first | exact HB.out | apply YA | apply YB | apply YC | refine below_set ?_ GE220.out) | exact HB.out)⟩
end Go.Proofs.Ytfigbjjaffkidaa.P
namespace Go.Proofs.Ytfigbjjaffkidaa.P
open Go.RowKit YtfigbjjaffkidaaW.PrintWords YtfigbjjaffkidaaW.PrintLast YtfigbjjaffkidaaW.PrintMore
open YtfigbjjaffkidaaW.PrintWords renaming below_alloc → YA, pw_below_drewN → YB, below_drew1 → YC
open YtfigbjjaffkidaaW.PrintWords.Aside0 renaming mk → YD
attribute [local go_sem] max2_int min2_int max_two min_two max_three min_three max_four min_four
def thalwegref01_Both.l0 : Nat → List (List Int) → List Int → Int → Option (List Int)
 | 0, _, _, _ => none
 | k + 1, x0, x3, x4 => if x4 < (x0.length : Int) then (if 0 ≤ x4 then (if x3.length + (rd_L7 x0 x4).length < 140737488355328 then (thalwegref01_Both.l0 k x0 (x3 ++ (rd_L7 x0 x4)) (wrap64 (x4 + 1))) else (none)) else (none)) else (some x3)
def thalwegref01_Both.f (k : Nat) (l0 : List (List Int)) : Option (List Int) := thalwegref01_Both.l0 k l0 ([] : List Int) 0
theorem thalwegref01_Both.calls (k : Nat) (A0 : Option Addr) (c0 : Nat) (l0 : List (List Int)) (r : List Int) (w : World) (hr0 : Kd.C (Kd.slice 5 (Kd.int .u8)) w A0 l0.length l0) (hc0 : l0.length ≤ c0) (h : thalwegref01_Both.f k l0 = some r) :
  Calls Try.prog 22 #[.slice A0 l0.length c0] w fun e w' => ∃ v0_ : Value, e = .returned (v0_) ∧ Kd.R (Kd.int .u8) 5 w' w.heap.size (fun _ => True) v0_ r ∧ Below w.heap.size w w' := by
 have HR0 := YD hr0; have HC0 := YD hc0; clear hr0 hc0
 have HB := YD (Below.refl w.heap.size w)
 have H : (thalwegref01_Both.l0 k l0 ([] : List Int) 0) = some r := h
 clear h
 have H' := YD H
 clear H
 go_enter Try.func22, Try.ntmps22
 go_wp2
 go_loopg [3, 4] k (fun kq v3 v4 w' => ∃ (x3_1 : List Int) (x4_1 : Int), v4 = .int .i64 x4_1 ∧ Aside0 (thalwegref01_Both.l0 kq l0 x3_1 x4_1 = some r) ∧ Aside0 (kq ≤ k) ∧ Aside0 (Kd.R (Kd.int .u8) 5 w' w.heap.size (fun _ => True) v3 x3_1) ∧ Aside0 (Below w.heap.size w w'))
 case atStart => exact ⟨(([] : List Int)), (0), (by first | rfl | (simp; done) | (simp [*]; done)), H', ⟨Nat.le_refl _⟩, ⟨by first | exact Kd.R_nil _ _ _ _ _ | exact Kd.N_nil _ _ _ _ _ | exact Kd.V_nil _ _ _ _ _ | exact Kd.Q_nil _ _ _ _ _ | exact Kd.S_nil _ _ _ _ _⟩, ⟨by repeat (first | (with_reducible first | exact HB.out | apply YA | apply YB | apply YC) | exact HB.out)⟩⟩
 case round =>
  clear H'
  obtain ⟨x3_1, x4_1, rfl, HA, HK1, HO_3, HB⟩ := hrel
  cases gk with
  | zero => exact absurd HA.out (by simp [thalwegref01_Both.l0])
  | succ k1 =>
   have H := HA.out
   clear HA
   simp only [thalwegref01_Both.l0] at H
   by_cases c2 : x4_1 < (l0.length : Int)
   ·rw [if_pos c2] at H
    have c2b0 : decide (x4_1 < (l0.length : Int)) = true := decide_eq_true c2
    clear c2
    by_cases c3 : 0 ≤ x4_1
    rotate_left
    ·rw [if_neg c3] at H
     exact absurd H (by simp)
    rw [if_pos c3] at H; have c3b0 : decide (0 ≤ x4_1) = true := decide_eq_true c3; clear c3
    by_cases c4 : x3_1.length + (rd_L7 l0 x4_1).length < 140737488355328
    rotate_left
    ·rw [if_neg c4] at H
     exact absurd H (by simp)
    rw [if_pos c4] at H; have LMc4 := YD c4; clear c4
    obtain ⟨y242, hy242⟩ : ∃ y_ : List Int, y_ = (x3_1 ++ (rd_L7 l0 x4_1)) := ⟨_, rfl⟩
    replace H : (thalwegref01_Both.l0 k1 l0 y242 (wrap64 (x4_1 + 1))) = some r := by first | (rw [hy242]; with_reducible exact H) | (have H2_ := (Option.bind_some _ _).symm.trans H; rw [hy242]; with_reducible exact H2_) | (have H2_ := (Option.bind_some _ _).symm.trans H; with_reducible exact H2_) | with_reducible exact H | (rw [hy242]; exact H) | exact H
    have Ny242 := YD hy242; clear hy242
    have H' := YD H
    clear H
    have p241 : 0 ≤ (x4_1 : Int) := of_decide_eq_true (by first | (with_reducible assumption) | assumption)
    have q241 : x4_1 < (l0.length : Int) := of_decide_eq_true (by first | (with_reducible assumption) | assumption)
    obtain ⟨ad241, A241_0, c241_0, e241, hx241_0, hl241_0, hi241_0⟩ := at_L7 HR0.out x4_1 p241 q241
    cases e241
    replace hx241_0 := (HB.out.cell (World.block_lt_of_cell? w _ hx241_0)).trans hx241_0
    have HR241_0 := YD hi241_0; have HC241_0 := YD hl241_0; clear hi241_0 hl241_0
    replace p241 := eq_true p241
    replace q241 := eq_true q241
    go_wp2_with (first | ((with_reducible refine gate_builtin (b := .append) (xs := #[.tmp 11, .tmp 15]) rfl ?_); at_builtin; refine Kd.R_append_rows (Kd.int .u8) (w0 := w) w.heap.size rfl (.tmp 11) (.tmp 15) 26 5 (.int .u8 0) 1 rfl Try.underlying26 info5 rfl (by decide) (by omega) u3 x3_1 (rd_L7 l0 x4_1) _ _ _ (fun _ => True) (fun _ => False) rfl rfl ?aO ?aR (fun _ _ h => h) (fun _ h => h.elim) ?aF ?aB ?aS ?aL ?_; (case aR => repeat (first | exact (Kd.C_below HR241_0.out HB.out) | (with_reducible refine Kd.C_alloc ?_ _) | (with_reducible refine Kd.C_drewN ?_ _) | (with_reducible refine Kd.C_drew ?_))); (case aB => exact (upB HB)); (case aF => exact (fun _ _ => trivial)); (case aO => exact (upR HO_3)); (case aS => exact (below_size (upB HB))); (case aL => have := LMc4.out; omega); intro v243 w5 ho hb hg hat; rw [← Ny242.out] at ho; have n0_ := YD (hb); have n1_ := YD (ho); clear HB; clear HO_3; have HB := n0_; have HO244 := n1_; clear n0_ n1_; clear ho hb hg hat))
    go_roundg k1
    case measure => have := HK1.out; omega
    case rel => exact ⟨(y242), (wrap64 (x4_1 + 1)), (by first | rfl | (simp; done) | (simp [*]; done)), H', ⟨by have := HK1.out; omega⟩, ⟨by (with_reducible repeat (first | apply Kd.R_alloc | apply Kd.R_drewN | apply Kd.R_drew)); exact HO244.out⟩, ⟨by repeat (first | (with_reducible first | exact HB.out | apply YA | apply YB | apply YC) | exact HB.out)⟩⟩
   rw [if_neg c2] at H
   have c2b0 : decide (x4_1 < (l0.length : Int)) = false := decide_eq_false c2
   clear c2
   obtain rfl := Option.some.inj H
   go_wp2
   go_ret
   exact ⟨_, by first | rfl | (simp [errW_none, errW_some] <;> rfl) | (simp [*, errW_none, errW_some] <;> rfl), by (with_reducible repeat (first | apply Kd.R_alloc | apply Kd.R_drewN | apply Kd.R_drew)); exact HO_3.out, by repeat (first | (with_reducible first | exact HB.out | apply YA | apply YB | apply YC) | exact HB.out)⟩
end Go.Proofs.Ytfigbjjaffkidaa.P
namespace Go.Proofs.Ytfigbjjaffkidaa.P
open Go.RowKit YtfigbjjaffkidaaW.PrintWords YtfigbjjaffkidaaW.PrintLast YtfigbjjaffkidaaW.PrintMore
open YtfigbjjaffkidaaW.PrintWords renaming below_alloc → YA, pw_below_drewN → YB, below_drew1 → YC, blk_cell → YD, blk_frozen → YE
open YtfigbjjaffkidaaW.PrintWords.Aside0 renaming mk → YF
attribute [local go_sem] max2_int min2_int max_two min_two max_three min_three max_four min_four
attribute [local go_sem high] eqA41
def thalwegref02_Right.j0 : Nat → Bool → Bool → Int → Int → Int → Int → Int → Option (Bool)
 | 0, _, _, _, _, _, _, _ => none
 | k + 1, x10, x235000, x235001, x235002, x235003, x235004, x235005 => if x10 = true then (some false) else (if x235000 = true then (some (x235001 == 0 && (x235002 == 0 && (x235003 == 0 && (x235004 == 0))))) else (if x235001 ≥ 0 then (if x235001 ≤ 4611686018427387903 then (if x235002 ≥ 0 then (if x235002 < 64 then (if x235003 = 0 then (if x235004 ≥ (-1099511627776) then (some (decide (x235004 ≤ 1099511627776))) else (some false)) else (if x235003 = 1 then (if x235004 ≥ (-1099511627776) then (some (decide (x235004 ≤ 1099511627776))) else (some false)) else (some false))) else (some false)) else (some false)) else (some false)) else (some false)))
def thalwegref02_Right.f (k : Nat) (a0_0 : Bool) (a0_1 : Int) (a0_2 : Int) (a0_3 : Int) (a0_4 : Int) (a0_5 : Int) : Option (Bool) := if a0_5 < 0 then (thalwegref02_Right.j0 k true a0_0 a0_1 a0_2 a0_3 a0_4 a0_5) else (thalwegref02_Right.j0 k (decide (a0_5 ≥ 64)) a0_0 a0_1 a0_2 a0_3 a0_4 a0_5)
end Go.Proofs.Ytfigbjjaffkidaa.P
