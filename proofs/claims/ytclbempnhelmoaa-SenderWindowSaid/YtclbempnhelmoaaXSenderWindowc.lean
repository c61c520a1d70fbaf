/- Walks. -/
import Derived.Test.YtclbempnhelmoaaXSenderWindowa
import Derived.Test.YtclbempnhelmoaaXSenderWindowb
set_option linter.unusedVariables false
set_option linter.unusedSimpArgs false
set_option maxHeartbeats 8000000
set_option maxRecDepth 100000
namespace Go.Proofs.Ytclbempnhelmoaa.P
open Go.RowKit YtclbempnhelmoaaW.PrintWords YtclbempnhelmoaaW.PrintLast YtclbempnhelmoaaW.PrintMore
open YtclbempnhelmoaaW.PrintWords renaming below_alloc → YA, pw_below_drewN → YB, below_drew1 → YC, below_step → YD, below_size → YE, blk_drewN → YF, blk_drew → YG, blk_alloc → YH, blk_cell → YI, blk_frozen → YJ, blk_below → YK
open YtclbempnhelmoaaW.PrintWords.Aside0 renaming mk → YL
open List renaming setIfInBounds_toArray → YM, set_cons_zero → YN, set_cons_succ → YO, map_toArray → YP, length_take → YQ, length_drop → YR
open YtclbempnhelmoaaW.PrintWords.Kd renaming R_alloc → YS, R_drewN → YT, R_drew → YU
attribute [local go_sem] max2_int min2_int max_two min_two max_three min_three max_four min_four
def height_Bytes.f (k : Nat) (a0_0 : Bool) (a0_1 : Int) (a0_2 : Int) (a0_3 : Int) (a0_4 : Int) (a0_5 : Int) : Option (List Int × Int) := (height_Check.f k a0_0 a0_1 a0_2 a0_3 a0_4 a0_5).bind fun t156 => (if t156 = 0 then (if a0_0 = true then (if ([] : List Int).length < 140737488355328 then ((some (([] : List Int) ++ [0] : List Int)).bind fun y157 => (if y157.length < 140737488355328 then (some ((y157 ++ [(a0_5) % 256]), 0)) else (none))) else (none)) else (if ([] : List Int).length < 140737488355328 then ((some (([] : List Int) ++ [1] : List Int)).bind fun y163 => ((wire_Int.f a0_1).bind fun t166 => (if y163.length + t166.length < 140737488355328 then ((some (y163 ++ t166 : List Int)).bind fun y169 => ((some (([(a0_2) % 256, (a0_3) % 256] : List Int) : List Int)).bind fun y172 => (if y169.length + y172.length < 140737488355328 then ((some (y169 ++ y172 : List Int)).bind fun y175 => ((wire_Int.f a0_4).bind fun t178 => (if y175.length + t178.length < 140737488355328 then ((some (y175 ++ t178 : List Int)).bind fun y181 => (if y181.length < 140737488355328 then (some ((y181 ++ [(a0_5) % 256]), 0)) else (none))) else (none)))) else (none)))) else (none)))) else (none))) else (some (([] : List Int), t156)))
theorem height_Bytes.mono : ∀ a0 a1 a2 a3 a4 a5 k, LeO (height_Bytes.f k a0 a1 a2 a3 a4 a5) (height_Bytes.f (k + 1) a0 a1 a2 a3 a4 a5) := by
 intro a0 a1 a2 a3 a4 a5 k
 unfold height_Bytes.f
 repeat' first
   | (with_reducible exact height_Check.mono _ _ _ _ _ _ _)
   | (with_reducible exact LeO.refl _)
   | (with_reducible exact LeO.none _)
   | (with_reducible refine LeO.ite ?_ ?_)
   | (with_reducible refine LeO.bind ?_ (fun _ => ?_))
   | exact height_Check.mono _ _ _ _ _ _ _
   | exact LeO.none _
   | refine LeO.ite ?_ ?_
   | refine LeO.bind ?_ (fun _ => ?_)
def height_Bytes.T7 : Bool × List (List Nat × List Nat) := (true, [([], []), ([], []), ([0, 1], [0, 1]), ([], []), ([3], [3]), ([4, 2], [4]), ([2, 5, 5], [2, 5]), ([6, 6, 0, 1, 2, 3, 4, 5, 6], [0, 6])])
def height_Bytes.B7 : List Nat := [0, 0, 3, 0, 8, 31, 63, 127]
theorem height_Bytes.tab7 : rtab .any (opsOf Try.f69 7) = height_Bytes.T7 := by kernel_rfl
theorem height_Bytes.bits7 : waitsOk height_Bytes.T7.2 height_Bytes.B7 = true := by kernel_rfl
def height_Bytes.T8 : Bool × List (List Nat × List Nat) := (true, [([], []), ([], []), ([1], [1]), ([2], [2]), ([], []), ([4], [4]), ([5], [5]), ([3, 6], [3, 6]), ([0, 7], [0, 7]), ([], []), ([9], [9]), ([10, 8], [10]), ([8, 11, 11], [8, 11]), ([12, 12, 0, 1, 2, 3, 4, 5, 6, 7, 8, 9, 10, 11, 12], [0, 12])])
def height_Bytes.B8 : List Nat := [0, 0, 2, 6, 0, 16, 48, 126, 255, 0, 512, 2047, 4095, 8191]
theorem height_Bytes.tab8 : rtab .any (opsOf Try.f69 8) = height_Bytes.T8 := by kernel_rfl
theorem height_Bytes.bits8 : waitsOk height_Bytes.T8.2 height_Bytes.B8 = true := by kernel_rfl
theorem height_Bytes.calls (k : Nat) (a0_0 : Bool) (a0_1 : Int) (a0_2 : Int) (a0_3 : Int) (a0_4 : Int) (a0_5 : Int) (r1 : List Int) (r2 : Int) (w : World) (h : height_Bytes.f k a0_0 a0_1 a0_2 a0_3 a0_4 a0_5 = some (r1, r2)) :
  Calls Try.prog 69 #[.agg #[.bool a0_0, .int .i64 a0_1, .int .i64 a0_2, .int .i64 a0_3, .int .i64 a0_4, .int .i64 a0_5]] w fun e w' => ∃ v0_ : Value, e = .returned (.tuple #[v0_, .int .i64 r2]) ∧ Kd.R (Kd.int .u8) 5 w' w.heap.size (fun _ => True) v0_ r1 ∧ Below w.heap.size w w' := by
 have hu30 := Try.underlying30
 have HB := YL (Below.refl w.heap.size w)
 have H : ((height_Check.f k a0_0 a0_1 a0_2 a0_3 a0_4 a0_5).bind fun t156 => (if t156 = 0 then (if a0_0 = true then (if ([] : List Int).length < 140737488355328 then ((some (([] : List Int) ++ [0] : List Int)).bind fun y157 => (if y157.length < 140737488355328 then (some ((y157 ++ [(a0_5) % 256]), 0)) else (none))) else (none)) else (if ([] : List Int).length < 140737488355328 then ((some (([] : List Int) ++ [1] : List Int)).bind fun y163 => ((wire_Int.f a0_1).bind fun t166 => (if y163.length + t166.length < 140737488355328 then ((some (y163 ++ t166 : List Int)).bind fun y169 => ((some (([(a0_2) % 256, (a0_3) % 256] : List Int) : List Int)).bind fun y172 => (if y169.length + y172.length < 140737488355328 then ((some (y169 ++ y172 : List Int)).bind fun y175 => ((wire_Int.f a0_4).bind fun t178 => (if y175.length + t178.length < 140737488355328 then ((some (y175 ++ t178 : List Int)).bind fun y181 => (if y181.length < 140737488355328 then (some ((y181 ++ [(a0_5) % 256]), 0)) else (none))) else (none)))) else (none)))) else (none)))) else (none))) else (some (([] : List Int), t156)))) = some (r1, r2) := h
 clear h; replace H := Option.bind_eq_some_iff.mp H; obtain ⟨t156, A20, H⟩ := H
 replace H : (if t156 = 0 then (if a0_0 = true then (if ([] : List Int).length < 140737488355328 then ((some (([] : List Int) ++ [0] : List Int)).bind fun y157 => (if y157.length < 140737488355328 then (some ((y157 ++ [(a0_5) % 256]), 0)) else (none))) else (none)) else (if ([] : List Int).length < 140737488355328 then ((some (([] : List Int) ++ [1] : List Int)).bind fun y163 => ((wire_Int.f a0_1).bind fun t166 => (if y163.length + t166.length < 140737488355328 then ((some (y163 ++ t166 : List Int)).bind fun y169 => ((some (([(a0_2) % 256, (a0_3) % 256] : List Int) : List Int)).bind fun y172 => (if y169.length + y172.length < 140737488355328 then ((some (y169 ++ y172 : List Int)).bind fun y175 => ((wire_Int.f a0_4).bind fun t178 => (if y175.length + t178.length < 140737488355328 then ((some (y175 ++ t178 : List Int)).bind fun y181 => (if y181.length < 140737488355328 then (some ((y181 ++ [(a0_5) % 256]), 0)) else (none))) else (none)))) else (none)))) else (none)))) else (none))) else (some (([] : List Int), t156))) = some (r1, r2) := H
 have A2 := YL A20; clear A20
 by_cases c3 : t156 = 0
 ·rw [if_pos c3] at H
  have c3b0 : (t156 == 0) = true := beq_iff_eq.mpr c3
  have c3b1 : (t156 != 0) = false := bne_eq_false_iff_eq.mpr c3
  clear c3
  by_cases c4 : a0_0 = true
  ·subst c4
   have H1 : (if ([] : List Int).length < 140737488355328 then ((some (([] : List Int) ++ [0] : List Int)).bind fun y157 => (if y157.length < 140737488355328 then (some ((y157 ++ [(a0_5) % 256]), 0)) else (none))) else (none)) = some (r1, r2) := by rw [if_pos rfl] at H; exact H
   clear H
   have H := H1
   clear H1
   by_cases c5 : ([] : List Int).length < 140737488355328
   rotate_left
   ·rw [if_neg c5] at H
    exact absurd H (by simp)
   rw [if_pos c5] at H; have LMc5 := YL c5; clear c5
   obtain ⟨y157, hy157⟩ : ∃ y_ : List Int, y_ = (([] : List Int) ++ [0]) := ⟨_, rfl⟩
   replace H : (if y157.length < 140737488355328 then (some ((y157 ++ [(a0_5) % 256]), 0)) else (none)) = some (r1, r2) := by first | (rw [hy157]; with_reducible exact H) | (have H2_ := (Option.bind_some _ _).symm.trans H; rw [hy157]; with_reducible exact H2_) | (have H2_ := (Option.bind_some _ _).symm.trans H; with_reducible exact H2_) | with_reducible exact H | (rw [hy157]; exact H) | exact H
   have Ny157 := YL hy157; clear hy157
   by_cases c6 : y157.length < 140737488355328
   rotate_left
   ·rw [if_neg c6] at H
    exact absurd H (by simp)
   rw [if_pos c6] at H; have LMc6 := YL c6; clear c6
   obtain ⟨y160, hy160⟩ : ∃ y_ : List Int, y_ = (y157 ++ [(a0_5) % 256]) := ⟨_, rfl⟩
   replace H : (some (y160, 0)) = some (r1, r2) := by first | (rw [hy160]; with_reducible exact H) | (have H2_ := (Option.bind_some _ _).symm.trans H; rw [hy160]; with_reducible exact H2_) | (have H2_ := (Option.bind_some _ _).symm.trans H; with_reducible exact H2_) | with_reducible exact H | (rw [hy160]; exact H) | exact H
   have Ny160 := YL hy160; clear hy160
   simp only [Option.some.injEq, Prod.mk.injEq] at H
   obtain ⟨rfl, rfl⟩ := H
   go_enter Try.func69, Try.ntmps69
   go_wp2_with (first | ((with_reducible refine gate_dst (N := 1) rfl ?_); refine box_event ?hg (N := 1) ?hd (cs := #[.bool true, .int .i64 a0_1, .int .i64 a0_2, .int .i64 a0_3, .int .i64 a0_4, .int .i64 a0_5]) (t := 30) ?hr ?_; (case hd => rfl); (case hg => rfl); (case hr => first | (go_simp; done) | (go_simp; rfl)); intro gb155 hg w7 hbox hb; have n0_ := YL (YD (by repeat (first | (with_reducible first | exact HB.out | apply YA | apply YB | apply YC) | exact HB.out)) hb); have n1_ := YL (hbox); have n2_ := YL ((by rw [hg]; exact (YE (by repeat (first | (with_reducible first | exact HB.out | apply YA | apply YB | apply YC) | exact HB.out))) : w.heap.size ≤ gb155)); have n3_ := YL ((by rw [hg]; exact (YE (by repeat (first | (with_reducible first | exact HB.out | apply YA | apply YB | apply YC) | exact HB.out))) : w.heap.size ≤ gb155)); clear HB; have HB := n0_; have BK155 := n1_; have GW155 := n2_; have GE155 := n3_; clear n0_ n1_ n2_ n3_; clear hb hbox hg; have q8_0 : w7.cell? ⟨gb155, 0, none⟩ = some (.bool true) := (YI BK155.out 0).trans rfl; have q8_1 : w7.cell? ⟨gb155, 1, none⟩ = some (.int .i64 a0_1) := (YI BK155.out 1).trans rfl; have q8_2 : w7.cell? ⟨gb155, 2, none⟩ = some (.int .i64 a0_2) := (YI BK155.out 2).trans rfl; have q8_3 : w7.cell? ⟨gb155, 3, none⟩ = some (.int .i64 a0_3) := (YI BK155.out 3).trans rfl; have q8_4 : w7.cell? ⟨gb155, 4, none⟩ = some (.int .i64 a0_4) := (YI BK155.out 4).trans rfl; have q8_5 : w7.cell? ⟨gb155, 5, none⟩ = some (.int .i64 a0_5) := (YI BK155.out 5).trans rfl; have f8_0 := YJ BK155.out 0; have f8_1 := YJ BK155.out 1; have f8_2 := YJ BK155.out 2; have f8_3 := YJ BK155.out 3; have f8_4 := YJ BK155.out 4; have f8_5 := YJ BK155.out 5) | ((with_reducible refine gate_callee (f := 48) rfl ?_); refine goesL_ (some 7) rfl rfl Try.func48 (by kernel_rfl) rfl #[.agg #[.bool true, .int .i64 a0_1, .int .i64 a0_2, .int .i64 a0_3, .int .i64 a0_4, .int .i64 a0_5]] rfl (by (try simp only [YP, List.map_cons, List.map_nil]); first | done | rfl | (simp only [YR, YQ]; rfl)) ?_; (with_reducible refine (height_Check.calls k true a0_1 a0_2 a0_3 a0_4 a0_5 t156 _ A2.out).mono ?_); rintro e w9 ⟨rfl, hb⟩; refine ⟨_, rfl, ?_⟩; have n0_ := YL (YK (g := gb155) (o := .cells #[.bool true, .int .i64 a0_1, .int .i64 a0_2, .int .i64 a0_3, .int .i64 a0_4, .int .i64 a0_5] 30 (0, 0)) (by (with_reducible repeat (first | refine YF ?_ _ | refine YG ?_ | refine YH ?_ _)); exact BK155.out) hb); have n1_ := YL (YD (by repeat (first | (with_reducible first | exact HB.out | apply YA | apply YB | apply YC | refine below_set ?_ GE155.out) | exact HB.out)) hb); clear BK155; clear HB; have BK155 := n0_; have HB := n1_; clear n0_ n1_; (try clear hb); (try clear hb2); (try clear hk); (try clear hi); have q10_0 : w9.cell? ⟨gb155, 0, none⟩ = some (.bool true) := (YI BK155.out 0).trans rfl; have q10_1 : w9.cell? ⟨gb155, 1, none⟩ = some (.int .i64 a0_1) := (YI BK155.out 1).trans rfl; have q10_2 : w9.cell? ⟨gb155, 2, none⟩ = some (.int .i64 a0_2) := (YI BK155.out 2).trans rfl; have q10_3 : w9.cell? ⟨gb155, 3, none⟩ = some (.int .i64 a0_3) := (YI BK155.out 3).trans rfl; have q10_4 : w9.cell? ⟨gb155, 4, none⟩ = some (.int .i64 a0_4) := (YI BK155.out 4).trans rfl; have q10_5 : w9.cell? ⟨gb155, 5, none⟩ = some (.int .i64 a0_5) := (YI BK155.out 5).trans rfl; have f10_0 := YJ BK155.out 0; have f10_1 := YJ BK155.out 1; have f10_2 := YJ BK155.out 2; have f10_3 := YJ BK155.out 3; have f10_4 := YJ BK155.out 4; have f10_5 := YJ BK155.out 5) | ((with_reducible refine gate_builtin (b := .append) (xs := #[.tmp 13, .tmp 14]) rfl ?_); at_builtin; refine Kd.R_append (Kd.int .u8) (w0 := w) w.heap.size rfl (.tmp 13) (.tmp 14) 107 5 (.int .u8 0) 1 rfl Try.underlying107 info5 rfl (by decide) (by omega) (.slice none 0 0) ([] : List Int) 0 [.int .u8 0] (fun _ => True) (fun _ => False) rfl rfl ?aP (fun _ hk => hk.elim) ?aF ?aO ?aB ?aS ?aL ?_; (case aP => exact rfl); (case aB => exact (by repeat (first | (with_reducible first | exact HB.out | apply YA | apply YB | apply YC | refine below_set ?_ GE155.out) | exact HB.out))); (case aF => exact (fun _ _ => trivial)); (case aO => exact ((Kd.R_nil _ _ _ _ (fun _ => True)))); (case aS => exact (YE (by repeat (first | (with_reducible first | exact HB.out | apply YA | apply YB | apply YC | refine below_set ?_ GE155.out) | exact HB.out)))); (case aL => have := LMc5.out; omega); intro v158 w11 ho hb hg hat; rw [← Ny157.out] at ho; have n0_ := YL (blk_grown (g := gb155) (o := .cells #[.bool true, .int .i64 a0_1, .int .i64 a0_2, .int .i64 a0_3, .int .i64 a0_4, .int .i64 a0_5] 30 (0, 0)) (by (with_reducible repeat (first | refine YF ?_ _ | refine YG ?_ | refine YH ?_ _)); exact BK155.out) hg (by simp [Value.ownBlock])); have n1_ := YL (hb); have n2_ := YL (ho); clear BK155; clear HB; have BK155 := n0_; have HB := n1_; have HO159 := n2_; clear n0_ n1_ n2_; clear ho hb hg hat; have q12_0 : w11.cell? ⟨gb155, 0, none⟩ = some (.bool true) := (YI BK155.out 0).trans rfl; have q12_1 : w11.cell? ⟨gb155, 1, none⟩ = some (.int .i64 a0_1) := (YI BK155.out 1).trans rfl; have q12_2 : w11.cell? ⟨gb155, 2, none⟩ = some (.int .i64 a0_2) := (YI BK155.out 2).trans rfl; have q12_3 : w11.cell? ⟨gb155, 3, none⟩ = some (.int .i64 a0_3) := (YI BK155.out 3).trans rfl; have q12_4 : w11.cell? ⟨gb155, 4, none⟩ = some (.int .i64 a0_4) := (YI BK155.out 4).trans rfl; have q12_5 : w11.cell? ⟨gb155, 5, none⟩ = some (.int .i64 a0_5) := (YI BK155.out 5).trans rfl; have f12_0 := YJ BK155.out 0; have f12_1 := YJ BK155.out 1; have f12_2 := YJ BK155.out 2; have f12_3 := YJ BK155.out 3; have f12_4 := YJ BK155.out 4; have f12_5 := YJ BK155.out 5) | ((with_reducible refine gate_builtin (b := .append) (xs := #[.tmp 36, .tmp 40]) rfl ?_); at_builtin; refine Kd.R_append (Kd.int .u8) (w0 := w) w.heap.size rfl (.tmp 36) (.tmp 40) 107 5 (.int .u8 0) 1 rfl Try.underlying107 info5 rfl (by decide) (by omega) v158 y157 ((a0_5) % 256) [.int .u8 ((a0_5) % 256)] (fun _ => True) (fun _ => False) rfl rfl ?aP (fun _ hk => hk.elim) ?aF ?aO ?aB ?aS ?aL ?_; (case aP => exact rfl); (case aB => exact (by repeat (first | (with_reducible first | exact HB.out | apply YA | apply YB | apply YC | refine below_set ?_ GE155.out) | exact HB.out))); (case aF => exact (fun _ _ => trivial)); (case aO => exact (by (with_reducible repeat (first | apply YS | apply YT | apply YU)); exact HO159.out)); (case aS => exact (YE (by repeat (first | (with_reducible first | exact HB.out | apply YA | apply YB | apply YC | refine below_set ?_ GE155.out) | exact HB.out)))); (case aL => have := LMc6.out; omega); intro v161 w13 ho hb hg hat; rw [← Ny160.out] at ho; have n0_ := YL (blk_grown (g := gb155) (o := .cells #[.bool true, .int .i64 a0_1, .int .i64 a0_2, .int .i64 a0_3, .int .i64 a0_4, .int .i64 a0_5] 30 (0, 0)) (by (with_reducible repeat (first | refine YF ?_ _ | refine YG ?_ | refine YH ?_ _)); exact BK155.out) hg (Kd.R_ne HO159.out BK155.out (by decide))); have n1_ := YL (hb); have n2_ := YL (ho); clear BK155; clear HB; clear HO159; have BK155 := n0_; have HB := n1_; have HO162 := n2_; clear n0_ n1_ n2_; clear ho hb hg hat))
   go_ret2
   exact ⟨_, by first | rfl | (simp [errW_none, errW_some] <;> rfl) | (simp [*, errW_none, errW_some] <;> rfl), by (with_reducible repeat (first | apply YS | apply YT | apply YU)); exact HO162.out, by repeat (first | (with_reducible first | exact HB.out | apply YA | apply YB | apply YC | refine below_set ?_ GE155.out) | exact HB.out)⟩
  replace c4 := Bool.eq_false_iff.mpr c4
  subst c4
  have H1 : (if ([] : List Int).length < 140737488355328 then ((some (([] : List Int) ++ [1] : List Int)).bind fun y163 => ((wire_Int.f a0_1).bind fun t166 => (if y163.length + t166.length < 140737488355328 then ((some (y163 ++ t166 : List Int)).bind fun y169 => ((some (([(a0_2) % 256, (a0_3) % 256] : List Int) : List Int)).bind fun y172 => (if y169.length + y172.length < 140737488355328 then ((some (y169 ++ y172 : List Int)).bind fun y175 => ((wire_Int.f a0_4).bind fun t178 => (if y175.length + t178.length < 140737488355328 then ((some (y175 ++ t178 : List Int)).bind fun y181 => (if y181.length < 140737488355328 then (some ((y181 ++ [(a0_5) % 256]), 0)) else (none))) else (none)))) else (none)))) else (none)))) else (none)) = some (r1, r2) := by rw [if_neg (show ¬ (false = true) by decide)] at H; exact H
  clear H
  have H := H1
  clear H1
  by_cases c14 : ([] : List Int).length < 140737488355328
  rotate_left
  ·rw [if_neg c14] at H
   exact absurd H (by simp)
  rw [if_pos c14] at H; have LMc14 := YL c14; clear c14
  obtain ⟨y163, hy163⟩ : ∃ y_ : List Int, y_ = (([] : List Int) ++ [1]) := ⟨_, rfl⟩
  replace H : ((wire_Int.f a0_1).bind fun t166 => (if y163.length + t166.length < 140737488355328 then ((some (y163 ++ t166 : List Int)).bind fun y169 => ((some (([(a0_2) % 256, (a0_3) % 256] : List Int) : List Int)).bind fun y172 => (if y169.length + y172.length < 140737488355328 then ((some (y169 ++ y172 : List Int)).bind fun y175 => ((wire_Int.f a0_4).bind fun t178 => (if y175.length + t178.length < 140737488355328 then ((some (y175 ++ t178 : List Int)).bind fun y181 => (if y181.length < 140737488355328 then (some ((y181 ++ [(a0_5) % 256]), 0)) else (none))) else (none)))) else (none)))) else (none))) = some (r1, r2) := by first | (rw [hy163]; with_reducible exact H) | (have H2_ := (Option.bind_some _ _).symm.trans H; rw [hy163]; with_reducible exact H2_) | (have H2_ := (Option.bind_some _ _).symm.trans H; with_reducible exact H2_) | with_reducible exact H | (rw [hy163]; exact H) | exact H
  have Ny163 := YL hy163; clear hy163; replace H := Option.bind_eq_some_iff.mp H; obtain ⟨t166, A150, H⟩ := H
  replace H : (if y163.length + t166.length < 140737488355328 then ((some (y163 ++ t166 : List Int)).bind fun y169 => ((some (([(a0_2) % 256, (a0_3) % 256] : List Int) : List Int)).bind fun y172 => (if y169.length + y172.length < 140737488355328 then ((some (y169 ++ y172 : List Int)).bind fun y175 => ((wire_Int.f a0_4).bind fun t178 => (if y175.length + t178.length < 140737488355328 then ((some (y175 ++ t178 : List Int)).bind fun y181 => (if y181.length < 140737488355328 then (some ((y181 ++ [(a0_5) % 256]), 0)) else (none))) else (none)))) else (none)))) else (none)) = some (r1, r2) := H
  have A15 := YL A150; clear A150
  by_cases c16 : y163.length + t166.length < 140737488355328
  rotate_left
  ·rw [if_neg c16] at H
   exact absurd H (by simp)
  rw [if_pos c16] at H; have LMc16 := YL c16; clear c16
  obtain ⟨y169, hy169⟩ : ∃ y_ : List Int, y_ = (y163 ++ t166) := ⟨_, rfl⟩
  replace H : ((some (([(a0_2) % 256, (a0_3) % 256] : List Int) : List Int)).bind fun y172 => (if y169.length + y172.length < 140737488355328 then ((some (y169 ++ y172 : List Int)).bind fun y175 => ((wire_Int.f a0_4).bind fun t178 => (if y175.length + t178.length < 140737488355328 then ((some (y175 ++ t178 : List Int)).bind fun y181 => (if y181.length < 140737488355328 then (some ((y181 ++ [(a0_5) % 256]), 0)) else (none))) else (none)))) else (none))) = some (r1, r2) := by first | (rw [hy169]; with_reducible exact H) | (have H2_ := (Option.bind_some _ _).symm.trans H; rw [hy169]; with_reducible exact H2_) | (have H2_ := (Option.bind_some _ _).symm.trans H; with_reducible exact H2_) | with_reducible exact H | (rw [hy169]; exact H) | exact H
  have Ny169 := YL hy169; clear hy169
  obtain ⟨y172, hy172⟩ : ∃ y_ : List Int, y_ = (([(a0_2) % 256, (a0_3) % 256] : List Int)) := ⟨_, rfl⟩
  replace H : (if y169.length + y172.length < 140737488355328 then ((some (y169 ++ y172 : List Int)).bind fun y175 => ((wire_Int.f a0_4).bind fun t178 => (if y175.length + t178.length < 140737488355328 then ((some (y175 ++ t178 : List Int)).bind fun y181 => (if y181.length < 140737488355328 then (some ((y181 ++ [(a0_5) % 256]), 0)) else (none))) else (none)))) else (none)) = some (r1, r2) := by first | (rw [hy172]; with_reducible exact H) | (have H2_ := (Option.bind_some _ _).symm.trans H; rw [hy172]; with_reducible exact H2_) | (have H2_ := (Option.bind_some _ _).symm.trans H; with_reducible exact H2_) | with_reducible exact H | (rw [hy172]; exact H) | exact H
  have Ny172 := YL hy172; clear hy172
  by_cases c17 : y169.length + y172.length < 140737488355328
  rotate_left
  ·rw [if_neg c17] at H
   exact absurd H (by simp)
  rw [if_pos c17] at H; have LMc17 := YL c17; clear c17
  obtain ⟨y175, hy175⟩ : ∃ y_ : List Int, y_ = (y169 ++ y172) := ⟨_, rfl⟩
  replace H : ((wire_Int.f a0_4).bind fun t178 => (if y175.length + t178.length < 140737488355328 then ((some (y175 ++ t178 : List Int)).bind fun y181 => (if y181.length < 140737488355328 then (some ((y181 ++ [(a0_5) % 256]), 0)) else (none))) else (none))) = some (r1, r2) := by first | (rw [hy175]; with_reducible exact H) | (have H2_ := (Option.bind_some _ _).symm.trans H; rw [hy175]; with_reducible exact H2_) | (have H2_ := (Option.bind_some _ _).symm.trans H; with_reducible exact H2_) | with_reducible exact H | (rw [hy175]; exact H) | exact H
  have Ny175 := YL hy175; clear hy175; replace H := Option.bind_eq_some_iff.mp H; obtain ⟨t178, A180, H⟩ := H
  replace H : (if y175.length + t178.length < 140737488355328 then ((some (y175 ++ t178 : List Int)).bind fun y181 => (if y181.length < 140737488355328 then (some ((y181 ++ [(a0_5) % 256]), 0)) else (none))) else (none)) = some (r1, r2) := H
  have A18 := YL A180; clear A180
  by_cases c19 : y175.length + t178.length < 140737488355328
  rotate_left
  ·rw [if_neg c19] at H
   exact absurd H (by simp)
  rw [if_pos c19] at H; have LMc19 := YL c19; clear c19
  obtain ⟨y181, hy181⟩ : ∃ y_ : List Int, y_ = (y175 ++ t178) := ⟨_, rfl⟩
  replace H : (if y181.length < 140737488355328 then (some ((y181 ++ [(a0_5) % 256]), 0)) else (none)) = some (r1, r2) := by first | (rw [hy181]; with_reducible exact H) | (have H2_ := (Option.bind_some _ _).symm.trans H; rw [hy181]; with_reducible exact H2_) | (have H2_ := (Option.bind_some _ _).symm.trans H; with_reducible exact H2_) | with_reducible exact H | (rw [hy181]; exact H) | exact H
  have Ny181 := YL hy181; clear hy181
  by_cases c20 : y181.length < 140737488355328
  rotate_left
  ·rw [if_neg c20] at H
   exact absurd H (by simp)
  rw [if_pos c20] at H; have LMc20 := YL c20; clear c20
  obtain ⟨y184, hy184⟩ : ∃ y_ : List Int, y_ = (y181 ++ [(a0_5) % 256]) := ⟨_, rfl⟩
  replace H : (some (y184, 0)) = some (r1, r2) := by first | (rw [hy184]; with_reducible exact H) | (have H2_ := (Option.bind_some _ _).symm.trans H; rw [hy184]; with_reducible exact H2_) | (have H2_ := (Option.bind_some _ _).symm.trans H; with_reducible exact H2_) | with_reducible exact H | (rw [hy184]; exact H) | exact H
  have Ny184 := YL hy184; clear hy184
  simp only [Option.some.injEq, Prod.mk.injEq] at H
  obtain ⟨rfl, rfl⟩ := H
  go_enter Try.func69, Try.ntmps69
  try go_wp2_with (first | ((with_reducible refine gate_dst (N := 1) rfl ?_); refine box_event ?hg (N := 1) ?hd (cs := #[.bool false, .int .i64 a0_1, .int .i64 a0_2, .int .i64 a0_3, .int .i64 a0_4, .int .i64 a0_5]) (t := 30) ?hr ?_; (case hd => rfl); (case hg => rfl); (case hr => first | (go_simp; done) | (go_simp; rfl)); intro gb155 hg w21 hbox hb; have n0_ := YL (YD (by repeat (first | (with_reducible first | exact HB.out | apply YA | apply YB | apply YC) | exact HB.out)) hb); have n1_ := YL (hbox); have n2_ := YL ((by rw [hg]; exact (YE (by repeat (first | (with_reducible first | exact HB.out | apply YA | apply YB | apply YC) | exact HB.out))) : w.heap.size ≤ gb155)); have n3_ := YL ((by rw [hg]; exact (YE (by repeat (first | (with_reducible first | exact HB.out | apply YA | apply YB | apply YC) | exact HB.out))) : w.heap.size ≤ gb155)); clear HB; have HB := n0_; have BK155 := n1_; have GW155 := n2_; have GE155 := n3_; clear n0_ n1_ n2_ n3_; clear hb hbox hg; have q22_0 : w21.cell? ⟨gb155, 0, none⟩ = some (.bool false) := (YI BK155.out 0).trans rfl; have q22_1 : w21.cell? ⟨gb155, 1, none⟩ = some (.int .i64 a0_1) := (YI BK155.out 1).trans rfl; have q22_2 : w21.cell? ⟨gb155, 2, none⟩ = some (.int .i64 a0_2) := (YI BK155.out 2).trans rfl; have q22_3 : w21.cell? ⟨gb155, 3, none⟩ = some (.int .i64 a0_3) := (YI BK155.out 3).trans rfl; have q22_4 : w21.cell? ⟨gb155, 4, none⟩ = some (.int .i64 a0_4) := (YI BK155.out 4).trans rfl; have q22_5 : w21.cell? ⟨gb155, 5, none⟩ = some (.int .i64 a0_5) := (YI BK155.out 5).trans rfl; have f22_0 := YJ BK155.out 0; have f22_1 := YJ BK155.out 1; have f22_2 := YJ BK155.out 2; have f22_3 := YJ BK155.out 3; have f22_4 := YJ BK155.out 4; have f22_5 := YJ BK155.out 5) | ((with_reducible refine gate_callee (f := 48) rfl ?_); refine goesL_ (some 7) rfl rfl Try.func48 (by kernel_rfl) rfl #[.agg #[.bool false, .int .i64 a0_1, .int .i64 a0_2, .int .i64 a0_3, .int .i64 a0_4, .int .i64 a0_5]] rfl (by (try simp only [YP, List.map_cons, List.map_nil]); first | done | rfl | (simp only [YR, YQ]; rfl)) ?_; (with_reducible refine (height_Check.calls k false a0_1 a0_2 a0_3 a0_4 a0_5 t156 _ A2.out).mono ?_); rintro e w23 ⟨rfl, hb⟩; refine ⟨_, rfl, ?_⟩; have n0_ := YL (YK (g := gb155) (o := .cells #[.bool false, .int .i64 a0_1, .int .i64 a0_2, .int .i64 a0_3, .int .i64 a0_4, .int .i64 a0_5] 30 (0, 0)) (by (with_reducible repeat (first | refine YF ?_ _ | refine YG ?_ | refine YH ?_ _)); exact BK155.out) hb); have n1_ := YL (YD (by repeat (first | (with_reducible first | exact HB.out | apply YA | apply YB | apply YC | refine below_set ?_ GE155.out) | exact HB.out)) hb); clear BK155; clear HB; have BK155 := n0_; have HB := n1_; clear n0_ n1_; (try clear hb); (try clear hb2); (try clear hk); (try clear hi); have q24_0 : w23.cell? ⟨gb155, 0, none⟩ = some (.bool false) := (YI BK155.out 0).trans rfl; have q24_1 : w23.cell? ⟨gb155, 1, none⟩ = some (.int .i64 a0_1) := (YI BK155.out 1).trans rfl; have q24_2 : w23.cell? ⟨gb155, 2, none⟩ = some (.int .i64 a0_2) := (YI BK155.out 2).trans rfl; have q24_3 : w23.cell? ⟨gb155, 3, none⟩ = some (.int .i64 a0_3) := (YI BK155.out 3).trans rfl; have q24_4 : w23.cell? ⟨gb155, 4, none⟩ = some (.int .i64 a0_4) := (YI BK155.out 4).trans rfl; have q24_5 : w23.cell? ⟨gb155, 5, none⟩ = some (.int .i64 a0_5) := (YI BK155.out 5).trans rfl; have f24_0 := YJ BK155.out 0; have f24_1 := YJ BK155.out 1; have f24_2 := YJ BK155.out 2; have f24_3 := YJ BK155.out 3; have f24_4 := YJ BK155.out 4; have f24_5 := YJ BK155.out 5))
  have n0_ := YL (YG BK155.out)
  have n1_ := YL (YC HB.out)
  clear BK155; clear HB; have BK155 := n0_; have HB := n1_; clear n0_ n1_
  refine start_ (n := 8) (S := fun w' => w'.cell? ⟨gb155, 0, none⟩ = some (.bool false) ∧ w'.cell? ⟨gb155, 1, none⟩ = some (.int .i64 a0_1) ∧ w'.cell? ⟨gb155, 2, none⟩ = some (.int .i64 a0_2) ∧ w'.cell? ⟨gb155, 3, none⟩ = some (.int .i64 a0_3) ∧ w'.cell? ⟨gb155, 4, none⟩ = some (.int .i64 a0_4) ∧ w'.cell? ⟨gb155, 5, none⟩ = some (.int .i64 a0_5)) (ds := []) #[false, false, false, false, false, false, false, false] (by kernel_rfl) rfl rfl ⟨(YI BK155.out 0).trans rfl, (YI BK155.out 1).trans rfl, (YI BK155.out 2).trans rfl, (YI BK155.out 3).trans rfl, (YI BK155.out 4).trans rfl, (YI BK155.out 5).trans rfl⟩ (fun hHeld => ?_); refine with_tabW height_Bytes.tab7 height_Bytes.bits7 (fun HT_ HW_ => ?_)
  generalize w23.drew = w25 at BK155 HB hHeld ⊢
  refine pure_ (i := 0) (N := some 16) (v := ?_) (a' := ?_) #[true, false, false, false, false, false, false, false] rfl rfl (any_of HT_.out (by kernel_rfl)) (fun _ _ _ h => h) (Or.inl ⟨by rfl, ?_⟩) ?_ ?_
  rotate_left
  ·intro w'
   go_simp; with_reducible rfl
  rotate_left
  ·simp only [Act.put, YM, YN, YO, i64_w, i32_w]
   rfl
  refine pure_ (i := 3) (N := some 19) (v := ?_) (a' := ?_) #[true, false, false, true, false, false, false, false] rfl rfl (any_of HT_.out (by kernel_rfl)) (fun _ _ _ h => h) (Or.inl ⟨by rfl, ?_⟩) ?_ ?_
  rotate_left
  ·intro w'
   go_simp; with_reducible rfl
  rotate_left
  ·simp only [Act.put, YM, YN, YO, i64_w, i32_w]
   rfl
  refine take_ (i := 4) (N := some 20) (v := ?_) (a' := ?_) #[true, false, false, true, true, false, false, false] rfl rfl (take_ofW HT_.out HW_.out (by kernel_rfl)) (fun _ _ _ h => h) (Or.inl ⟨by rfl, ?_⟩) hHeld ?_ ?_
  rotate_left
  ·rintro w' ⟨s0, s1, s2, s3, s4, s5⟩
   go_simp; with_reducible rfl
  rotate_left
  ·simp only [Act.put, YM, YN, YO, i64_w, i32_w]
   rfl
  refine one_ (i := 1) (N := some 17) #[true, true, false, true, true, false, false, false] rfl rfl (one_of HT_.out (by kernel_rfl)) (by decide) (fun K hK => ?_)
  refine value_ (w1 := ?_) (v := ?_) (by rfl) rfl ?_ ?_
  rotate_left 2
  ·go_simp
   constructor
   ·rfl
   rfl
  refine hK.out _ _ ⟨(YI (YH BK155.out _) 0).trans rfl, (YI (YH BK155.out _) 1).trans rfl, (YI (YH BK155.out _) 2).trans rfl, (YI (YH BK155.out _) 3).trans rfl, (YI (YH BK155.out _) 4).trans rfl, (YI (YH BK155.out _) 5).trans rfl⟩ (fun hHeld => ?_)
  clear hK K
  refine norm_ (a' := ?_) ?_ ?_
  rotate_left
  ·show Act.put _ (some 17) _ = _
   simp only [Act.put, YM, YN, YO, i64_w, i32_w]
   rfl
  refine one_ (i := 2) (N := some 18) #[true, true, true, true, true, false, false, false] rfl rfl (one_of HT_.out (by kernel_rfl)) (by decide) (fun K hK => ?_)
  refine Kd.R_append_step (Kd.int .u8) (w0 := w) w.heap.size (by rfl) (.tmp 16) (.tmp 17) 107 5 (.int .u8 0) 1 rfl Try.underlying107 info5 rfl (by decide) (by omega) (.slice none 0 0) ([] : List Int) 1 [.int .u8 1] (fun _ => True) (fun _ => False) rfl rfl ?aP (fun _ hk => hk.elim) ?aF ?aO ?aB ?aS ?aL ?_
  (case aP => exact rfl)
  (case aB => exact (by repeat (first | (with_reducible first | exact HB.out | apply YA | apply YB | apply YC | refine below_set ?_ GE155.out) | exact HB.out)))
  (case aF => exact (fun _ _ => trivial))
  (case aO => exact ((Kd.R_nil _ _ _ _ (fun _ => True))))
  (case aS => exact (YE (by repeat (first | (with_reducible first | exact HB.out | apply YA | apply YB | apply YC | refine below_set ?_ GE155.out) | exact HB.out))))
  (case aL => have := LMc14.out; omega)
  intro v164 w26 ho hb hg hat
  rw [← Ny163.out] at ho
  have n0_ := YL (blk_grown (g := gb155) (o := .cells #[.bool false, .int .i64 a0_1, .int .i64 a0_2, .int .i64 a0_3, .int .i64 a0_4, .int .i64 a0_5] 30 (0, 0)) (by (with_reducible repeat (first | refine YF ?_ _ | refine YG ?_ | refine YH ?_ _)); exact BK155.out) hg (by simp [Value.ownBlock]))
  have n1_ := YL (hb)
  have n2_ := YL (ho)
  clear BK155; clear HB; have BK155 := n0_; have HB := n1_; have HO165 := n2_; clear n0_ n1_ n2_; clear ho hb hg hat
  refine hK.out _ _ ⟨(YI BK155.out 0).trans rfl, (YI BK155.out 1).trans rfl, (YI BK155.out 2).trans rfl, (YI BK155.out 3).trans rfl, (YI BK155.out 4).trans rfl, (YI BK155.out 5).trans rfl⟩ (fun hHeld => ?_)
  clear hK K
  refine norm_ (a' := ?_) ?_ ?_
  rotate_left
  ·show Act.put _ (some 18) _ = _
   simp only [Act.put, YM, YN, YO, i64_w, i32_w]
   rfl
  refine one_ (i := 5) (N := some 21) #[true, true, true, true, true, true, false, false] rfl rfl (one_of HT_.out (by kernel_rfl)) (by decide) (fun K hK => ?_)
  refine goes_ Try.func70 (by kernel_rfl) rfl #[.int .i64 a0_1] (by rfl) rfl rfl (by (try simp only [YP, List.map_cons, List.map_nil]); first | done | rfl | (simp only [YR, YQ]; rfl)) ?_
  with_reducible refine (wire_Int.calls a0_1 t166 _ A15.out).mono ?_
  rintro e w27 ⟨v167, rfl, ho0, hb⟩
  refine ⟨_, rfl, ?_⟩
  have n0_ := YL (Kd.R_elder' (by (with_reducible repeat (first | apply YS | apply YT | apply YU)); exact HO165.out) (Kd.R_base ho0) hb)
  have n1_ := YL (Kd.R_lower (Kd.R_new' ho0 (Kd.R_lt (by (with_reducible repeat (first | apply YS | apply YT | apply YU)); exact HO165.out))) (YE (by repeat (first | (with_reducible first | exact HB.out | apply YA | apply YB | apply YC | refine below_set ?_ GE155.out) | exact HB.out))))
  have n2_ := YL (YK (g := gb155) (o := .cells #[.bool false, .int .i64 a0_1, .int .i64 a0_2, .int .i64 a0_3, .int .i64 a0_4, .int .i64 a0_5] 30 (0, 0)) (by (with_reducible repeat (first | refine YF ?_ _ | refine YG ?_ | refine YH ?_ _)); exact BK155.out) hb)
  have n3_ := YL (YD (by repeat (first | (with_reducible first | exact HB.out | apply YA | apply YB | apply YC | refine below_set ?_ GE155.out) | exact HB.out)) hb)
  clear HO165; clear BK155; clear HB; have HO165 := n0_; have HO168 := n1_; have BK155 := n2_; have HB := n3_; clear n0_ n1_ n2_ n3_; (try clear hb); (try clear hb2); (try clear hk); (try clear hi); (try clear ho0)
  obtain ⟨Ao29, co29, eo29⟩ := Kd.R_slice HO168.out
  (first | subst eo29 | (injection eo29 with f1_ f2_ f3_; have f4_ := f1_.symm; have f5_ := f3_.symm; clear f1_ f2_ f3_; subst f4_; subst f5_))
  refine hK.out _ _ ⟨(YI BK155.out 0).trans rfl, (YI BK155.out 1).trans rfl, (YI BK155.out 2).trans rfl, (YI BK155.out 3).trans rfl, (YI BK155.out 4).trans rfl, (YI BK155.out 5).trans rfl⟩ (fun hHeld => ?_)
  clear hK K
  refine norm_ (a' := ?_) ?_ ?_
  rotate_left
  ·show Act.put _ (some 21) _ = _
   simp only [Act.put, YM, YN, YO, i64_w, i32_w]
   rfl
  refine one_ (i := 6) (N := some 22) #[true, true, true, true, true, true, true, false] rfl rfl (one_of HT_.out (by kernel_rfl)) (by decide) (fun K hK => ?_)
  refine Kd.R_append_rows_step (Kd.int .u8) (w0 := w) w.heap.size (by rfl) (.tmp 18) (.tmp 21) 107 5 (.int .u8 0) 1 rfl Try.underlying107 info5 rfl (by decide) (by omega) v164 y163 t166 _ _ _ (fun k_ => some k_ ≠ (.slice Ao29 t166.length co29 : Value).ownBlock) (fun _ => False) rfl rfl ?aO ?aR (fun _ _ h => h) (fun _ h => h.elim) ?aF ?aB ?aS ?aL ?_
  (case aR => repeat (first | exact (Kd.R_reads' HO168.out).2.2 | (with_reducible refine Kd.C_alloc ?_ _) | (with_reducible refine Kd.C_drewN ?_ _) | (with_reducible refine Kd.C_drew ?_)))
  (case aB => exact (by repeat (first | (with_reducible first | exact HB.out | apply YA | apply YB | apply YC | refine below_set ?_ GE155.out) | exact HB.out)))
  (case aF => exact (fun k_ hk => Kd.fresh' (Kd.R_lt (by (with_reducible repeat (first | apply YS | apply YT | apply YU)); exact HO168.out)) k_ hk))
  (case aO => exact (by (with_reducible repeat (first | apply YS | apply YT | apply YU)); exact Kd.R_mono HO165.out (fun _ hk => by first | exact hk.2 | exact trivial | (simp [hk]; done) | simp_all)))
  (case aS => exact (YE (by repeat (first | (with_reducible first | exact HB.out | apply YA | apply YB | apply YC | refine below_set ?_ GE155.out) | exact HB.out))))
  (case aL => have := LMc16.out; omega)
  intro v170 w28 ho hb hg hat
  rw [← Ny169.out] at ho
  have n0_ := YL (blk_grown (g := gb155) (o := .cells #[.bool false, .int .i64 a0_1, .int .i64 a0_2, .int .i64 a0_3, .int .i64 a0_4, .int .i64 a0_5] 30 (0, 0)) (by (with_reducible repeat (first | refine YF ?_ _ | refine YG ?_ | refine YH ?_ _)); exact BK155.out) hg (Kd.R_ne HO165.out BK155.out (by decide)))
  have n1_ := YL (Kd.R_after (ok := (fun _ => True)) (by (with_reducible repeat (first | apply YS | apply YT | apply YU)); exact HO168.out) hg hat)
  have n2_ := YL (hb)
  have n3_ := YL (ho)
  clear BK155; clear HO168; clear HB; clear HO165; have BK155 := n0_; have HO168 := n1_; have HB := n2_; have HO171 := n3_; clear n0_ n1_ n2_ n3_; clear ho hb hg hat
  refine hK.out _ _ ⟨(YI BK155.out 0).trans rfl, (YI BK155.out 1).trans rfl, (YI BK155.out 2).trans rfl, (YI BK155.out 3).trans rfl, (YI BK155.out 4).trans rfl, (YI BK155.out 5).trans rfl⟩ (fun hHeld => ?_)
  clear hK K
  refine norm_ (a' := ?_) ?_ ?_
  rotate_left
  ·show Act.put _ (some 22) _ = _
   simp only [Act.put, YM, YN, YO, i64_w, i32_w]
   rfl
  refine pure_ (i := 7) (N := some 5) (v := ?_) (a' := ?_) #[true, true, true, true, true, true, true, true] rfl rfl (any_of HT_.out (by kernel_rfl)) (fun _ _ _ h => h) (Or.inl ⟨by rfl, ?_⟩) ?_ ?_
  rotate_left
  ·intro w'
   go_simp; with_reducible rfl
  rotate_left
  ·simp only [Act.put, YM, YN, YO, i64_w, i32_w]
   rfl
  refine done_ (done_of HT_.out (by kernel_rfl)) ?_
  try go_wp2
  have n0_ := YL (YU HO168.out)
  have n1_ := YL (YU HO171.out)
  have n2_ := YL (YG BK155.out)
  have n3_ := YL (YC HB.out)
  clear HO168; clear HO171; clear BK155; clear HB; have HO168 := n0_; have HO171 := n1_; have BK155 := n2_; have HB := n3_; clear n0_ n1_ n2_ n3_
  refine start_ (n := 14) (S := fun w' => w'.cell? ⟨gb155, 0, none⟩ = some (.bool false) ∧ w'.cell? ⟨gb155, 1, none⟩ = some (.int .i64 a0_1) ∧ w'.cell? ⟨gb155, 2, none⟩ = some (.int .i64 a0_2) ∧ w'.cell? ⟨gb155, 3, none⟩ = some (.int .i64 a0_3) ∧ w'.cell? ⟨gb155, 4, none⟩ = some (.int .i64 a0_4) ∧ w'.cell? ⟨gb155, 5, none⟩ = some (.int .i64 a0_5)) (ds := []) #[false, false, false, false, false, false, false, false, false, false, false, false, false, false] (by kernel_rfl) rfl rfl ⟨(YI BK155.out 0).trans rfl, (YI BK155.out 1).trans rfl, (YI BK155.out 2).trans rfl, (YI BK155.out 3).trans rfl, (YI BK155.out 4).trans rfl, (YI BK155.out 5).trans rfl⟩ (fun hHeld => ?_); refine with_tabW height_Bytes.tab8 height_Bytes.bits8 (fun HT_ HW_ => ?_)
  generalize w28.drew = w30 at HO168 HO171 BK155 HB hHeld ⊢
  refine pure_ (i := 0) (N := some 23) (v := ?_) (a' := ?_) #[true, false, false, false, false, false, false, false, false, false, false, false, false, false] rfl rfl (any_of HT_.out (by kernel_rfl)) (fun _ _ _ h => h) (Or.inl ⟨by rfl, ?_⟩) ?_ ?_
  rotate_left
  ·intro w'
   go_simp; with_reducible rfl
  rotate_left
  ·simp only [Act.put, YM, YN, YO, i64_w, i32_w]
   rfl
  refine pure_ (i := 1) (N := some 24) (v := ?_) (a' := ?_) #[true, true, false, false, false, false, false, false, false, false, false, false, false, false] rfl rfl (any_of HT_.out (by kernel_rfl)) (fun _ _ _ h => h) (Or.inl ⟨by rfl, ?_⟩) ?_ ?_
  rotate_left
  ·intro w'
   go_simp; with_reducible rfl
  rotate_left
  ·simp only [Act.put, YM, YN, YO, i64_w, i32_w]
   rfl
  refine pure_ (i := 4) (N := some 27) (v := ?_) (a' := ?_) #[true, true, false, false, true, false, false, false, false, false, false, false, false, false] rfl rfl (any_of HT_.out (by kernel_rfl)) (fun _ _ _ h => h) (Or.inl ⟨by rfl, ?_⟩) ?_ ?_
  rotate_left
  ·intro w'
   go_simp; with_reducible rfl
  rotate_left
  ·simp only [Act.put, YM, YN, YO, i64_w, i32_w]
   rfl
  refine pure_ (i := 9) (N := some 32) (v := ?_) (a' := ?_) #[true, true, false, false, true, false, false, false, false, true, false, false, false, false] rfl rfl (any_of HT_.out (by kernel_rfl)) (fun _ _ _ h => h) (Or.inl ⟨by rfl, ?_⟩) ?_ ?_
  rotate_left
  ·intro w'
   go_simp; with_reducible rfl
  rotate_left
  ·simp only [Act.put, YM, YN, YO, i64_w, i32_w]
   rfl
  refine take_ (i := 2) (N := some 25) (v := ?_) (a' := ?_) #[true, true, true, false, true, false, false, false, false, true, false, false, false, false] rfl rfl (take_ofW HT_.out HW_.out (by kernel_rfl)) (fun _ _ _ h => h) (Or.inl ⟨by rfl, ?_⟩) hHeld ?_ ?_
  rotate_left
  ·rintro w' ⟨s0, s1, s2, s3, s4, s5⟩
   go_simp; with_reducible rfl
  rotate_left
  ·simp only [Act.put, YM, YN, YO, i64_w, i32_w]
   rfl
  refine pure_ (i := 3) (N := some 26) (v := ?_) (a' := ?_) #[true, true, true, true, true, false, false, false, false, true, false, false, false, false] rfl rfl (any_of HT_.out (by kernel_rfl)) (fun _ _ _ h => h) (Or.inl ⟨by rfl, ?_⟩) ?_ ?_
  rotate_left
  ·intro w'
   go_simp; with_reducible rfl
  rotate_left
  ·simp only [Act.put, YM, YN, YO, i64_w, i32_w]
   rfl
  refine take_ (i := 5) (N := some 28) (v := ?_) (a' := ?_) #[true, true, true, true, true, true, false, false, false, true, false, false, false, false] rfl rfl (take_ofW HT_.out HW_.out (by kernel_rfl)) (fun _ _ _ h => h) (Or.inl ⟨by rfl, ?_⟩) hHeld ?_ ?_
  rotate_left
  ·rintro w' ⟨s0, s1, s2, s3, s4, s5⟩
   go_simp; with_reducible rfl
  rotate_left
  ·simp only [Act.put, YM, YN, YO, i64_w, i32_w]
   rfl
  refine pure_ (i := 6) (N := some 29) (v := ?_) (a' := ?_) #[true, true, true, true, true, true, true, false, false, true, false, false, false, false] rfl rfl (any_of HT_.out (by kernel_rfl)) (fun _ _ _ h => h) (Or.inl ⟨by rfl, ?_⟩) ?_ ?_
  rotate_left
  ·intro w'
   go_simp; with_reducible rfl
  rotate_left
  ·simp only [Act.put, YM, YN, YO, i64_w, i32_w]
   rfl
  refine take_ (i := 10) (N := some 33) (v := ?_) (a' := ?_) #[true, true, true, true, true, true, true, false, false, true, true, false, false, false] rfl rfl (take_ofW HT_.out HW_.out (by kernel_rfl)) (fun _ _ _ h => h) (Or.inl ⟨by rfl, ?_⟩) hHeld ?_ ?_
  rotate_left
  ·rintro w' ⟨s0, s1, s2, s3, s4, s5⟩
   go_simp; with_reducible rfl
  rotate_left
  ·simp only [Act.put, YM, YN, YO, i64_w, i32_w]
   rfl
  refine one_ (i := 7) (N := some 30) #[true, true, true, true, true, true, true, true, false, true, true, false, false, false] rfl rfl (one_of HT_.out (by kernel_rfl)) (by decide) (fun K hK => ?_)
  refine Kd.R_lit_step (Kd.int .u8) _ 5 ?hg (N := 30) ?hd (xs := ([(a0_2) % 256, (a0_3) % 256] : List Int)) (inner := [.int .u8 ((a0_2) % 256), .int .u8 ((a0_3) % 256)]) (ok := fun _ => True) (okp := fun _ => True) ?hr ?hp (fun _ hk => hk) trivial (Below.refl _ _) (Nat.le_refl _) (by simp) ?_; (case hd => rfl); (case hg => rfl); (case hr => first | (go_simp; done) | (go_simp; rfl)); (case hp => exact (Reps.one (show Kd.M (Kd.int .u8) _ _ _ ((a0_2) % 256) [.int .u8 ((a0_2) % 256)] from rfl) (Reps.one (show Kd.M (Kd.int .u8) _ _ _ ((a0_3) % 256) [.int .u8 ((a0_3) % 256)] from rfl) (Reps.none _ _))))
  intro v173 w31 ho32 hb hg_ hnew_
  clear hg_ hnew_
  (first | rw [← Ny172.out] at ho32 | (simp only [Int.reduceToNat] at ho32; rw [← Ny172.out] at ho32))
  have n0_ := YL (Kd.R_elder' (by (with_reducible repeat (first | apply YS | apply YT | apply YU)); exact HO168.out) (Kd.R_base ho32) hb)
  have n1_ := YL (Kd.R_elder' (by (with_reducible repeat (first | apply YS | apply YT | apply YU)); exact HO171.out) (Kd.R_base ho32) hb)
  have n2_ := YL (Kd.R_lower (Kd.R_new' (Kd.R_new' ho32 (Kd.R_lt (by (with_reducible repeat (first | apply YS | apply YT | apply YU)); exact HO168.out))) (Kd.R_lt (by (with_reducible repeat (first | apply YS | apply YT | apply YU)); exact HO171.out))) (YE (by repeat (first | (with_reducible first | exact HB.out | apply YA | apply YB | apply YC | refine below_set ?_ GE155.out) | exact HB.out))))
  have n3_ := YL (YK (g := gb155) (o := .cells #[.bool false, .int .i64 a0_1, .int .i64 a0_2, .int .i64 a0_3, .int .i64 a0_4, .int .i64 a0_5] 30 (0, 0)) (by (with_reducible repeat (first | refine YF ?_ _ | refine YG ?_ | refine YH ?_ _)); exact BK155.out) hb)
  have n4_ := YL (YD (by repeat (first | (with_reducible first | exact HB.out | apply YA | apply YB | apply YC | refine below_set ?_ GE155.out) | exact HB.out)) hb)
  clear HO168; clear HO171; clear BK155; clear HB; have HO168 := n0_; have HO171 := n1_; have HO174 := n2_; have BK155 := n3_; have HB := n4_; clear n0_ n1_ n2_ n3_ n4_; clear hb ho32
  obtain ⟨Ao34, co34, eo34⟩ := Kd.R_slice HO174.out
  (first | subst eo34 | (injection eo34 with f1_ f2_ f3_; have f4_ := f1_.symm; have f5_ := f3_.symm; clear f1_ f2_ f3_; subst f4_; subst f5_))
  refine hK.out _ _ ⟨(YI BK155.out 0).trans rfl, (YI BK155.out 1).trans rfl, (YI BK155.out 2).trans rfl, (YI BK155.out 3).trans rfl, (YI BK155.out 4).trans rfl, (YI BK155.out 5).trans rfl⟩ (fun hHeld => ?_)
  clear hK K
  refine norm_ (a' := ?_) ?_ ?_
  rotate_left
  ·show Act.put _ (some 30) _ = _
   simp only [Act.put, YM, YN, YO, i64_w, i32_w]
   rfl
  refine one_ (i := 8) (N := some 31) #[true, true, true, true, true, true, true, true, true, true, true, false, false, false] rfl rfl (one_of HT_.out (by kernel_rfl)) (by decide) (fun K hK => ?_)
  refine Kd.R_append_rows_step (Kd.int .u8) (w0 := w) w.heap.size (by rfl) (.tmp 23) (.tmp 30) 107 5 (.int .u8 0) 1 rfl Try.underlying107 info5 rfl (by decide) (by omega) v170 y169 y172 _ _ _ (fun k_ => some k_ ≠ (.slice Ao29 t166.length co29 : Value).ownBlock ∧ some k_ ≠ (.slice Ao34 y172.length co34 : Value).ownBlock) (fun _ => False) rfl rfl ?aO ?aR (fun _ _ h => h) (fun _ h => h.elim) ?aF ?aB ?aS ?aL ?_
  (case aR => repeat (first | exact (Kd.R_reads' HO174.out).2.2 | (with_reducible refine Kd.C_alloc ?_ _) | (with_reducible refine Kd.C_drewN ?_ _) | (with_reducible refine Kd.C_drew ?_)))
  (case aB => exact (by repeat (first | (with_reducible first | exact HB.out | apply YA | apply YB | apply YC | refine below_set ?_ GE155.out) | exact HB.out)))
  (case aF => exact (fun k_ hk => ⟨Kd.fresh' (Kd.R_lt (by (with_reducible repeat (first | apply YS | apply YT | apply YU)); exact HO168.out)) k_ hk, Kd.fresh' (Kd.R_lt (by (with_reducible repeat (first | apply YS | apply YT | apply YU)); exact HO174.out)) k_ hk⟩))
  (case aO => exact (by (with_reducible repeat (first | apply YS | apply YT | apply YU)); exact HO171.out))
  (case aS => exact (YE (by repeat (first | (with_reducible first | exact HB.out | apply YA | apply YB | apply YC | refine below_set ?_ GE155.out) | exact HB.out))))
  (case aL => have := LMc17.out; omega)
  intro v176 w33 ho hb hg hat
  rw [← Ny175.out] at ho
  have n0_ := YL (blk_grown (g := gb155) (o := .cells #[.bool false, .int .i64 a0_1, .int .i64 a0_2, .int .i64 a0_3, .int .i64 a0_4, .int .i64 a0_5] 30 (0, 0)) (by (with_reducible repeat (first | refine YF ?_ _ | refine YG ?_ | refine YH ?_ _)); exact BK155.out) hg (Kd.R_ne HO171.out BK155.out (by decide)))
  have n1_ := YL (Kd.R_after (ok := (fun k_ => some k_ ≠ (.slice Ao34 y172.length co34 : Value).ownBlock)) (by (with_reducible repeat (first | apply YS | apply YT | apply YU)); exact Kd.R_mono HO168.out (fun _ hk => by first | exact ⟨hk.2, hk.1.2⟩ | exact trivial | (simp [hk]; done) | simp_all)) hg hat)
  have n2_ := YL (Kd.R_after (ok := (fun k_ => some k_ ≠ (.slice Ao29 t166.length co29 : Value).ownBlock)) (by (with_reducible repeat (first | apply YS | apply YT | apply YU)); exact Kd.R_mono HO174.out (fun _ hk => by first | exact ⟨hk.1.2, hk.2⟩ | exact trivial | (simp [hk]; done) | simp_all)) hg hat)
  have n3_ := YL (hb)
  have n4_ := YL (ho)
  clear BK155; clear HO168; clear HO174; clear HB; clear HO171; have BK155 := n0_; have HO168 := n1_; have HO174 := n2_; have HB := n3_; have HO177 := n4_; clear n0_ n1_ n2_ n3_ n4_; clear ho hb hg hat
  refine hK.out _ _ ⟨(YI BK155.out 0).trans rfl, (YI BK155.out 1).trans rfl, (YI BK155.out 2).trans rfl, (YI BK155.out 3).trans rfl, (YI BK155.out 4).trans rfl, (YI BK155.out 5).trans rfl⟩ (fun hHeld => ?_)
  clear hK K
  refine norm_ (a' := ?_) ?_ ?_
  rotate_left
  ·show Act.put _ (some 31) _ = _
   simp only [Act.put, YM, YN, YO, i64_w, i32_w]
   rfl
  refine one_ (i := 11) (N := some 34) #[true, true, true, true, true, true, true, true, true, true, true, true, false, false] rfl rfl (one_of HT_.out (by kernel_rfl)) (by decide) (fun K hK => ?_)
  refine goes_ Try.func70 (by kernel_rfl) rfl #[.int .i64 a0_4] (by rfl) rfl rfl (by (try simp only [YP, List.map_cons, List.map_nil]); first | done | rfl | (simp only [YR, YQ]; rfl)) ?_
  with_reducible refine (wire_Int.calls a0_4 t178 _ A18.out).mono ?_
  rintro e w35 ⟨v179, rfl, ho0, hb⟩
  refine ⟨_, rfl, ?_⟩
  have n0_ := YL (Kd.R_elder' (by (with_reducible repeat (first | apply YS | apply YT | apply YU)); exact HO168.out) (Kd.R_base ho0) hb)
  have n1_ := YL (Kd.R_elder' (by (with_reducible repeat (first | apply YS | apply YT | apply YU)); exact HO174.out) (Kd.R_base ho0) hb)
  have n2_ := YL (Kd.R_elder' (by (with_reducible repeat (first | apply YS | apply YT | apply YU)); exact HO177.out) (Kd.R_base ho0) hb)
  have n3_ := YL (Kd.R_lower (Kd.R_new' (Kd.R_new' (Kd.R_new' ho0 (Kd.R_lt (by (with_reducible repeat (first | apply YS | apply YT | apply YU)); exact HO168.out))) (Kd.R_lt (by (with_reducible repeat (first | apply YS | apply YT | apply YU)); exact HO174.out))) (Kd.R_lt (by (with_reducible repeat (first | apply YS | apply YT | apply YU)); exact HO177.out))) (YE (by repeat (first | (with_reducible first | exact HB.out | apply YA | apply YB | apply YC | refine below_set ?_ GE155.out) | exact HB.out))))
  have n4_ := YL (YK (g := gb155) (o := .cells #[.bool false, .int .i64 a0_1, .int .i64 a0_2, .int .i64 a0_3, .int .i64 a0_4, .int .i64 a0_5] 30 (0, 0)) (by (with_reducible repeat (first | refine YF ?_ _ | refine YG ?_ | refine YH ?_ _)); exact BK155.out) hb)
  have n5_ := YL (YD (by repeat (first | (with_reducible first | exact HB.out | apply YA | apply YB | apply YC | refine below_set ?_ GE155.out) | exact HB.out)) hb)
  clear HO168; clear HO174; clear HO177; clear BK155; clear HB; have HO168 := n0_; have HO174 := n1_; have HO177 := n2_; have HO180 := n3_; have BK155 := n4_; have HB := n5_; clear n0_ n1_ n2_ n3_ n4_ n5_; (try clear hb); (try clear hb2); (try clear hk); (try clear hi); (try clear ho0)
  obtain ⟨Ao37, co37, eo37⟩ := Kd.R_slice HO180.out
  (first | subst eo37 | (injection eo37 with f1_ f2_ f3_; have f4_ := f1_.symm; have f5_ := f3_.symm; clear f1_ f2_ f3_; subst f4_; subst f5_))
  refine hK.out _ _ ⟨(YI BK155.out 0).trans rfl, (YI BK155.out 1).trans rfl, (YI BK155.out 2).trans rfl, (YI BK155.out 3).trans rfl, (YI BK155.out 4).trans rfl, (YI BK155.out 5).trans rfl⟩ (fun hHeld => ?_)
  clear hK K
  refine norm_ (a' := ?_) ?_ ?_
  rotate_left
  ·show Act.put _ (some 34) _ = _
   simp only [Act.put, YM, YN, YO, i64_w, i32_w]
   rfl
  refine one_ (i := 12) (N := some 35) #[true, true, true, true, true, true, true, true, true, true, true, true, true, false] rfl rfl (one_of HT_.out (by kernel_rfl)) (by decide) (fun K hK => ?_)
  refine Kd.R_append_rows_step (Kd.int .u8) (w0 := w) w.heap.size (by rfl) (.tmp 31) (.tmp 34) 107 5 (.int .u8 0) 1 rfl Try.underlying107 info5 rfl (by decide) (by omega) v176 y175 t178 _ _ _ (fun k_ => some k_ ≠ (.slice Ao29 t166.length co29 : Value).ownBlock ∧ some k_ ≠ (.slice Ao34 y172.length co34 : Value).ownBlock ∧ some k_ ≠ (.slice Ao37 t178.length co37 : Value).ownBlock) (fun _ => False) rfl rfl ?aO ?aR (fun _ _ h => h) (fun _ h => h.elim) ?aF ?aB ?aS ?aL ?_
  (case aR => repeat (first | exact (Kd.R_reads' HO180.out).2.2 | (with_reducible refine Kd.C_alloc ?_ _) | (with_reducible refine Kd.C_drewN ?_ _) | (with_reducible refine Kd.C_drew ?_)))
  (case aB => exact (by repeat (first | (with_reducible first | exact HB.out | apply YA | apply YB | apply YC | refine below_set ?_ GE155.out) | exact HB.out)))
  (case aF => exact (fun k_ hk => ⟨Kd.fresh' (Kd.R_lt (by (with_reducible repeat (first | apply YS | apply YT | apply YU)); exact HO168.out)) k_ hk, Kd.fresh' (Kd.R_lt (by (with_reducible repeat (first | apply YS | apply YT | apply YU)); exact HO174.out)) k_ hk, Kd.fresh' (Kd.R_lt (by (with_reducible repeat (first | apply YS | apply YT | apply YU)); exact HO180.out)) k_ hk⟩))
  (case aO => exact (by (with_reducible repeat (first | apply YS | apply YT | apply YU)); exact Kd.R_mono HO177.out (fun _ hk => by first | exact ⟨hk.1.1, ⟨hk.1.2, hk.2⟩⟩ | exact trivial | (simp [hk]; done) | simp_all)))
  (case aS => exact (YE (by repeat (first | (with_reducible first | exact HB.out | apply YA | apply YB | apply YC | refine below_set ?_ GE155.out) | exact HB.out))))
  (case aL => have := LMc19.out; omega)
  intro v182 w36 ho hb hg hat
  rw [← Ny181.out] at ho
  have n0_ := YL (blk_grown (g := gb155) (o := .cells #[.bool false, .int .i64 a0_1, .int .i64 a0_2, .int .i64 a0_3, .int .i64 a0_4, .int .i64 a0_5] 30 (0, 0)) (by (with_reducible repeat (first | refine YF ?_ _ | refine YG ?_ | refine YH ?_ _)); exact BK155.out) hg (Kd.R_ne HO177.out BK155.out (by decide)))
  have n1_ := YL (Kd.R_after (ok := (fun k_ => some k_ ≠ (.slice Ao34 y172.length co34 : Value).ownBlock ∧ some k_ ≠ (.slice Ao37 t178.length co37 : Value).ownBlock)) (by (with_reducible repeat (first | apply YS | apply YT | apply YU)); exact Kd.R_mono HO168.out (fun _ hk => by first | exact ⟨⟨hk.1.1, hk.2⟩, hk.1.2⟩ | exact trivial | (simp [hk]; done) | simp_all)) hg hat)
  have n2_ := YL (Kd.R_after (ok := (fun k_ => some k_ ≠ (.slice Ao29 t166.length co29 : Value).ownBlock ∧ some k_ ≠ (.slice Ao37 t178.length co37 : Value).ownBlock)) (by (with_reducible repeat (first | apply YS | apply YT | apply YU)); exact Kd.R_mono HO174.out (fun _ hk => by first | exact ⟨⟨hk.1.1, hk.2⟩, hk.1.2⟩ | exact trivial | (simp [hk]; done) | simp_all)) hg hat)
  have n3_ := YL (Kd.R_after (ok := (fun k_ => some k_ ≠ (.slice Ao29 t166.length co29 : Value).ownBlock ∧ some k_ ≠ (.slice Ao34 y172.length co34 : Value).ownBlock)) (by (with_reducible repeat (first | apply YS | apply YT | apply YU)); exact Kd.R_mono HO180.out (fun _ hk => by first | exact ⟨⟨hk.1.1.2, hk.1.2⟩, hk.2⟩ | exact trivial | (simp [hk]; done) | simp_all)) hg hat)
  have n4_ := YL (hb)
  have n5_ := YL (ho)
  clear BK155; clear HO168; clear HO174; clear HO180; clear HB; clear HO177; have BK155 := n0_; have HO168 := n1_; have HO174 := n2_; have HO180 := n3_; have HB := n4_; have HO183 := n5_; clear n0_ n1_ n2_ n3_ n4_ n5_; clear ho hb hg hat
  refine hK.out _ _ ⟨(YI BK155.out 0).trans rfl, (YI BK155.out 1).trans rfl, (YI BK155.out 2).trans rfl, (YI BK155.out 3).trans rfl, (YI BK155.out 4).trans rfl, (YI BK155.out 5).trans rfl⟩ (fun hHeld => ?_)
  clear hK K
  refine norm_ (a' := ?_) ?_ ?_
  rotate_left
  ·show Act.put _ (some 35) _ = _
   simp only [Act.put, YM, YN, YO, i64_w, i32_w]
   rfl
  refine pure_ (i := 13) (N := some 5) (v := ?_) (a' := ?_) #[true, true, true, true, true, true, true, true, true, true, true, true, true, true] rfl rfl (any_of HT_.out (by kernel_rfl)) (fun _ _ _ h => h) (Or.inl ⟨by rfl, ?_⟩) ?_ ?_
  rotate_left
  ·intro w'
   go_simp; with_reducible rfl
  rotate_left
  ·simp only [Act.put, YM, YN, YO, i64_w, i32_w]
   rfl
  refine done_ (done_of HT_.out (by kernel_rfl)) ?_
  have q38_0 : w36.cell? ⟨gb155, 0, none⟩ = some (.bool false) := (YI BK155.out 0).trans rfl
  have q38_1 : w36.cell? ⟨gb155, 1, none⟩ = some (.int .i64 a0_1) := (YI BK155.out 1).trans rfl
  have q38_2 : w36.cell? ⟨gb155, 2, none⟩ = some (.int .i64 a0_2) := (YI BK155.out 2).trans rfl
  have q38_3 : w36.cell? ⟨gb155, 3, none⟩ = some (.int .i64 a0_3) := (YI BK155.out 3).trans rfl
  have q38_4 : w36.cell? ⟨gb155, 4, none⟩ = some (.int .i64 a0_4) := (YI BK155.out 4).trans rfl
  have q38_5 : w36.cell? ⟨gb155, 5, none⟩ = some (.int .i64 a0_5) := (YI BK155.out 5).trans rfl
  have f38_0 := YJ BK155.out 0
  have f38_1 := YJ BK155.out 1
  have f38_2 := YJ BK155.out 2
  have f38_3 := YJ BK155.out 3
  have f38_4 := YJ BK155.out 4
  have f38_5 := YJ BK155.out 5
  try go_wp2_with (first | ((with_reducible refine gate_builtin (b := .append) (xs := #[.tmp 36, .tmp 40]) rfl ?_); at_builtin; refine Kd.R_append (Kd.int .u8) (w0 := w) w.heap.size rfl (.tmp 36) (.tmp 40) 107 5 (.int .u8 0) 1 rfl Try.underlying107 info5 rfl (by decide) (by omega) v182 y181 ((a0_5) % 256) [.int .u8 ((a0_5) % 256)] (fun k_ => some k_ ≠ (.slice Ao29 t166.length co29 : Value).ownBlock ∧ some k_ ≠ (.slice Ao34 y172.length co34 : Value).ownBlock ∧ some k_ ≠ (.slice Ao37 t178.length co37 : Value).ownBlock) (fun _ => False) rfl rfl ?aP (fun _ hk => hk.elim) ?aF ?aO ?aB ?aS ?aL ?_; (case aP => exact rfl); (case aB => exact (by repeat (first | (with_reducible first | exact HB.out | apply YA | apply YB | apply YC | refine below_set ?_ GE155.out) | exact HB.out))); (case aF => exact (fun k_ hk => ⟨Kd.fresh' (Kd.R_lt (by (with_reducible repeat (first | apply YS | apply YT | apply YU)); exact HO168.out)) k_ hk, Kd.fresh' (Kd.R_lt (by (with_reducible repeat (first | apply YS | apply YT | apply YU)); exact HO174.out)) k_ hk, Kd.fresh' (Kd.R_lt (by (with_reducible repeat (first | apply YS | apply YT | apply YU)); exact HO180.out)) k_ hk⟩)); (case aO => exact (by (with_reducible repeat (first | apply YS | apply YT | apply YU)); exact HO183.out)); (case aS => exact (YE (by repeat (first | (with_reducible first | exact HB.out | apply YA | apply YB | apply YC | refine below_set ?_ GE155.out) | exact HB.out)))); (case aL => have := LMc20.out; omega); intro v185 w39 ho hb hg hat; rw [← Ny184.out] at ho; have n0_ := YL (blk_grown (g := gb155) (o := .cells #[.bool false, .int .i64 a0_1, .int .i64 a0_2, .int .i64 a0_3, .int .i64 a0_4, .int .i64 a0_5] 30 (0, 0)) (by (with_reducible repeat (first | refine YF ?_ _ | refine YG ?_ | refine YH ?_ _)); exact BK155.out) hg (Kd.R_ne HO183.out BK155.out (by decide))); have n1_ := YL (Kd.R_after (ok := (fun k_ => some k_ ≠ (.slice Ao34 y172.length co34 : Value).ownBlock ∧ some k_ ≠ (.slice Ao37 t178.length co37 : Value).ownBlock)) (by (with_reducible repeat (first | apply YS | apply YT | apply YU)); exact HO168.out) hg hat); have n2_ := YL (Kd.R_after (ok := (fun k_ => some k_ ≠ (.slice Ao29 t166.length co29 : Value).ownBlock ∧ some k_ ≠ (.slice Ao37 t178.length co37 : Value).ownBlock)) (by (with_reducible repeat (first | apply YS | apply YT | apply YU)); exact HO174.out) hg hat); have n3_ := YL (Kd.R_after (ok := (fun k_ => some k_ ≠ (.slice Ao29 t166.length co29 : Value).ownBlock ∧ some k_ ≠ (.slice Ao34 y172.length co34 : Value).ownBlock)) (by (with_reducible repeat (first | apply YS | apply YT | apply YU)); exact HO180.out) hg hat); have n4_ := YL (hb); have n5_ := YL (ho); clear BK155; clear HO168; clear HO174; clear HO180; clear HB; clear HO183; have BK155 := n0_; have HO168 := n1_; have HO174 := n2_; have HO180 := n3_; have HB := n4_; have HO186 := n5_; clear n0_ n1_ n2_ n3_ n4_ n5_; clear ho hb hg hat))
  go_ret2
  exact ⟨_, by first | rfl | (simp [errW_none, errW_some] <;> rfl) | (simp [*, errW_none, errW_some] <;> rfl), by (with_reducible repeat (first | apply YS | apply YT | apply YU)); exact Kd.R_mono HO186.out (fun _ hk => trivial), by repeat (first | (with_reducible first | exact HB.out | apply YA | apply YB | apply YC | refine below_set ?_ GE155.out) | exact HB.out)⟩
 rw [if_neg c3] at H
 have c3b0 : (t156 == 0) = false := beq_eq_false_iff_ne.mpr c3
 have c3b1 : (t156 != 0) = true := bne_iff_ne.mpr c3
 simp only [Option.some.injEq, Prod.mk.injEq] at H
 obtain ⟨rfl, rfl⟩ := H
 go_enter Try.func69, Try.ntmps69
 go_wp2_with (first | ((with_reducible refine gate_dst (N := 1) rfl ?_); refine box_event ?hg (N := 1) ?hd (cs := #[.bool a0_0, .int .i64 a0_1, .int .i64 a0_2, .int .i64 a0_3, .int .i64 a0_4, .int .i64 a0_5]) (t := 30) ?hr ?_; (case hd => rfl); (case hg => rfl); (case hr => first | (go_simp; done) | (go_simp; rfl)); intro gb155 hg w40 hbox hb; have n0_ := YL (YD (by repeat (first | (with_reducible first | exact HB.out | apply YA | apply YB | apply YC) | exact HB.out)) hb); have n1_ := YL (hbox); have n2_ := YL ((by rw [hg]; exact (YE (by repeat (first | (with_reducible first | exact HB.out | apply YA | apply YB | apply YC) | exact HB.out))) : w.heap.size ≤ gb155)); have n3_ := YL ((by rw [hg]; exact (YE (by repeat (first | (with_reducible first | exact HB.out | apply YA | apply YB | apply YC) | exact HB.out))) : w.heap.size ≤ gb155)); clear HB; have HB := n0_; have BK155 := n1_; have GW155 := n2_; have GE155 := n3_; clear n0_ n1_ n2_ n3_; clear hb hbox hg; have q41_0 : w40.cell? ⟨gb155, 0, none⟩ = some (.bool a0_0) := (YI BK155.out 0).trans rfl; have q41_1 : w40.cell? ⟨gb155, 1, none⟩ = some (.int .i64 a0_1) := (YI BK155.out 1).trans rfl; have q41_2 : w40.cell? ⟨gb155, 2, none⟩ = some (.int .i64 a0_2) := (YI BK155.out 2).trans rfl; have q41_3 : w40.cell? ⟨gb155, 3, none⟩ = some (.int .i64 a0_3) := (YI BK155.out 3).trans rfl; have q41_4 : w40.cell? ⟨gb155, 4, none⟩ = some (.int .i64 a0_4) := (YI BK155.out 4).trans rfl; have q41_5 : w40.cell? ⟨gb155, 5, none⟩ = some (.int .i64 a0_5) := (YI BK155.out 5).trans rfl; have f41_0 := YJ BK155.out 0; have f41_1 := YJ BK155.out 1; have f41_2 := YJ BK155.out 2; have f41_3 := YJ BK155.out 3; have f41_4 := YJ BK155.out 4; have f41_5 := YJ BK155.out 5) | ((with_reducible refine gate_callee (f := 48) rfl ?_); refine goesL_ (some 7) rfl rfl Try.func48 (by kernel_rfl) rfl #[.agg #[.bool a0_0, .int .i64 a0_1, .int .i64 a0_2, .int .i64 a0_3, .int .i64 a0_4, .int .i64 a0_5]] rfl (by (try simp only [YP, List.map_cons, List.map_nil]); first | done | rfl | (simp only [YR, YQ]; rfl)) ?_; (with_reducible refine (height_Check.calls k a0_0 a0_1 a0_2 a0_3 a0_4 a0_5 t156 _ A2.out).mono ?_); rintro e w42 ⟨rfl, hb⟩; refine ⟨_, rfl, ?_⟩; have n0_ := YL (YK (g := gb155) (o := .cells #[.bool a0_0, .int .i64 a0_1, .int .i64 a0_2, .int .i64 a0_3, .int .i64 a0_4, .int .i64 a0_5] 30 (0, 0)) (by (with_reducible repeat (first | refine YF ?_ _ | refine YG ?_ | refine YH ?_ _)); exact BK155.out) hb); have n1_ := YL (YD (by repeat (first | (with_reducible first | exact HB.out | apply YA | apply YB | apply YC | refine below_set ?_ GE155.out) | exact HB.out)) hb); clear BK155; clear HB; have BK155 := n0_; have HB := n1_; clear n0_ n1_; (try clear hb); (try clear hb2); (try clear hk); (try clear hi)))
 go_ret2
 exact ⟨_, by first | rfl | (simp [errW_none, errW_some] <;> rfl) | (simp [*, errW_none, errW_some] <;> rfl), by first | exact Kd.R_nil _ _ _ _ _ | exact Kd.N_nil _ _ _ _ _ | exact Kd.V_nil _ _ _ _ _ | exact Kd.Q_nil _ _ _ _ _ | exact Kd.S_nil _ _ _ _ _, by repeat (first | (with_reducible first | exact HB.out | apply YA | apply YB | apply YC | refine below_set ?_ GE155.out) | exact HB.out)⟩
def object_Bytes.j0 : Nat → List Int → Int → Bool → Int → Int → Bool → Int → Int → Int → Int → Int → Int → Int → Int → Int → Option (List Int × Int)
 | 0, _, _, _, _, _, _, _, _, _, _, _, _, _, _, _ => none
 | k + 1, x5, x21, x22, x188000, x188001, x188002, x188003, x188004, x188005, x188006, x188007, x188008, x188009, x188010, x188011 => if x22 = true then ((height_Bytes.f k x188002 x188003 x188004 x188005 x188006 x188007).bind fun bt192 => (if bt192.2 = 0 then (if x5.length + bt192.1.length < 140737488355328 then ((some (x5 ++ bt192.1 : List Int)).bind fun y196 => (if x188000 = 4 then ((some (([(x188011 / 256) % 256, (x188011) % 256] : List Int) : List Int)).bind fun y199 => (if y196.length + y199.length < 140737488355328 then (some ((y196 ++ y199), 0)) else (none))) else (some (y196, 0)))) else (none)) else (some (([] : List Int), bt192.2)))) else (if x21 = 3 then ((wire_Int.f x188008).bind fun t205 => (if x5.length + t205.length < 140737488355328 then ((some (x5 ++ t205 : List Int)).bind fun y208 => ((some (([(x188009) % 256, (x188010) % 256] : List Int) : List Int)).bind fun y211 => (if y208.length + y211.length < 140737488355328 then ((some (y208 ++ y211 : List Int)).bind fun y214 => (if x188000 = 4 then ((some (([(x188011 / 256) % 256, (x188011) % 256] : List Int) : List Int)).bind fun y217 => (if y214.length + y217.length < 140737488355328 then (some ((y214 ++ y217), 0)) else (none))) else (some (y214, 0)))) else (none)))) else (none))) else (if x188000 = 4 then ((some (([(x188011 / 256) % 256, (x188011) % 256] : List Int) : List Int)).bind fun y223 => (if x5.length + y223.length < 140737488355328 then (some ((x5 ++ y223), 0)) else (none))) else (some (x5, 0))))
def object_Bytes.f (k : Nat) (a0_0 : Int) (a0_1 : Int) (a0_2 : Bool) (a0_3 : Int) (a0_4 : Int) (a0_5 : Int) (a0_6 : Int) (a0_7 : Int) (a0_8 : Int) (a0_9 : Int) (a0_10 : Int) (a0_11 : Int) : Option (List Int × Int) := (object_Check.f k a0_0 a0_1 a0_2 a0_3 a0_4 a0_5 a0_6 a0_7 a0_8 a0_9 a0_10 a0_11).bind fun t188 => (if t188 = 0 then ((some (([(a0_0) % 256, (a0_1) % 256] : List Int) : List Int)).bind fun y189 => (if a0_0 = 2 then (object_Bytes.j0 k y189 a0_0 (a0_0 == 2) a0_0 a0_1 a0_2 a0_3 a0_4 a0_5 a0_6 a0_7 a0_8 a0_9 a0_10 a0_11) else (object_Bytes.j0 k y189 a0_0 (a0_0 == 4) a0_0 a0_1 a0_2 a0_3 a0_4 a0_5 a0_6 a0_7 a0_8 a0_9 a0_10 a0_11))) else (some (([] : List Int), t188)))
theorem object_Bytes.mono_l : ∀ k, (∀ y0 y1 y2 y3 y4 y5 y6 y7 y8 y9 y10 y11 y12 y13 y14, LeO (object_Bytes.j0 k y0 y1 y2 y3 y4 y5 y6 y7 y8 y9 y10 y11 y12 y13 y14) (object_Bytes.j0 (k + 1) y0 y1 y2 y3 y4 y5 y6 y7 y8 y9 y10 y11 y12 y13 y14))
 | 0 => fun _ _ _ _ _ _ _ _ _ _ _ _ _ _ _ r h => by simp [object_Bytes.j0] at h
 | k + 1 => by
  have ih0 := object_Bytes.mono_l k
  ·intro y0 y1 y2 y3 y4 y5 y6 y7 y8 y9 y10 y11 y12 y13 y14
   unfold object_Bytes.j0
   repeat' first
   | (with_reducible exact ih0 _ _ _ _ _ _ _ _ _ _ _ _ _ _ _)
   | (with_reducible exact height_Bytes.mono _ _ _ _ _ _ _)
   | (with_reducible exact object_Check.mono _ _ _ _ _ _ _ _ _ _ _ _ _)
   | (with_reducible exact LeO.refl _)
   | (with_reducible exact LeO.none _)
   | (with_reducible refine LeO.ite ?_ ?_)
   | (with_reducible refine LeO.bind ?_ (fun _ => ?_))
   | exact ih0 _ _ _ _ _ _ _ _ _ _ _ _ _ _ _
   | exact height_Bytes.mono _ _ _ _ _ _ _
   | exact object_Check.mono _ _ _ _ _ _ _ _ _ _ _ _ _
   | exact LeO.none _
   | refine LeO.ite ?_ ?_
   | refine LeO.bind ?_ (fun _ => ?_)
theorem object_Bytes.mono : ∀ a0 a1 a2 a3 a4 a5 a6 a7 a8 a9 a10 a11 k, LeO (object_Bytes.f k a0 a1 a2 a3 a4 a5 a6 a7 a8 a9 a10 a11) (object_Bytes.f (k + 1) a0 a1 a2 a3 a4 a5 a6 a7 a8 a9 a10 a11) := by
 intro a0 a1 a2 a3 a4 a5 a6 a7 a8 a9 a10 a11 k
 have ih0 := object_Bytes.mono_l k
 unfold object_Bytes.f
 repeat' first
   | (with_reducible exact ih0 _ _ _ _ _ _ _ _ _ _ _ _ _ _ _)
   | (with_reducible exact height_Bytes.mono _ _ _ _ _ _ _)
   | (with_reducible exact object_Check.mono _ _ _ _ _ _ _ _ _ _ _ _ _)
   | (with_reducible exact LeO.refl _)
   | (with_reducible exact LeO.none _)
   | (with_reducible refine LeO.ite ?_ ?_)
   | (with_reducible refine LeO.bind ?_ (fun _ => ?_))
   | exact ih0 _ _ _ _ _ _ _ _ _ _ _ _ _ _ _
   | exact height_Bytes.mono _ _ _ _ _ _ _
   | exact object_Check.mono _ _ _ _ _ _ _ _ _ _ _ _ _
   | exact LeO.none _
   | refine LeO.ite ?_ ?_
   | refine LeO.bind ?_ (fun _ => ?_)
def object_Bytes.T13 : Bool × List (List Nat × List Nat) := (true, [([], []), ([], []), ([1], [1]), ([2], [2]), ([3], [3]), ([0, 4, 4], [0, 4]), ([], []), ([6], [6]), ([7], [7]), ([8], [8]), ([], []), ([10], [10]), ([11], [11]), ([12], [12]), ([9, 13], [9, 13]), ([5, 14, 5], [5, 14]), ([15, 15, 0, 1, 2, 3, 4, 5, 6, 7, 8, 9, 10, 11, 12, 13, 14, 15], [0, 15])])
def object_Bytes.B13 : List Nat := [0, 0, 2, 6, 14, 31, 0, 64, 192, 448, 0, 1024, 3072, 7168, 16320, 32767, 65535]
theorem object_Bytes.tab13 : rtab .any (opsOf Try.f67 13) = object_Bytes.T13 := by kernel_rfl
theorem object_Bytes.bits13 : waitsOk object_Bytes.T13.2 object_Bytes.B13 = true := by kernel_rfl
theorem object_Bytes.calls (k : Nat) (a0_0 : Int) (a0_1 : Int) (a0_2 : Bool) (a0_3 : Int) (a0_4 : Int) (a0_5 : Int) (a0_6 : Int) (a0_7 : Int) (a0_8 : Int) (a0_9 : Int) (a0_10 : Int) (a0_11 : Int) (r1 : List Int) (r2 : Int) (w : World) (h : object_Bytes.f k a0_0 a0_1 a0_2 a0_3 a0_4 a0_5 a0_6 a0_7 a0_8 a0_9 a0_10 a0_11 = some (r1, r2)) :
  Calls Try.prog 67 #[.agg #[.int .i64 a0_0, .int .i64 a0_1, .bool a0_2, .int .i64 a0_3, .int .i64 a0_4, .int .i64 a0_5, .int .i64 a0_6, .int .i64 a0_7, .int .i64 a0_8, .int .i64 a0_9, .int .i64 a0_10, .int .i64 a0_11]] w fun e w' => ∃ v0_ : Value, e = .returned (.tuple #[v0_, .int .i64 r2]) ∧ Kd.R (Kd.int .u8) 5 w' w.heap.size (fun _ => True) v0_ r1 ∧ Below w.heap.size w w' := by
 have hu34 := Try.underlying34
 have hu30 := Try.underlying30
 have HB := YL (Below.refl w.heap.size w)
 have H : ((object_Check.f k a0_0 a0_1 a0_2 a0_3 a0_4 a0_5 a0_6 a0_7 a0_8 a0_9 a0_10 a0_11).bind fun t188 => (if t188 = 0 then ((some (([(a0_0) % 256, (a0_1) % 256] : List Int) : List Int)).bind fun y189 => (if a0_0 = 2 then (object_Bytes.j0 k y189 a0_0 (a0_0 == 2) a0_0 a0_1 a0_2 a0_3 a0_4 a0_5 a0_6 a0_7 a0_8 a0_9 a0_10 a0_11) else (object_Bytes.j0 k y189 a0_0 (a0_0 == 4) a0_0 a0_1 a0_2 a0_3 a0_4 a0_5 a0_6 a0_7 a0_8 a0_9 a0_10 a0_11))) else (some (([] : List Int), t188)))) = some (r1, r2) := h
 clear h; replace H := Option.bind_eq_some_iff.mp H; obtain ⟨t188, A20, H⟩ := H
 replace H : (if t188 = 0 then ((some (([(a0_0) % 256, (a0_1) % 256] : List Int) : List Int)).bind fun y189 => (if a0_0 = 2 then (object_Bytes.j0 k y189 a0_0 (a0_0 == 2) a0_0 a0_1 a0_2 a0_3 a0_4 a0_5 a0_6 a0_7 a0_8 a0_9 a0_10 a0_11) else (object_Bytes.j0 k y189 a0_0 (a0_0 == 4) a0_0 a0_1 a0_2 a0_3 a0_4 a0_5 a0_6 a0_7 a0_8 a0_9 a0_10 a0_11))) else (some (([] : List Int), t188))) = some (r1, r2) := H
 have A2 := YL A20; clear A20
 by_cases c3 : t188 = 0
 ·rw [if_pos c3] at H
  have c3b0 : (t188 == 0) = true := beq_iff_eq.mpr c3
  have c3b1 : (t188 != 0) = false := bne_eq_false_iff_eq.mpr c3
  clear c3
  obtain ⟨y189, hy189⟩ : ∃ y_ : List Int, y_ = (([(a0_0) % 256, (a0_1) % 256] : List Int)) := ⟨_, rfl⟩
  replace H : (if a0_0 = 2 then (object_Bytes.j0 k y189 a0_0 (a0_0 == 2) a0_0 a0_1 a0_2 a0_3 a0_4 a0_5 a0_6 a0_7 a0_8 a0_9 a0_10 a0_11) else (object_Bytes.j0 k y189 a0_0 (a0_0 == 4) a0_0 a0_1 a0_2 a0_3 a0_4 a0_5 a0_6 a0_7 a0_8 a0_9 a0_10 a0_11)) = some (r1, r2) := by first | (rw [hy189]; with_reducible exact H) | (have H2_ := (Option.bind_some _ _).symm.trans H; rw [hy189]; with_reducible exact H2_) | (have H2_ := (Option.bind_some _ _).symm.trans H; with_reducible exact H2_) | with_reducible exact H | (rw [hy189]; exact H) | exact H
  have Ny189 := YL hy189; clear hy189; have HC4 := YL H; clear H
  go_enter Try.func67, Try.ntmps67
  go_upto_if 22 with (first | ((with_reducible refine gate_dst (N := 1) rfl ?_); refine box_event ?hg (N := 1) ?hd (cs := #[.int .i64 a0_0, .int .i64 a0_1, .bool a0_2, .int .i64 a0_3, .int .i64 a0_4, .int .i64 a0_5, .int .i64 a0_6, .int .i64 a0_7, .int .i64 a0_8, .int .i64 a0_9, .int .i64 a0_10, .int .i64 a0_11]) (t := 34) ?hr ?_; (case hd => rfl); (case hg => rfl); (case hr => first | (go_simp; done) | (go_simp; rfl)); intro gb187 hg w5 hbox hb; have n0_ := YL (YD (by repeat (first | (with_reducible first | exact HB.out | apply YA | apply YB | apply YC) | exact HB.out)) hb); have n1_ := YL (hbox); have n2_ := YL ((by rw [hg]; exact (YE (by repeat (first | (with_reducible first | exact HB.out | apply YA | apply YB | apply YC) | exact HB.out))) : w.heap.size ≤ gb187)); have n3_ := YL ((by rw [hg]; exact (YE (by repeat (first | (with_reducible first | exact HB.out | apply YA | apply YB | apply YC) | exact HB.out))) : w.heap.size ≤ gb187)); clear HB; have HB := n0_; have BK187 := n1_; have GW187 := n2_; have GE187 := n3_; clear n0_ n1_ n2_ n3_; clear hb hbox hg; have q6_0 : w5.cell? ⟨gb187, 0, none⟩ = some (.int .i64 a0_0) := (YI BK187.out 0).trans rfl; have q6_1 : w5.cell? ⟨gb187, 1, none⟩ = some (.int .i64 a0_1) := (YI BK187.out 1).trans rfl; have q6_2 : w5.cell? ⟨gb187, 2, none⟩ = some (.bool a0_2) := (YI BK187.out 2).trans rfl; have q6_3 : w5.cell? ⟨gb187, 3, none⟩ = some (.int .i64 a0_3) := (YI BK187.out 3).trans rfl; have q6_4 : w5.cell? ⟨gb187, 4, none⟩ = some (.int .i64 a0_4) := (YI BK187.out 4).trans rfl; have q6_5 : w5.cell? ⟨gb187, 5, none⟩ = some (.int .i64 a0_5) := (YI BK187.out 5).trans rfl; have q6_6 : w5.cell? ⟨gb187, 6, none⟩ = some (.int .i64 a0_6) := (YI BK187.out 6).trans rfl; have q6_7 : w5.cell? ⟨gb187, 7, none⟩ = some (.int .i64 a0_7) := (YI BK187.out 7).trans rfl; have q6_8 : w5.cell? ⟨gb187, 8, none⟩ = some (.int .i64 a0_8) := (YI BK187.out 8).trans rfl; have q6_9 : w5.cell? ⟨gb187, 9, none⟩ = some (.int .i64 a0_9) := (YI BK187.out 9).trans rfl; have q6_10 : w5.cell? ⟨gb187, 10, none⟩ = some (.int .i64 a0_10) := (YI BK187.out 10).trans rfl; have q6_11 : w5.cell? ⟨gb187, 11, none⟩ = some (.int .i64 a0_11) := (YI BK187.out 11).trans rfl; have f6_0 := YJ BK187.out 0; have f6_1 := YJ BK187.out 1; have f6_2 := YJ BK187.out 2; have f6_3 := YJ BK187.out 3; have f6_4 := YJ BK187.out 4; have f6_5 := YJ BK187.out 5; have f6_6 := YJ BK187.out 6; have f6_7 := YJ BK187.out 7; have f6_8 := YJ BK187.out 8; have f6_9 := YJ BK187.out 9; have f6_10 := YJ BK187.out 10; have f6_11 := YJ BK187.out 11) | ((with_reducible refine gate_callee (f := 26) rfl ?_); refine goesL_ (some 9) rfl rfl Try.func26 (by kernel_rfl) rfl #[.agg #[.int .i64 a0_0, .int .i64 a0_1, .bool a0_2, .int .i64 a0_3, .int .i64 a0_4, .int .i64 a0_5, .int .i64 a0_6, .int .i64 a0_7, .int .i64 a0_8, .int .i64 a0_9, .int .i64 a0_10, .int .i64 a0_11]] rfl (by (try simp only [YP, List.map_cons, List.map_nil]); first | done | rfl | (simp only [YR, YQ]; rfl)) ?_; (with_reducible refine (object_Check.calls k a0_0 a0_1 a0_2 a0_3 a0_4 a0_5 a0_6 a0_7 a0_8 a0_9 a0_10 a0_11 t188 _ A2.out).mono ?_); rintro e w7 ⟨rfl, hb⟩; refine ⟨_, rfl, ?_⟩; have n0_ := YL (YK (g := gb187) (o := .cells #[.int .i64 a0_0, .int .i64 a0_1, .bool a0_2, .int .i64 a0_3, .int .i64 a0_4, .int .i64 a0_5, .int .i64 a0_6, .int .i64 a0_7, .int .i64 a0_8, .int .i64 a0_9, .int .i64 a0_10, .int .i64 a0_11] 34 (0, 0)) (by (with_reducible repeat (first | refine YF ?_ _ | refine YG ?_ | refine YH ?_ _)); exact BK187.out) hb); have n1_ := YL (YD (by repeat (first | (with_reducible first | exact HB.out | apply YA | apply YB | apply YC | refine below_set ?_ GE187.out) | exact HB.out)) hb); clear BK187; clear HB; have BK187 := n0_; have HB := n1_; clear n0_ n1_; (try clear hb); (try clear hb2); (try clear hk); (try clear hi); have q8_0 : w7.cell? ⟨gb187, 0, none⟩ = some (.int .i64 a0_0) := (YI BK187.out 0).trans rfl; have q8_1 : w7.cell? ⟨gb187, 1, none⟩ = some (.int .i64 a0_1) := (YI BK187.out 1).trans rfl; have q8_2 : w7.cell? ⟨gb187, 2, none⟩ = some (.bool a0_2) := (YI BK187.out 2).trans rfl; have q8_3 : w7.cell? ⟨gb187, 3, none⟩ = some (.int .i64 a0_3) := (YI BK187.out 3).trans rfl; have q8_4 : w7.cell? ⟨gb187, 4, none⟩ = some (.int .i64 a0_4) := (YI BK187.out 4).trans rfl; have q8_5 : w7.cell? ⟨gb187, 5, none⟩ = some (.int .i64 a0_5) := (YI BK187.out 5).trans rfl; have q8_6 : w7.cell? ⟨gb187, 6, none⟩ = some (.int .i64 a0_6) := (YI BK187.out 6).trans rfl; have q8_7 : w7.cell? ⟨gb187, 7, none⟩ = some (.int .i64 a0_7) := (YI BK187.out 7).trans rfl; have q8_8 : w7.cell? ⟨gb187, 8, none⟩ = some (.int .i64 a0_8) := (YI BK187.out 8).trans rfl; have q8_9 : w7.cell? ⟨gb187, 9, none⟩ = some (.int .i64 a0_9) := (YI BK187.out 9).trans rfl; have q8_10 : w7.cell? ⟨gb187, 10, none⟩ = some (.int .i64 a0_10) := (YI BK187.out 10).trans rfl; have q8_11 : w7.cell? ⟨gb187, 11, none⟩ = some (.int .i64 a0_11) := (YI BK187.out 11).trans rfl; have f8_0 := YJ BK187.out 0; have f8_1 := YJ BK187.out 1; have f8_2 := YJ BK187.out 2; have f8_3 := YJ BK187.out 3; have f8_4 := YJ BK187.out 4; have f8_5 := YJ BK187.out 5; have f8_6 := YJ BK187.out 6; have f8_7 := YJ BK187.out 7; have f8_8 := YJ BK187.out 8; have f8_9 := YJ BK187.out 9; have f8_10 := YJ BK187.out 10; have f8_11 := YJ BK187.out 11) | ((with_reducible refine gate_dst (N := 19) rfl ?_); refine Kd.R_lit (Kd.int .u8) _ 5 ?hg (N := 19) ?hd (xs := ([(a0_0) % 256, (a0_1) % 256] : List Int)) (inner := [.int .u8 ((a0_0) % 256), .int .u8 ((a0_1) % 256)]) (ok := fun _ => True) (okp := fun _ => True) ?hr ?hp (fun _ hk => hk) trivial (Below.refl _ _) (Nat.le_refl _) (by simp) ?_; (case hd => rfl); (case hg => rfl); (case hr => first | (go_simp; done) | (go_simp; rfl)); (case hp => exact (Reps.one (show Kd.M (Kd.int .u8) _ _ _ ((a0_0) % 256) [.int .u8 ((a0_0) % 256)] from rfl) (Reps.one (show Kd.M (Kd.int .u8) _ _ _ ((a0_1) % 256) [.int .u8 ((a0_1) % 256)] from rfl) (Reps.none _ _)))); intro v190 w9 ho10 hb hg_ hnew_; clear hg_ hnew_; (first | rw [← Ny189.out] at ho10 | (simp only [Int.reduceToNat] at ho10; rw [← Ny189.out] at ho10)); have n0_ := YL (Kd.R_lower ho10 (YE (by repeat (first | (with_reducible first | exact HB.out | apply YA | apply YB | apply YC | refine below_set ?_ GE187.out) | exact HB.out)))); have n1_ := YL (YK (g := gb187) (o := .cells #[.int .i64 a0_0, .int .i64 a0_1, .bool a0_2, .int .i64 a0_3, .int .i64 a0_4, .int .i64 a0_5, .int .i64 a0_6, .int .i64 a0_7, .int .i64 a0_8, .int .i64 a0_9, .int .i64 a0_10, .int .i64 a0_11] 34 (0, 0)) (by (with_reducible repeat (first | refine YF ?_ _ | refine YG ?_ | refine YH ?_ _)); exact BK187.out) hb); have n2_ := YL (YD (by repeat (first | (with_reducible first | exact HB.out | apply YA | apply YB | apply YC | refine below_set ?_ GE187.out) | exact HB.out)) hb); clear BK187; clear HB; have HO191 := n0_; have BK187 := n1_; have HB := n2_; clear n0_ n1_ n2_; clear hb ho10; have q11_0 : w9.cell? ⟨gb187, 0, none⟩ = some (.int .i64 a0_0) := (YI BK187.out 0).trans rfl; have q11_1 : w9.cell? ⟨gb187, 1, none⟩ = some (.int .i64 a0_1) := (YI BK187.out 1).trans rfl; have q11_2 : w9.cell? ⟨gb187, 2, none⟩ = some (.bool a0_2) := (YI BK187.out 2).trans rfl; have q11_3 : w9.cell? ⟨gb187, 3, none⟩ = some (.int .i64 a0_3) := (YI BK187.out 3).trans rfl; have q11_4 : w9.cell? ⟨gb187, 4, none⟩ = some (.int .i64 a0_4) := (YI BK187.out 4).trans rfl; have q11_5 : w9.cell? ⟨gb187, 5, none⟩ = some (.int .i64 a0_5) := (YI BK187.out 5).trans rfl; have q11_6 : w9.cell? ⟨gb187, 6, none⟩ = some (.int .i64 a0_6) := (YI BK187.out 6).trans rfl; have q11_7 : w9.cell? ⟨gb187, 7, none⟩ = some (.int .i64 a0_7) := (YI BK187.out 7).trans rfl; have q11_8 : w9.cell? ⟨gb187, 8, none⟩ = some (.int .i64 a0_8) := (YI BK187.out 8).trans rfl; have q11_9 : w9.cell? ⟨gb187, 9, none⟩ = some (.int .i64 a0_9) := (YI BK187.out 9).trans rfl; have q11_10 : w9.cell? ⟨gb187, 10, none⟩ = some (.int .i64 a0_10) := (YI BK187.out 10).trans rfl; have q11_11 : w9.cell? ⟨gb187, 11, none⟩ = some (.int .i64 a0_11) := (YI BK187.out 11).trans rfl; have f11_0 := YJ BK187.out 0; have f11_1 := YJ BK187.out 1; have f11_2 := YJ BK187.out 2; have f11_3 := YJ BK187.out 3; have f11_4 := YJ BK187.out 4; have f11_5 := YJ BK187.out 5; have f11_6 := YJ BK187.out 6; have f11_7 := YJ BK187.out 7; have f11_8 := YJ BK187.out 8; have f11_9 := YJ BK187.out 9; have f11_10 := YJ BK187.out 10; have f11_11 := YJ BK187.out 11))
  (try simp only [Act.put, YM, YN, YO])
  go_cut [22] (fun v22 wc => ∃ (kq : Nat) (x22_3 : Bool), v22 = .bool x22_3 ∧ Aside0 (object_Bytes.j0 kq y189 a0_0 x22_3 a0_0 a0_1 a0_2 a0_3 a0_4 a0_5 a0_6 a0_7 a0_8 a0_9 a0_10 a0_11 = some (r1, r2)) ∧ Aside0 (kq ≤ k) ∧ Aside0 (Kd.R (Kd.int .u8) 5 wc w.heap.size (fun _ => True) v190 y189) ∧ Aside0 (wc.heap[gb187]? = some (.cells #[.int .i64 a0_0, .int .i64 a0_1, .bool a0_2, .int .i64 a0_3, .int .i64 a0_4, .int .i64 a0_5, .int .i64 a0_6, .int .i64 a0_7, .int .i64 a0_8, .int .i64 a0_9, .int .i64 a0_10, .int .i64 a0_11] 34 (0, 0))) ∧ Aside0 (Below w.heap.size w wc))
  case first =>
   have H := HC4.out
   clear HC4
   by_cases c12 : a0_0 = 2
   ·rw [if_pos c12] at H
    have c12b0 : (a0_0 == 2) = true := beq_iff_eq.mpr c12
    have c12b1 : (a0_0 != 2) = false := bne_eq_false_iff_eq.mpr c12
    clear c12
    (first | rw [c12b0] | (simp only [i64_w, i32_w]; rw [c12b0]) | rw [c12b1] | skip)
    have H' := YL H
    clear H
    go_wp2
    go_meet
    case rel => exact ⟨_, ((a0_0 == 2)), (by first | rfl | (simp; done) | (simp [*]; done)), H', ⟨by first | omega | exact Nat.le_refl _⟩, ⟨by (with_reducible repeat (first | apply YS | apply YT | apply YU)); exact HO191.out⟩, ⟨by (with_reducible repeat (first | refine YF ?_ _ | refine YG ?_ | refine YH ?_ _)); exact BK187.out⟩, ⟨by repeat (first | (with_reducible first | exact HB.out | apply YA | apply YB | apply YC | refine below_set ?_ GE187.out) | exact HB.out)⟩⟩
   rw [if_neg c12] at H
   have c12b0 : (a0_0 == 2) = false := beq_eq_false_iff_ne.mpr c12
   have c12b1 : (a0_0 != 2) = true := bne_iff_ne.mpr c12
   (first | rw [c12b0] | (simp only [i64_w, i32_w]; rw [c12b0]) | rw [c12b1] | skip)
   have H' := YL H
   clear H
   go_wp2
   go_meet
   case rel => exact ⟨_, ((a0_0 == 4)), (by first | rfl | (simp; done) | (simp [*]; done)), H', ⟨by first | omega | exact Nat.le_refl _⟩, ⟨by (with_reducible repeat (first | apply YS | apply YT | apply YU)); exact HO191.out⟩, ⟨by (with_reducible repeat (first | refine YF ?_ _ | refine YG ?_ | refine YH ?_ _)); exact BK187.out⟩, ⟨by repeat (first | (with_reducible first | exact HB.out | apply YA | apply YB | apply YC | refine below_set ?_ GE187.out) | exact HB.out)⟩⟩
  case rest =>
   clear HC4
   try clear c1; try clear c2
   try clear p2; try clear c3
   try clear c3b0; try clear c3b1
   try clear c6; try clear c12
   try clear c12b0; try clear c12b1
   try clear q11_0; try clear q11_1
   try clear q11_10; try clear q11_11
   try clear q11_2; try clear q11_3
   try clear q11_4; try clear q11_5
   try clear q11_6; try clear q11_7
   try clear q11_8; try clear q11_9
   try clear q6_0; try clear q6_1
   try clear q6_10; try clear q6_11
   try clear q6_2; try clear q6_3
   try clear q6_4; try clear q6_5
   try clear q6_6; try clear q6_7
   try clear q6_8; try clear q6_9
   try clear q8_0; try clear q8_1
   try clear q8_10; try clear q8_11
   try clear q8_2; try clear q8_3
   try clear q8_4; try clear q8_5
   try clear q8_6; try clear q8_7
   try clear q8_8; try clear q8_9
   try clear f11_0; try clear f11_1
   try clear f11_10; try clear f11_11
   try clear f11_2; try clear f11_3
   try clear f11_4; try clear f11_5
   try clear f11_6; try clear f11_7
   try clear f11_8; try clear f11_9
   try clear f6_0; try clear f6_1
   try clear f6_10; try clear f6_11
   try clear f6_2; try clear f6_3
   try clear f6_4; try clear f6_5
   try clear f6_6; try clear f6_7
   try clear f6_8; try clear f6_9
   try clear f8_0; try clear f8_1
   try clear f8_10; try clear f8_11
   try clear f8_2; try clear f8_3
   try clear f8_4; try clear f8_5
   try clear f8_6; try clear f8_7
   try clear f8_8; try clear f8_9
   obtain ⟨kq, x22_3, rfl, HA, HJ3, HO_5, BK187, HB⟩ := hcut
   cases kq with
   | zero => exact absurd HA.out (by simp [object_Bytes.j0])
   | succ kj3 =>
    have H := HA.out
    clear HA
    simp only [object_Bytes.j0] at H
    by_cases c13 : x22_3 = true
    ·subst c13
     have H1 : ((height_Bytes.f kj3 a0_2 a0_3 a0_4 a0_5 a0_6 a0_7).bind fun bt192 => (if bt192.2 = 0 then (if y189.length + bt192.1.length < 140737488355328 then ((some (y189 ++ bt192.1 : List Int)).bind fun y196 => (if a0_0 = 4 then ((some (([(a0_11 / 256) % 256, (a0_11) % 256] : List Int) : List Int)).bind fun y199 => (if y196.length + y199.length < 140737488355328 then (some ((y196 ++ y199), 0)) else (none))) else (some (y196, 0)))) else (none)) else (some (([] : List Int), bt192.2)))) = some (r1, r2) := by rw [if_pos rfl] at H; exact H
     clear H
     have H := H1
     clear H1; replace H := Option.bind_eq_some_iff.mp H
     obtain ⟨⟨t192, t195⟩, A140, H⟩ := H
     replace H : (if t195 = 0 then (if y189.length + t192.length < 140737488355328 then ((some (y189 ++ t192 : List Int)).bind fun y196 => (if a0_0 = 4 then ((some (([(a0_11 / 256) % 256, (a0_11) % 256] : List Int) : List Int)).bind fun y199 => (if y196.length + y199.length < 140737488355328 then (some ((y196 ++ y199), 0)) else (none))) else (some (y196, 0)))) else (none)) else (some (([] : List Int), t195))) = some (r1, r2) := H
     have A14 := YL A140; clear A140
     by_cases c15 : t195 = 0
     ·rw [if_pos c15] at H
      have c15b0 : (t195 == 0) = true := beq_iff_eq.mpr c15
      have c15b1 : (t195 != 0) = false := bne_eq_false_iff_eq.mpr c15
      clear c15
      by_cases c16 : y189.length + t192.length < 140737488355328
      rotate_left
      ·rw [if_neg c16] at H
       exact absurd H (by simp)
      rw [if_pos c16] at H; have LMc16 := YL c16; clear c16
      obtain ⟨y196, hy196⟩ : ∃ y_ : List Int, y_ = (y189 ++ t192) := ⟨_, rfl⟩
      replace H : (if a0_0 = 4 then ((some (([(a0_11 / 256) % 256, (a0_11) % 256] : List Int) : List Int)).bind fun y199 => (if y196.length + y199.length < 140737488355328 then (some ((y196 ++ y199), 0)) else (none))) else (some (y196, 0))) = some (r1, r2) := by first | (rw [hy196]; with_reducible exact H) | (have H2_ := (Option.bind_some _ _).symm.trans H; rw [hy196]; with_reducible exact H2_) | (have H2_ := (Option.bind_some _ _).symm.trans H; with_reducible exact H2_) | with_reducible exact H | (rw [hy196]; exact H) | exact H
      have Ny196 := YL hy196; clear hy196
      by_cases c17 : a0_0 = 4
      ·rw [if_pos c17] at H
       have c17b0 : (a0_0 == 4) = true := beq_iff_eq.mpr c17
       have c17b1 : (a0_0 != 4) = false := bne_eq_false_iff_eq.mpr c17
       clear c17
       obtain ⟨y199, hy199⟩ : ∃ y_ : List Int, y_ = (([(a0_11 / 256) % 256, (a0_11) % 256] : List Int)) := ⟨_, rfl⟩
       replace H : (if y196.length + y199.length < 140737488355328 then (some ((y196 ++ y199), 0)) else (none)) = some (r1, r2) := by first | (rw [hy199]; with_reducible exact H) | (have H2_ := (Option.bind_some _ _).symm.trans H; rw [hy199]; with_reducible exact H2_) | (have H2_ := (Option.bind_some _ _).symm.trans H; with_reducible exact H2_) | with_reducible exact H | (rw [hy199]; exact H) | exact H
       have Ny199 := YL hy199; clear hy199
       by_cases c18 : y196.length + y199.length < 140737488355328
       rotate_left
       ·rw [if_neg c18] at H
        exact absurd H (by simp)
       rw [if_pos c18] at H; have LMc18 := YL c18; clear c18
       obtain ⟨y202, hy202⟩ : ∃ y_ : List Int, y_ = (y196 ++ y199) := ⟨_, rfl⟩
       replace H : (some (y202, 0)) = some (r1, r2) := by first | (rw [hy202]; with_reducible exact H) | (have H2_ := (Option.bind_some _ _).symm.trans H; rw [hy202]; with_reducible exact H2_) | (have H2_ := (Option.bind_some _ _).symm.trans H; with_reducible exact H2_) | with_reducible exact H | (rw [hy202]; exact H) | exact H
       have Ny202 := YL hy202; clear hy202
       simp only [Option.some.injEq, Prod.mk.injEq] at H
       obtain ⟨rfl, rfl⟩ := H
       have q19_0 : wc.cell? ⟨gb187, 0, none⟩ = some (.int .i64 a0_0) := (YI BK187.out 0).trans rfl
       have q19_1 : wc.cell? ⟨gb187, 1, none⟩ = some (.int .i64 a0_1) := (YI BK187.out 1).trans rfl
       have q19_2 : wc.cell? ⟨gb187, 2, none⟩ = some (.bool a0_2) := (YI BK187.out 2).trans rfl
       have q19_3 : wc.cell? ⟨gb187, 3, none⟩ = some (.int .i64 a0_3) := (YI BK187.out 3).trans rfl
       have q19_4 : wc.cell? ⟨gb187, 4, none⟩ = some (.int .i64 a0_4) := (YI BK187.out 4).trans rfl
       have q19_5 : wc.cell? ⟨gb187, 5, none⟩ = some (.int .i64 a0_5) := (YI BK187.out 5).trans rfl
       have q19_6 : wc.cell? ⟨gb187, 6, none⟩ = some (.int .i64 a0_6) := (YI BK187.out 6).trans rfl
       have q19_7 : wc.cell? ⟨gb187, 7, none⟩ = some (.int .i64 a0_7) := (YI BK187.out 7).trans rfl
       have q19_8 : wc.cell? ⟨gb187, 8, none⟩ = some (.int .i64 a0_8) := (YI BK187.out 8).trans rfl
       have q19_9 : wc.cell? ⟨gb187, 9, none⟩ = some (.int .i64 a0_9) := (YI BK187.out 9).trans rfl
       have q19_10 : wc.cell? ⟨gb187, 10, none⟩ = some (.int .i64 a0_10) := (YI BK187.out 10).trans rfl
       have q19_11 : wc.cell? ⟨gb187, 11, none⟩ = some (.int .i64 a0_11) := (YI BK187.out 11).trans rfl
       have f19_0 := YJ BK187.out 0
       have f19_1 := YJ BK187.out 1
       have f19_2 := YJ BK187.out 2
       have f19_3 := YJ BK187.out 3
       have f19_4 := YJ BK187.out 4
       have f19_5 := YJ BK187.out 5
       have f19_6 := YJ BK187.out 6
       have f19_7 := YJ BK187.out 7
       have f19_8 := YJ BK187.out 8
       have f19_9 := YJ BK187.out 9
       have f19_10 := YJ BK187.out 10
       have f19_11 := YJ BK187.out 11
       go_wp2_with (first | ((with_reducible refine gate_callee (f := 69) rfl ?_); refine goesL_ (some 28) rfl rfl Try.func69 (by kernel_rfl) rfl #[.agg #[.bool a0_2, .int .i64 a0_3, .int .i64 a0_4, .int .i64 a0_5, .int .i64 a0_6, .int .i64 a0_7]] rfl (by (try simp only [YP, List.map_cons, List.map_nil]); first | done | rfl | (simp only [YR, YQ]; rfl)) ?_; (with_reducible refine (height_Bytes.calls kj3 a0_2 a0_3 a0_4 a0_5 a0_6 a0_7 t192 t195 _ A14.out).mono ?_); rintro e w20 ⟨v193, rfl, ho0, hb⟩; refine ⟨_, rfl, ?_⟩; have n0_ := YL (Kd.R_elder' (by (with_reducible repeat (first | apply YS | apply YT | apply YU)); exact HO_5.out) (Kd.R_base ho0) hb); have n1_ := YL (Kd.R_lower (Kd.R_new' ho0 (Kd.R_lt (by (with_reducible repeat (first | apply YS | apply YT | apply YU)); exact HO_5.out))) (YE (by repeat (first | (with_reducible first | exact HB.out | apply YA | apply YB | apply YC | refine below_set ?_ GE187.out) | exact HB.out)))); have n2_ := YL (YK (g := gb187) (o := .cells #[.int .i64 a0_0, .int .i64 a0_1, .bool a0_2, .int .i64 a0_3, .int .i64 a0_4, .int .i64 a0_5, .int .i64 a0_6, .int .i64 a0_7, .int .i64 a0_8, .int .i64 a0_9, .int .i64 a0_10, .int .i64 a0_11] 34 (0, 0)) (by (with_reducible repeat (first | refine YF ?_ _ | refine YG ?_ | refine YH ?_ _)); exact BK187.out) hb); have n3_ := YL (YD (by repeat (first | (with_reducible first | exact HB.out | apply YA | apply YB | apply YC | refine below_set ?_ GE187.out) | exact HB.out)) hb); clear HO_5; clear BK187; clear HB; have HO_5 := n0_; have HO194 := n1_; have BK187 := n2_; have HB := n3_; clear n0_ n1_ n2_ n3_; (try clear hb); (try clear hb2); (try clear hk); (try clear hi); (try clear ho0); obtain ⟨Ao22, co22, eo22⟩ := Kd.R_slice HO194.out; subst eo22) | ((with_reducible refine gate_builtin (b := .append) (xs := #[.tmp 34, .tmp 35]) rfl ?_); at_builtin; refine Kd.R_append_rows (Kd.int .u8) (w0 := w) w.heap.size rfl (.tmp 34) (.tmp 35) 107 5 (.int .u8 0) 1 rfl Try.underlying107 info5 rfl (by decide) (by omega) v190 y189 t192 _ _ _ (fun k_ => some k_ ≠ (.slice Ao22 t192.length co22 : Value).ownBlock) (fun _ => False) rfl rfl ?aO ?aR (fun _ _ h => h) (fun _ h => h.elim) ?aF ?aB ?aS ?aL ?_; (case aR => repeat (first | exact (Kd.R_reads' HO194.out).2.2 | (with_reducible refine Kd.C_alloc ?_ _) | (with_reducible refine Kd.C_drewN ?_ _) | (with_reducible refine Kd.C_drew ?_))); (case aB => exact (by repeat (first | (with_reducible first | exact HB.out | apply YA | apply YB | apply YC | refine below_set ?_ GE187.out) | exact HB.out))); (case aF => exact (fun k_ hk => Kd.fresh' (Kd.R_lt (by (with_reducible repeat (first | apply YS | apply YT | apply YU)); exact HO194.out)) k_ hk)); (case aO => exact (by (with_reducible repeat (first | apply YS | apply YT | apply YU)); exact Kd.R_mono HO_5.out (fun _ hk => by first | exact hk.2 | exact trivial | (simp [hk]; done) | simp_all))); (case aS => exact (YE (by repeat (first | (with_reducible first | exact HB.out | apply YA | apply YB | apply YC | refine below_set ?_ GE187.out) | exact HB.out)))); (case aL => have := LMc16.out; omega); intro v197 w21 ho hb hg hat; rw [← Ny196.out] at ho; have n0_ := YL (blk_grown (g := gb187) (o := .cells #[.int .i64 a0_0, .int .i64 a0_1, .bool a0_2, .int .i64 a0_3, .int .i64 a0_4, .int .i64 a0_5, .int .i64 a0_6, .int .i64 a0_7, .int .i64 a0_8, .int .i64 a0_9, .int .i64 a0_10, .int .i64 a0_11] 34 (0, 0)) (by (with_reducible repeat (first | refine YF ?_ _ | refine YG ?_ | refine YH ?_ _)); exact BK187.out) hg (Kd.R_ne HO_5.out BK187.out (by decide))); have n1_ := YL (Kd.R_after (ok := (fun _ => True)) (by (with_reducible repeat (first | apply YS | apply YT | apply YU)); exact HO194.out) hg hat); have n2_ := YL (hb); have n3_ := YL (ho); clear BK187; clear HO194; clear HB; clear HO_5; have BK187 := n0_; have HO194 := n1_; have HB := n2_; have HO198 := n3_; clear n0_ n1_ n2_ n3_; clear ho hb hg hat; have q23_0 : w21.cell? ⟨gb187, 0, none⟩ = some (.int .i64 a0_0) := (YI BK187.out 0).trans rfl; have q23_1 : w21.cell? ⟨gb187, 1, none⟩ = some (.int .i64 a0_1) := (YI BK187.out 1).trans rfl; have q23_2 : w21.cell? ⟨gb187, 2, none⟩ = some (.bool a0_2) := (YI BK187.out 2).trans rfl; have q23_3 : w21.cell? ⟨gb187, 3, none⟩ = some (.int .i64 a0_3) := (YI BK187.out 3).trans rfl; have q23_4 : w21.cell? ⟨gb187, 4, none⟩ = some (.int .i64 a0_4) := (YI BK187.out 4).trans rfl; have q23_5 : w21.cell? ⟨gb187, 5, none⟩ = some (.int .i64 a0_5) := (YI BK187.out 5).trans rfl; have q23_6 : w21.cell? ⟨gb187, 6, none⟩ = some (.int .i64 a0_6) := (YI BK187.out 6).trans rfl; have q23_7 : w21.cell? ⟨gb187, 7, none⟩ = some (.int .i64 a0_7) := (YI BK187.out 7).trans rfl; have q23_8 : w21.cell? ⟨gb187, 8, none⟩ = some (.int .i64 a0_8) := (YI BK187.out 8).trans rfl; have q23_9 : w21.cell? ⟨gb187, 9, none⟩ = some (.int .i64 a0_9) := (YI BK187.out 9).trans rfl; have q23_10 : w21.cell? ⟨gb187, 10, none⟩ = some (.int .i64 a0_10) := (YI BK187.out 10).trans rfl; have q23_11 : w21.cell? ⟨gb187, 11, none⟩ = some (.int .i64 a0_11) := (YI BK187.out 11).trans rfl; have f23_0 := YJ BK187.out 0; have f23_1 := YJ BK187.out 1; have f23_2 := YJ BK187.out 2; have f23_3 := YJ BK187.out 3; have f23_4 := YJ BK187.out 4; have f23_5 := YJ BK187.out 5; have f23_6 := YJ BK187.out 6; have f23_7 := YJ BK187.out 7; have f23_8 := YJ BK187.out 8; have f23_9 := YJ BK187.out 9; have f23_10 := YJ BK187.out 10; have f23_11 := YJ BK187.out 11) | ((with_reducible refine gate_dst (N := 66) rfl ?_); refine Kd.R_lit (Kd.int .u8) _ 5 ?hg (N := 66) ?hd (xs := ([(a0_11 / 256) % 256, (a0_11) % 256] : List Int)) (inner := [.int .u8 ((a0_11 / 256) % 256), .int .u8 ((a0_11) % 256)]) (ok := fun _ => True) (okp := fun _ => True) ?hr ?hp (fun _ hk => hk) trivial (Below.refl _ _) (Nat.le_refl _) (by simp) ?_; (case hd => rfl); (case hg => rfl); (case hr => first | (go_simp; done) | (go_simp; rfl)); (case hp => exact (Reps.one (show Kd.M (Kd.int .u8) _ _ _ ((a0_11 / 256) % 256) [.int .u8 ((a0_11 / 256) % 256)] from rfl) (Reps.one (show Kd.M (Kd.int .u8) _ _ _ ((a0_11) % 256) [.int .u8 ((a0_11) % 256)] from rfl) (Reps.none _ _)))); intro v200 w24 ho25 hb hg_ hnew_; clear hg_ hnew_; (first | rw [← Ny199.out] at ho25 | (simp only [Int.reduceToNat] at ho25; rw [← Ny199.out] at ho25)); have n0_ := YL (Kd.R_elder' (by (with_reducible repeat (first | apply YS | apply YT | apply YU)); exact HO194.out) (Kd.R_base ho25) hb); have n1_ := YL (Kd.R_elder' (by (with_reducible repeat (first | apply YS | apply YT | apply YU)); exact HO198.out) (Kd.R_base ho25) hb); have n2_ := YL (Kd.R_lower (Kd.R_new' (Kd.R_new' ho25 (Kd.R_lt (by (with_reducible repeat (first | apply YS | apply YT | apply YU)); exact HO194.out))) (Kd.R_lt (by (with_reducible repeat (first | apply YS | apply YT | apply YU)); exact HO198.out))) (YE (by repeat (first | (with_reducible first | exact HB.out | apply YA | apply YB | apply YC | refine below_set ?_ GE187.out) | exact HB.out)))); have n3_ := YL (YK (g := gb187) (o := .cells #[.int .i64 a0_0, .int .i64 a0_1, .bool a0_2, .int .i64 a0_3, .int .i64 a0_4, .int .i64 a0_5, .int .i64 a0_6, .int .i64 a0_7, .int .i64 a0_8, .int .i64 a0_9, .int .i64 a0_10, .int .i64 a0_11] 34 (0, 0)) (by (with_reducible repeat (first | refine YF ?_ _ | refine YG ?_ | refine YH ?_ _)); exact BK187.out) hb); have n4_ := YL (YD (by repeat (first | (with_reducible first | exact HB.out | apply YA | apply YB | apply YC | refine below_set ?_ GE187.out) | exact HB.out)) hb); clear HO194; clear HO198; clear BK187; clear HB; have HO194 := n0_; have HO198 := n1_; have HO201 := n2_; have BK187 := n3_; have HB := n4_; clear n0_ n1_ n2_ n3_ n4_; clear hb ho25; obtain ⟨Ao27, co27, eo27⟩ := Kd.R_slice HO201.out; subst eo27) | ((with_reducible refine gate_builtin (b := .append) (xs := #[.tmp 58, .tmp 66]) rfl ?_); at_builtin; refine Kd.R_append_rows (Kd.int .u8) (w0 := w) w.heap.size rfl (.tmp 58) (.tmp 66) 107 5 (.int .u8 0) 1 rfl Try.underlying107 info5 rfl (by decide) (by omega) v197 y196 y199 _ _ _ (fun k_ => some k_ ≠ (.slice Ao22 t192.length co22 : Value).ownBlock ∧ some k_ ≠ (.slice Ao27 y199.length co27 : Value).ownBlock) (fun _ => False) rfl rfl ?aO ?aR (fun _ _ h => h) (fun _ h => h.elim) ?aF ?aB ?aS ?aL ?_; (case aR => repeat (first | exact (Kd.R_reads' HO201.out).2.2 | (with_reducible refine Kd.C_alloc ?_ _) | (with_reducible refine Kd.C_drewN ?_ _) | (with_reducible refine Kd.C_drew ?_))); (case aB => exact (by repeat (first | (with_reducible first | exact HB.out | apply YA | apply YB | apply YC | refine below_set ?_ GE187.out) | exact HB.out))); (case aF => exact (fun k_ hk => ⟨Kd.fresh' (Kd.R_lt (by (with_reducible repeat (first | apply YS | apply YT | apply YU)); exact HO194.out)) k_ hk, Kd.fresh' (Kd.R_lt (by (with_reducible repeat (first | apply YS | apply YT | apply YU)); exact HO201.out)) k_ hk⟩)); (case aO => exact (by (with_reducible repeat (first | apply YS | apply YT | apply YU)); exact HO198.out)); (case aS => exact (YE (by repeat (first | (with_reducible first | exact HB.out | apply YA | apply YB | apply YC | refine below_set ?_ GE187.out) | exact HB.out)))); (case aL => have := LMc18.out; omega); intro v203 w26 ho hb hg hat; rw [← Ny202.out] at ho; have n0_ := YL (blk_grown (g := gb187) (o := .cells #[.int .i64 a0_0, .int .i64 a0_1, .bool a0_2, .int .i64 a0_3, .int .i64 a0_4, .int .i64 a0_5, .int .i64 a0_6, .int .i64 a0_7, .int .i64 a0_8, .int .i64 a0_9, .int .i64 a0_10, .int .i64 a0_11] 34 (0, 0)) (by (with_reducible repeat (first | refine YF ?_ _ | refine YG ?_ | refine YH ?_ _)); exact BK187.out) hg (Kd.R_ne HO198.out BK187.out (by decide))); have n1_ := YL (Kd.R_after (ok := (fun k_ => some k_ ≠ (.slice Ao27 y199.length co27 : Value).ownBlock)) (by (with_reducible repeat (first | apply YS | apply YT | apply YU)); exact Kd.R_mono HO194.out (fun _ hk => by first | exact ⟨hk.2, hk.1.2⟩ | exact trivial | (simp [hk]; done) | simp_all)) hg hat); have n2_ := YL (Kd.R_after (ok := (fun k_ => some k_ ≠ (.slice Ao22 t192.length co22 : Value).ownBlock)) (by (with_reducible repeat (first | apply YS | apply YT | apply YU)); exact Kd.R_mono HO201.out (fun _ hk => by first | exact ⟨hk.1.2, hk.2⟩ | exact trivial | (simp [hk]; done) | simp_all)) hg hat); have n3_ := YL (hb); have n4_ := YL (ho); clear BK187; clear HO194; clear HO201; clear HB; clear HO198; have BK187 := n0_; have HO194 := n1_; have HO201 := n2_; have HB := n3_; have HO204 := n4_; clear n0_ n1_ n2_ n3_ n4_; clear ho hb hg hat))
       go_ret2
       exact ⟨_, by first | rfl | (simp [errW_none, errW_some] <;> rfl) | (simp [*, errW_none, errW_some] <;> rfl), by (with_reducible repeat (first | apply YS | apply YT | apply YU)); exact Kd.R_mono HO204.out (fun _ hk => trivial), by repeat (first | (with_reducible first | exact HB.out | apply YA | apply YB | apply YC | refine below_set ?_ GE187.out) | exact HB.out)⟩
      rw [if_neg c17] at H
      have c17b0 : (a0_0 == 4) = false := beq_eq_false_iff_ne.mpr c17
      have c17b1 : (a0_0 != 4) = true := bne_iff_ne.mpr c17
      simp only [Option.some.injEq, Prod.mk.injEq] at H
      obtain ⟨rfl, rfl⟩ := H
      have q28_0 : wc.cell? ⟨gb187, 0, none⟩ = some (.int .i64 a0_0) := (YI BK187.out 0).trans rfl
      have q28_1 : wc.cell? ⟨gb187, 1, none⟩ = some (.int .i64 a0_1) := (YI BK187.out 1).trans rfl
      have q28_2 : wc.cell? ⟨gb187, 2, none⟩ = some (.bool a0_2) := (YI BK187.out 2).trans rfl
      have q28_3 : wc.cell? ⟨gb187, 3, none⟩ = some (.int .i64 a0_3) := (YI BK187.out 3).trans rfl
      have q28_4 : wc.cell? ⟨gb187, 4, none⟩ = some (.int .i64 a0_4) := (YI BK187.out 4).trans rfl
      have q28_5 : wc.cell? ⟨gb187, 5, none⟩ = some (.int .i64 a0_5) := (YI BK187.out 5).trans rfl
      have q28_6 : wc.cell? ⟨gb187, 6, none⟩ = some (.int .i64 a0_6) := (YI BK187.out 6).trans rfl
      have q28_7 : wc.cell? ⟨gb187, 7, none⟩ = some (.int .i64 a0_7) := (YI BK187.out 7).trans rfl
      have q28_8 : wc.cell? ⟨gb187, 8, none⟩ = some (.int .i64 a0_8) := (YI BK187.out 8).trans rfl
      have q28_9 : wc.cell? ⟨gb187, 9, none⟩ = some (.int .i64 a0_9) := (YI BK187.out 9).trans rfl
      have q28_10 : wc.cell? ⟨gb187, 10, none⟩ = some (.int .i64 a0_10) := (YI BK187.out 10).trans rfl
      have q28_11 : wc.cell? ⟨gb187, 11, none⟩ = some (.int .i64 a0_11) := (YI BK187.out 11).trans rfl
      have f28_0 := YJ BK187.out 0
      have f28_1 := YJ BK187.out 1
      have f28_2 := YJ BK187.out 2
      have f28_3 := YJ BK187.out 3
      have f28_4 := YJ BK187.out 4
      have f28_5 := YJ BK187.out 5
      have f28_6 := YJ BK187.out 6
      have f28_7 := YJ BK187.out 7
      have f28_8 := YJ BK187.out 8
      have f28_9 := YJ BK187.out 9
      have f28_10 := YJ BK187.out 10
      have f28_11 := YJ BK187.out 11
      go_wp2_with (first | ((with_reducible refine gate_callee (f := 69) rfl ?_); refine goesL_ (some 28) rfl rfl Try.func69 (by kernel_rfl) rfl #[.agg #[.bool a0_2, .int .i64 a0_3, .int .i64 a0_4, .int .i64 a0_5, .int .i64 a0_6, .int .i64 a0_7]] rfl (by (try simp only [YP, List.map_cons, List.map_nil]); first | done | rfl | (simp only [YR, YQ]; rfl)) ?_; (with_reducible refine (height_Bytes.calls kj3 a0_2 a0_3 a0_4 a0_5 a0_6 a0_7 t192 t195 _ A14.out).mono ?_); rintro e w29 ⟨v193, rfl, ho0, hb⟩; refine ⟨_, rfl, ?_⟩; have n0_ := YL (Kd.R_elder' (by (with_reducible repeat (first | apply YS | apply YT | apply YU)); exact HO_5.out) (Kd.R_base ho0) hb); have n1_ := YL (Kd.R_lower (Kd.R_new' ho0 (Kd.R_lt (by (with_reducible repeat (first | apply YS | apply YT | apply YU)); exact HO_5.out))) (YE (by repeat (first | (with_reducible first | exact HB.out | apply YA | apply YB | apply YC | refine below_set ?_ GE187.out) | exact HB.out)))); have n2_ := YL (YK (g := gb187) (o := .cells #[.int .i64 a0_0, .int .i64 a0_1, .bool a0_2, .int .i64 a0_3, .int .i64 a0_4, .int .i64 a0_5, .int .i64 a0_6, .int .i64 a0_7, .int .i64 a0_8, .int .i64 a0_9, .int .i64 a0_10, .int .i64 a0_11] 34 (0, 0)) (by (with_reducible repeat (first | refine YF ?_ _ | refine YG ?_ | refine YH ?_ _)); exact BK187.out) hb); have n3_ := YL (YD (by repeat (first | (with_reducible first | exact HB.out | apply YA | apply YB | apply YC | refine below_set ?_ GE187.out) | exact HB.out)) hb); clear HO_5; clear BK187; clear HB; have HO_5 := n0_; have HO194 := n1_; have BK187 := n2_; have HB := n3_; clear n0_ n1_ n2_ n3_; (try clear hb); (try clear hb2); (try clear hk); (try clear hi); (try clear ho0); obtain ⟨Ao31, co31, eo31⟩ := Kd.R_slice HO194.out; subst eo31) | ((with_reducible refine gate_builtin (b := .append) (xs := #[.tmp 34, .tmp 35]) rfl ?_); at_builtin; refine Kd.R_append_rows (Kd.int .u8) (w0 := w) w.heap.size rfl (.tmp 34) (.tmp 35) 107 5 (.int .u8 0) 1 rfl Try.underlying107 info5 rfl (by decide) (by omega) v190 y189 t192 _ _ _ (fun k_ => some k_ ≠ (.slice Ao31 t192.length co31 : Value).ownBlock) (fun _ => False) rfl rfl ?aO ?aR (fun _ _ h => h) (fun _ h => h.elim) ?aF ?aB ?aS ?aL ?_; (case aR => repeat (first | exact (Kd.R_reads' HO194.out).2.2 | (with_reducible refine Kd.C_alloc ?_ _) | (with_reducible refine Kd.C_drewN ?_ _) | (with_reducible refine Kd.C_drew ?_))); (case aB => exact (by repeat (first | (with_reducible first | exact HB.out | apply YA | apply YB | apply YC | refine below_set ?_ GE187.out) | exact HB.out))); (case aF => exact (fun k_ hk => Kd.fresh' (Kd.R_lt (by (with_reducible repeat (first | apply YS | apply YT | apply YU)); exact HO194.out)) k_ hk)); (case aO => exact (by (with_reducible repeat (first | apply YS | apply YT | apply YU)); exact Kd.R_mono HO_5.out (fun _ hk => by first | exact hk.2 | exact trivial | (simp [hk]; done) | simp_all))); (case aS => exact (YE (by repeat (first | (with_reducible first | exact HB.out | apply YA | apply YB | apply YC | refine below_set ?_ GE187.out) | exact HB.out)))); (case aL => have := LMc16.out; omega); intro v197 w30 ho hb hg hat; rw [← Ny196.out] at ho; have n0_ := YL (blk_grown (g := gb187) (o := .cells #[.int .i64 a0_0, .int .i64 a0_1, .bool a0_2, .int .i64 a0_3, .int .i64 a0_4, .int .i64 a0_5, .int .i64 a0_6, .int .i64 a0_7, .int .i64 a0_8, .int .i64 a0_9, .int .i64 a0_10, .int .i64 a0_11] 34 (0, 0)) (by (with_reducible repeat (first | refine YF ?_ _ | refine YG ?_ | refine YH ?_ _)); exact BK187.out) hg (Kd.R_ne HO_5.out BK187.out (by decide))); have n1_ := YL (Kd.R_after (ok := (fun _ => True)) (by (with_reducible repeat (first | apply YS | apply YT | apply YU)); exact HO194.out) hg hat); have n2_ := YL (hb); have n3_ := YL (ho); clear BK187; clear HO194; clear HB; clear HO_5; have BK187 := n0_; have HO194 := n1_; have HB := n2_; have HO198 := n3_; clear n0_ n1_ n2_ n3_; clear ho hb hg hat; have q32_0 : w30.cell? ⟨gb187, 0, none⟩ = some (.int .i64 a0_0) := (YI BK187.out 0).trans rfl; have q32_1 : w30.cell? ⟨gb187, 1, none⟩ = some (.int .i64 a0_1) := (YI BK187.out 1).trans rfl; have q32_2 : w30.cell? ⟨gb187, 2, none⟩ = some (.bool a0_2) := (YI BK187.out 2).trans rfl; have q32_3 : w30.cell? ⟨gb187, 3, none⟩ = some (.int .i64 a0_3) := (YI BK187.out 3).trans rfl; have q32_4 : w30.cell? ⟨gb187, 4, none⟩ = some (.int .i64 a0_4) := (YI BK187.out 4).trans rfl; have q32_5 : w30.cell? ⟨gb187, 5, none⟩ = some (.int .i64 a0_5) := (YI BK187.out 5).trans rfl; have q32_6 : w30.cell? ⟨gb187, 6, none⟩ = some (.int .i64 a0_6) := (YI BK187.out 6).trans rfl; have q32_7 : w30.cell? ⟨gb187, 7, none⟩ = some (.int .i64 a0_7) := (YI BK187.out 7).trans rfl; have q32_8 : w30.cell? ⟨gb187, 8, none⟩ = some (.int .i64 a0_8) := (YI BK187.out 8).trans rfl; have q32_9 : w30.cell? ⟨gb187, 9, none⟩ = some (.int .i64 a0_9) := (YI BK187.out 9).trans rfl; have q32_10 : w30.cell? ⟨gb187, 10, none⟩ = some (.int .i64 a0_10) := (YI BK187.out 10).trans rfl; have q32_11 : w30.cell? ⟨gb187, 11, none⟩ = some (.int .i64 a0_11) := (YI BK187.out 11).trans rfl; have f32_0 := YJ BK187.out 0; have f32_1 := YJ BK187.out 1; have f32_2 := YJ BK187.out 2; have f32_3 := YJ BK187.out 3; have f32_4 := YJ BK187.out 4; have f32_5 := YJ BK187.out 5; have f32_6 := YJ BK187.out 6; have f32_7 := YJ BK187.out 7; have f32_8 := YJ BK187.out 8; have f32_9 := YJ BK187.out 9; have f32_10 := YJ BK187.out 10; have f32_11 := YJ BK187.out 11))
      go_ret2
      exact ⟨_, by first | rfl | (simp [errW_none, errW_some] <;> rfl) | (simp [*, errW_none, errW_some] <;> rfl), by (with_reducible repeat (first | apply YS | apply YT | apply YU)); exact Kd.R_mono HO198.out (fun _ hk => trivial), by repeat (first | (with_reducible first | exact HB.out | apply YA | apply YB | apply YC | refine below_set ?_ GE187.out) | exact HB.out)⟩
     rw [if_neg c15] at H
     have c15b0 : (t195 == 0) = false := beq_eq_false_iff_ne.mpr c15
     have c15b1 : (t195 != 0) = true := bne_iff_ne.mpr c15
     simp only [Option.some.injEq, Prod.mk.injEq] at H
     obtain ⟨rfl, rfl⟩ := H
     have q33_0 : wc.cell? ⟨gb187, 0, none⟩ = some (.int .i64 a0_0) := (YI BK187.out 0).trans rfl
     have q33_1 : wc.cell? ⟨gb187, 1, none⟩ = some (.int .i64 a0_1) := (YI BK187.out 1).trans rfl
     have q33_2 : wc.cell? ⟨gb187, 2, none⟩ = some (.bool a0_2) := (YI BK187.out 2).trans rfl
     have q33_3 : wc.cell? ⟨gb187, 3, none⟩ = some (.int .i64 a0_3) := (YI BK187.out 3).trans rfl
     have q33_4 : wc.cell? ⟨gb187, 4, none⟩ = some (.int .i64 a0_4) := (YI BK187.out 4).trans rfl
     have q33_5 : wc.cell? ⟨gb187, 5, none⟩ = some (.int .i64 a0_5) := (YI BK187.out 5).trans rfl
     have q33_6 : wc.cell? ⟨gb187, 6, none⟩ = some (.int .i64 a0_6) := (YI BK187.out 6).trans rfl
     have q33_7 : wc.cell? ⟨gb187, 7, none⟩ = some (.int .i64 a0_7) := (YI BK187.out 7).trans rfl
     have q33_8 : wc.cell? ⟨gb187, 8, none⟩ = some (.int .i64 a0_8) := (YI BK187.out 8).trans rfl
     have q33_9 : wc.cell? ⟨gb187, 9, none⟩ = some (.int .i64 a0_9) := (YI BK187.out 9).trans rfl
     have q33_10 : wc.cell? ⟨gb187, 10, none⟩ = some (.int .i64 a0_10) := (YI BK187.out 10).trans rfl
     have q33_11 : wc.cell? ⟨gb187, 11, none⟩ = some (.int .i64 a0_11) := (YI BK187.out 11).trans rfl
     have f33_0 := YJ BK187.out 0
     have f33_1 := YJ BK187.out 1
     have f33_2 := YJ BK187.out 2
     have f33_3 := YJ BK187.out 3
     have f33_4 := YJ BK187.out 4
     have f33_5 := YJ BK187.out 5
     have f33_6 := YJ BK187.out 6
     have f33_7 := YJ BK187.out 7
     have f33_8 := YJ BK187.out 8
     have f33_9 := YJ BK187.out 9
     have f33_10 := YJ BK187.out 10
     have f33_11 := YJ BK187.out 11
     go_wp2_with (first | ((with_reducible refine gate_callee (f := 69) rfl ?_); refine goesL_ (some 28) rfl rfl Try.func69 (by kernel_rfl) rfl #[.agg #[.bool a0_2, .int .i64 a0_3, .int .i64 a0_4, .int .i64 a0_5, .int .i64 a0_6, .int .i64 a0_7]] rfl (by (try simp only [YP, List.map_cons, List.map_nil]); first | done | rfl | (simp only [YR, YQ]; rfl)) ?_; (with_reducible refine (height_Bytes.calls kj3 a0_2 a0_3 a0_4 a0_5 a0_6 a0_7 t192 t195 _ A14.out).mono ?_); rintro e w34 ⟨v193, rfl, ho0, hb⟩; refine ⟨_, rfl, ?_⟩; have n0_ := YL (Kd.R_elder' (by (with_reducible repeat (first | apply YS | apply YT | apply YU)); exact HO_5.out) (Kd.R_base ho0) hb); have n1_ := YL (Kd.R_lower (Kd.R_new' ho0 (Kd.R_lt (by (with_reducible repeat (first | apply YS | apply YT | apply YU)); exact HO_5.out))) (YE (by repeat (first | (with_reducible first | exact HB.out | apply YA | apply YB | apply YC | refine below_set ?_ GE187.out) | exact HB.out)))); have n2_ := YL (YK (g := gb187) (o := .cells #[.int .i64 a0_0, .int .i64 a0_1, .bool a0_2, .int .i64 a0_3, .int .i64 a0_4, .int .i64 a0_5, .int .i64 a0_6, .int .i64 a0_7, .int .i64 a0_8, .int .i64 a0_9, .int .i64 a0_10, .int .i64 a0_11] 34 (0, 0)) (by (with_reducible repeat (first | refine YF ?_ _ | refine YG ?_ | refine YH ?_ _)); exact BK187.out) hb); have n3_ := YL (YD (by repeat (first | (with_reducible first | exact HB.out | apply YA | apply YB | apply YC | refine below_set ?_ GE187.out) | exact HB.out)) hb); clear HO_5; clear BK187; clear HB; have HO_5 := n0_; have HO194 := n1_; have BK187 := n2_; have HB := n3_; clear n0_ n1_ n2_ n3_; (try clear hb); (try clear hb2); (try clear hk); (try clear hi); (try clear ho0)))
     go_ret2
     exact ⟨_, by first | rfl | (simp [errW_none, errW_some] <;> rfl) | (simp [*, errW_none, errW_some] <;> rfl), by first | exact Kd.R_nil _ _ _ _ _ | exact Kd.N_nil _ _ _ _ _ | exact Kd.V_nil _ _ _ _ _ | exact Kd.Q_nil _ _ _ _ _ | exact Kd.S_nil _ _ _ _ _, by repeat (first | (with_reducible first | exact HB.out | apply YA | apply YB | apply YC | refine below_set ?_ GE187.out) | exact HB.out)⟩
    replace c13 := Bool.eq_false_iff.mpr c13
    subst c13
    have H1 : (if a0_0 = 3 then ((wire_Int.f a0_8).bind fun t205 => (if y189.length + t205.length < 140737488355328 then ((some (y189 ++ t205 : List Int)).bind fun y208 => ((some (([(a0_9) % 256, (a0_10) % 256] : List Int) : List Int)).bind fun y211 => (if y208.length + y211.length < 140737488355328 then ((some (y208 ++ y211 : List Int)).bind fun y214 => (if a0_0 = 4 then ((some (([(a0_11 / 256) % 256, (a0_11) % 256] : List Int) : List Int)).bind fun y217 => (if y214.length + y217.length < 140737488355328 then (some ((y214 ++ y217), 0)) else (none))) else (some (y214, 0)))) else (none)))) else (none))) else (if a0_0 = 4 then ((some (([(a0_11 / 256) % 256, (a0_11) % 256] : List Int) : List Int)).bind fun y223 => (if y189.length + y223.length < 140737488355328 then (some ((y189 ++ y223), 0)) else (none))) else (some (y189, 0)))) = some (r1, r2) := by rw [if_neg (show ¬ (false = true) by decide)] at H; exact H
    clear H
    have H := H1
    clear H1
    by_cases c35 : a0_0 = 3
    ·rw [if_pos c35] at H
     have c35b0 : (a0_0 == 3) = true := beq_iff_eq.mpr c35
     have c35b1 : (a0_0 != 3) = false := bne_eq_false_iff_eq.mpr c35
     clear c35; replace H := Option.bind_eq_some_iff.mp H; obtain ⟨t205, A360, H⟩ := H
     replace H : (if y189.length + t205.length < 140737488355328 then ((some (y189 ++ t205 : List Int)).bind fun y208 => ((some (([(a0_9) % 256, (a0_10) % 256] : List Int) : List Int)).bind fun y211 => (if y208.length + y211.length < 140737488355328 then ((some (y208 ++ y211 : List Int)).bind fun y214 => (if a0_0 = 4 then ((some (([(a0_11 / 256) % 256, (a0_11) % 256] : List Int) : List Int)).bind fun y217 => (if y214.length + y217.length < 140737488355328 then (some ((y214 ++ y217), 0)) else (none))) else (some (y214, 0)))) else (none)))) else (none)) = some (r1, r2) := H
     have A36 := YL A360; clear A360
     by_cases c37 : y189.length + t205.length < 140737488355328
     rotate_left
     ·rw [if_neg c37] at H
      exact absurd H (by simp)
     rw [if_pos c37] at H; have LMc37 := YL c37; clear c37
     obtain ⟨y208, hy208⟩ : ∃ y_ : List Int, y_ = (y189 ++ t205) := ⟨_, rfl⟩
     replace H : ((some (([(a0_9) % 256, (a0_10) % 256] : List Int) : List Int)).bind fun y211 => (if y208.length + y211.length < 140737488355328 then ((some (y208 ++ y211 : List Int)).bind fun y214 => (if a0_0 = 4 then ((some (([(a0_11 / 256) % 256, (a0_11) % 256] : List Int) : List Int)).bind fun y217 => (if y214.length + y217.length < 140737488355328 then (some ((y214 ++ y217), 0)) else (none))) else (some (y214, 0)))) else (none))) = some (r1, r2) := by first | (rw [hy208]; with_reducible exact H) | (have H2_ := (Option.bind_some _ _).symm.trans H; rw [hy208]; with_reducible exact H2_) | (have H2_ := (Option.bind_some _ _).symm.trans H; with_reducible exact H2_) | with_reducible exact H | (rw [hy208]; exact H) | exact H
     have Ny208 := YL hy208; clear hy208
     obtain ⟨y211, hy211⟩ : ∃ y_ : List Int, y_ = (([(a0_9) % 256, (a0_10) % 256] : List Int)) := ⟨_, rfl⟩
     replace H : (if y208.length + y211.length < 140737488355328 then ((some (y208 ++ y211 : List Int)).bind fun y214 => (if a0_0 = 4 then ((some (([(a0_11 / 256) % 256, (a0_11) % 256] : List Int) : List Int)).bind fun y217 => (if y214.length + y217.length < 140737488355328 then (some ((y214 ++ y217), 0)) else (none))) else (some (y214, 0)))) else (none)) = some (r1, r2) := by first | (rw [hy211]; with_reducible exact H) | (have H2_ := (Option.bind_some _ _).symm.trans H; rw [hy211]; with_reducible exact H2_) | (have H2_ := (Option.bind_some _ _).symm.trans H; with_reducible exact H2_) | with_reducible exact H | (rw [hy211]; exact H) | exact H
     have Ny211 := YL hy211; clear hy211
     by_cases c38 : y208.length + y211.length < 140737488355328
     rotate_left
     ·rw [if_neg c38] at H
      exact absurd H (by simp)
     rw [if_pos c38] at H; have LMc38 := YL c38; clear c38
     obtain ⟨y214, hy214⟩ : ∃ y_ : List Int, y_ = (y208 ++ y211) := ⟨_, rfl⟩
     replace H : (if a0_0 = 4 then ((some (([(a0_11 / 256) % 256, (a0_11) % 256] : List Int) : List Int)).bind fun y217 => (if y214.length + y217.length < 140737488355328 then (some ((y214 ++ y217), 0)) else (none))) else (some (y214, 0))) = some (r1, r2) := by first | (rw [hy214]; with_reducible exact H) | (have H2_ := (Option.bind_some _ _).symm.trans H; rw [hy214]; with_reducible exact H2_) | (have H2_ := (Option.bind_some _ _).symm.trans H; with_reducible exact H2_) | with_reducible exact H | (rw [hy214]; exact H) | exact H
     have Ny214 := YL hy214; clear hy214
     by_cases c39 : a0_0 = 4
     ·rw [if_pos c39] at H
      have c39b0 : (a0_0 == 4) = true := beq_iff_eq.mpr c39
      have c39b1 : (a0_0 != 4) = false := bne_eq_false_iff_eq.mpr c39
      clear c39
      obtain ⟨y217, hy217⟩ : ∃ y_ : List Int, y_ = (([(a0_11 / 256) % 256, (a0_11) % 256] : List Int)) := ⟨_, rfl⟩
      replace H : (if y214.length + y217.length < 140737488355328 then (some ((y214 ++ y217), 0)) else (none)) = some (r1, r2) := by first | (rw [hy217]; with_reducible exact H) | (have H2_ := (Option.bind_some _ _).symm.trans H; rw [hy217]; with_reducible exact H2_) | (have H2_ := (Option.bind_some _ _).symm.trans H; with_reducible exact H2_) | with_reducible exact H | (rw [hy217]; exact H) | exact H
      have Ny217 := YL hy217; clear hy217
      by_cases c40 : y214.length + y217.length < 140737488355328
      rotate_left
      ·rw [if_neg c40] at H
       exact absurd H (by simp)
      rw [if_pos c40] at H; have LMc40 := YL c40; clear c40
      obtain ⟨y220, hy220⟩ : ∃ y_ : List Int, y_ = (y214 ++ y217) := ⟨_, rfl⟩
      replace H : (some (y220, 0)) = some (r1, r2) := by first | (rw [hy220]; with_reducible exact H) | (have H2_ := (Option.bind_some _ _).symm.trans H; rw [hy220]; with_reducible exact H2_) | (have H2_ := (Option.bind_some _ _).symm.trans H; with_reducible exact H2_) | with_reducible exact H | (rw [hy220]; exact H) | exact H
      have Ny220 := YL hy220; clear hy220
      simp only [Option.some.injEq, Prod.mk.injEq] at H
      obtain ⟨rfl, rfl⟩ := H
      obtain ⟨Ao41, co41, eo41⟩ := Kd.R_slice HO_5.out
      subst eo41
      try go_wp2
      have n0_ := YL (YU HO_5.out)
      have n1_ := YL (YG BK187.out)
      have n2_ := YL (YC HB.out)
      clear HO_5; clear BK187; clear HB; have HO_5 := n0_; have BK187 := n1_; have HB := n2_; clear n0_ n1_ n2_
      refine start_ (n := 17) (S := fun w' => w'.cell? ⟨gb187, 0, none⟩ = some (.int .i64 a0_0) ∧ w'.cell? ⟨gb187, 1, none⟩ = some (.int .i64 a0_1) ∧ w'.cell? ⟨gb187, 2, none⟩ = some (.bool a0_2) ∧ w'.cell? ⟨gb187, 3, none⟩ = some (.int .i64 a0_3) ∧ w'.cell? ⟨gb187, 4, none⟩ = some (.int .i64 a0_4) ∧ w'.cell? ⟨gb187, 5, none⟩ = some (.int .i64 a0_5) ∧ w'.cell? ⟨gb187, 6, none⟩ = some (.int .i64 a0_6) ∧ w'.cell? ⟨gb187, 7, none⟩ = some (.int .i64 a0_7) ∧ w'.cell? ⟨gb187, 8, none⟩ = some (.int .i64 a0_8) ∧ w'.cell? ⟨gb187, 9, none⟩ = some (.int .i64 a0_9) ∧ w'.cell? ⟨gb187, 10, none⟩ = some (.int .i64 a0_10) ∧ w'.cell? ⟨gb187, 11, none⟩ = some (.int .i64 a0_11)) (ds := []) #[false, false, false, false, false, false, false, false, false, false, false, false, false, false, false, false, false] (by kernel_rfl) rfl rfl ⟨(YI BK187.out 0).trans rfl, (YI BK187.out 1).trans rfl, (YI BK187.out 2).trans rfl, (YI BK187.out 3).trans rfl, (YI BK187.out 4).trans rfl, (YI BK187.out 5).trans rfl, (YI BK187.out 6).trans rfl, (YI BK187.out 7).trans rfl, (YI BK187.out 8).trans rfl, (YI BK187.out 9).trans rfl, (YI BK187.out 10).trans rfl, (YI BK187.out 11).trans rfl⟩ (fun hHeld => ?_); refine with_tabW object_Bytes.tab13 object_Bytes.bits13 (fun HT_ HW_ => ?_)
      generalize wc.drew = w42 at HO_5 BK187 HB hHeld ⊢
      refine pure_ (i := 0) (N := some 39) (v := ?_) (a' := ?_) #[true, false, false, false, false, false, false, false, false, false, false, false, false, false, false, false, false] rfl rfl (any_of HT_.out (by kernel_rfl)) (fun _ _ _ h => h) (Or.inl ⟨by rfl, ?_⟩) ?_ ?_
      rotate_left
      ·intro w'
       go_simp; with_reducible rfl
      rotate_left
      ·simp only [Act.put, YM, YN, YO, i64_w, i32_w]
       rfl
      refine pure_ (i := 1) (N := some 40) (v := ?_) (a' := ?_) #[true, true, false, false, false, false, false, false, false, false, false, false, false, false, false, false, false] rfl rfl (any_of HT_.out (by kernel_rfl)) (fun _ _ _ h => h) (Or.inl ⟨by rfl, ?_⟩) ?_ ?_
      rotate_left
      ·intro w'
       go_simp; with_reducible rfl
      rotate_left
      ·simp only [Act.put, YM, YN, YO, i64_w, i32_w]
       rfl
      refine pure_ (i := 2) (N := some 41) (v := ?_) (a' := ?_) #[true, true, true, false, false, false, false, false, false, false, false, false, false, false, false, false, false] rfl rfl (any_of HT_.out (by kernel_rfl)) (fun _ _ _ h => h) (Or.inl ⟨by rfl, ?_⟩) ?_ ?_
      rotate_left
      ·intro w'
       go_simp; with_reducible rfl
      rotate_left
      ·simp only [Act.put, YM, YN, YO, i64_w, i32_w]
       rfl
      refine pure_ (i := 6) (N := some 45) (v := ?_) (a' := ?_) #[true, true, true, false, false, false, true, false, false, false, false, false, false, false, false, false, false] rfl rfl (any_of HT_.out (by kernel_rfl)) (fun _ _ _ h => h) (Or.inl ⟨by rfl, ?_⟩) ?_ ?_
      rotate_left
      ·intro w'
       go_simp; with_reducible rfl
      rotate_left
      ·simp only [Act.put, YM, YN, YO, i64_w, i32_w]
       rfl
      refine pure_ (i := 7) (N := some 46) (v := ?_) (a' := ?_) #[true, true, true, false, false, false, true, true, false, false, false, false, false, false, false, false, false] rfl rfl (any_of HT_.out (by kernel_rfl)) (fun _ _ _ h => h) (Or.inl ⟨by rfl, ?_⟩) ?_ ?_
      rotate_left
      ·intro w'
       go_simp; with_reducible rfl
      rotate_left
      ·simp only [Act.put, YM, YN, YO, i64_w, i32_w]
       rfl
      refine pure_ (i := 10) (N := some 49) (v := ?_) (a' := ?_) #[true, true, true, false, false, false, true, true, false, false, true, false, false, false, false, false, false] rfl rfl (any_of HT_.out (by kernel_rfl)) (fun _ _ _ h => h) (Or.inl ⟨by rfl, ?_⟩) ?_ ?_
      rotate_left
      ·intro w'
       go_simp; with_reducible rfl
      rotate_left
      ·simp only [Act.put, YM, YN, YO, i64_w, i32_w]
       rfl
      refine pure_ (i := 11) (N := some 50) (v := ?_) (a' := ?_) #[true, true, true, false, false, false, true, true, false, false, true, true, false, false, false, false, false] rfl rfl (any_of HT_.out (by kernel_rfl)) (fun _ _ _ h => h) (Or.inl ⟨by rfl, ?_⟩) ?_ ?_
      rotate_left
      ·intro w'
       go_simp; with_reducible rfl
      rotate_left
      ·simp only [Act.put, YM, YN, YO, i64_w, i32_w]
       rfl
      refine take_ (i := 3) (N := some 42) (v := ?_) (a' := ?_) #[true, true, true, true, false, false, true, true, false, false, true, true, false, false, false, false, false] rfl rfl (take_ofW HT_.out HW_.out (by kernel_rfl)) (fun _ _ _ h => h) (Or.inl ⟨by rfl, ?_⟩) hHeld ?_ ?_
      rotate_left
      ·rintro w' ⟨s0, s1, s2, s3, s4, s5, s6, s7, s8, s9, s10, s11⟩
       go_simp; with_reducible rfl
      rotate_left
      ·simp only [Act.put, YM, YN, YO, i64_w, i32_w]
       rfl
      refine take_ (i := 8) (N := some 47) (v := ?_) (a' := ?_) #[true, true, true, true, false, false, true, true, true, false, true, true, false, false, false, false, false] rfl rfl (take_ofW HT_.out HW_.out (by kernel_rfl)) (fun _ _ _ h => h) (Or.inl ⟨by rfl, ?_⟩) hHeld ?_ ?_
      rotate_left
      ·rintro w' ⟨s0, s1, s2, s3, s4, s5, s6, s7, s8, s9, s10, s11⟩
       go_simp; with_reducible rfl
      rotate_left
      ·simp only [Act.put, YM, YN, YO, i64_w, i32_w]
       rfl
      refine pure_ (i := 9) (N := some 48) (v := ?_) (a' := ?_) #[true, true, true, true, false, false, true, true, true, true, true, true, false, false, false, false, false] rfl rfl (any_of HT_.out (by kernel_rfl)) (fun _ _ _ h => h) (Or.inl ⟨by rfl, ?_⟩) ?_ ?_
      rotate_left
      ·intro w'
       go_simp; with_reducible rfl
      rotate_left
      ·simp only [Act.put, YM, YN, YO, i64_w, i32_w]
       rfl
      refine take_ (i := 12) (N := some 51) (v := ?_) (a' := ?_) #[true, true, true, true, false, false, true, true, true, true, true, true, true, false, false, false, false] rfl rfl (take_ofW HT_.out HW_.out (by kernel_rfl)) (fun _ _ _ h => h) (Or.inl ⟨by rfl, ?_⟩) hHeld ?_ ?_
      rotate_left
      ·rintro w' ⟨s0, s1, s2, s3, s4, s5, s6, s7, s8, s9, s10, s11⟩
       go_simp; with_reducible rfl
      rotate_left
      ·simp only [Act.put, YM, YN, YO, i64_w, i32_w]
       rfl
      refine pure_ (i := 13) (N := some 52) (v := ?_) (a' := ?_) #[true, true, true, true, false, false, true, true, true, true, true, true, true, true, false, false, false] rfl rfl (any_of HT_.out (by kernel_rfl)) (fun _ _ _ h => h) (Or.inl ⟨by rfl, ?_⟩) ?_ ?_
      rotate_left
      ·intro w'
       go_simp; with_reducible rfl
      rotate_left
      ·simp only [Act.put, YM, YN, YO, i64_w, i32_w]
       rfl
      refine join_ (σ := Value × Value × Value) 2 #[true, true, true, true, true, true, true, true, true, true, true, true, true, true, true, false, false] (fun s_ => [(43, s_.1), (44, s_.2.1), (53, s_.2.2)]) (fun s_ w' => (w'.cell? ⟨gb187, 0, none⟩ = some (.int .i64 a0_0) ∧ w'.cell? ⟨gb187, 1, none⟩ = some (.int .i64 a0_1) ∧ w'.cell? ⟨gb187, 2, none⟩ = some (.bool a0_2) ∧ w'.cell? ⟨gb187, 3, none⟩ = some (.int .i64 a0_3) ∧ w'.cell? ⟨gb187, 4, none⟩ = some (.int .i64 a0_4) ∧ w'.cell? ⟨gb187, 5, none⟩ = some (.int .i64 a0_5) ∧ w'.cell? ⟨gb187, 6, none⟩ = some (.int .i64 a0_6) ∧ w'.cell? ⟨gb187, 7, none⟩ = some (.int .i64 a0_7) ∧ w'.cell? ⟨gb187, 8, none⟩ = some (.int .i64 a0_8) ∧ w'.cell? ⟨gb187, 9, none⟩ = some (.int .i64 a0_9) ∧ w'.cell? ⟨gb187, 10, none⟩ = some (.int .i64 a0_10) ∧ w'.cell? ⟨gb187, 11, none⟩ = some (.int .i64 a0_11)) ∧ (Kd.R (Kd.int .u8) 5 w' w.heap.size (fun k_ => some k_ ≠ (s_.2.1 : Value).ownBlock ∧ some k_ ≠ (s_.2.2 : Value).ownBlock) s_.1 t205) ∧ (Kd.R (Kd.int .u8) 5 w' w.heap.size (fun k_ => some k_ ≠ (s_.1 : Value).ownBlock ∧ some k_ ≠ (s_.2.2 : Value).ownBlock) s_.2.1 y208) ∧ (Kd.R (Kd.int .u8) 5 w' w.heap.size (fun k_ => some k_ ≠ (s_.1 : Value).ownBlock ∧ some k_ ≠ (s_.2.1 : Value).ownBlock) s_.2.2 y211) ∧ (w'.heap[gb187]? = some (.cells #[.int .i64 a0_0, .int .i64 a0_1, .bool a0_2, .int .i64 a0_3, .int .i64 a0_4, .int .i64 a0_5, .int .i64 a0_6, .int .i64 a0_7, .int .i64 a0_8, .int .i64 a0_9, .int .i64 a0_10, .int .i64 a0_11] 34 (0, 0))) ∧ (Below w.heap.size w w')) ?_ ?_
      rotate_left
      ·intro hCont
       refine two_ (i := 4) (j := 14) (Ni := some 43) (Nj := some 53) #[true, true, true, true, true, false, true, true, true, true, true, true, true, true, false, false, false] #[true, true, true, true, false, false, true, true, true, true, true, true, true, true, true, false, false] rfl rfl rfl rfl (two_of HT_.out (by kernel_rfl)) (by decide) (by decide) (fun K hK => ?_) (fun K hK => ?_)
       ·skip
        refine goes_ Try.func70 (by kernel_rfl) rfl #[.int .i64 a0_8] (by rfl) rfl rfl (by (try simp only [YP, List.map_cons, List.map_nil]); first | done | rfl | (simp only [YR, YQ]; rfl)) ?_
        with_reducible refine (wire_Int.calls a0_8 t205 _ A36.out).mono ?_
        rintro e w43 ⟨v206, rfl, ho0, hb⟩
        refine ⟨_, rfl, ?_⟩
        have n0_ := YL (Kd.R_elder' (by (with_reducible repeat (first | apply YS | apply YT | apply YU)); exact HO_5.out) (Kd.R_base ho0) hb)
        have n1_ := YL (Kd.R_lower (Kd.R_new' ho0 (Kd.R_lt (by (with_reducible repeat (first | apply YS | apply YT | apply YU)); exact HO_5.out))) (YE (by repeat (first | (with_reducible first | exact HB.out | apply YA | apply YB | apply YC | refine below_set ?_ GE187.out) | exact HB.out))))
        have n2_ := YL (YK (g := gb187) (o := .cells #[.int .i64 a0_0, .int .i64 a0_1, .bool a0_2, .int .i64 a0_3, .int .i64 a0_4, .int .i64 a0_5, .int .i64 a0_6, .int .i64 a0_7, .int .i64 a0_8, .int .i64 a0_9, .int .i64 a0_10, .int .i64 a0_11] 34 (0, 0)) (by (with_reducible repeat (first | refine YF ?_ _ | refine YG ?_ | refine YH ?_ _)); exact BK187.out) hb)
        have n3_ := YL (YD (by repeat (first | (with_reducible first | exact HB.out | apply YA | apply YB | apply YC | refine below_set ?_ GE187.out) | exact HB.out)) hb)
        clear HO_5; clear BK187; clear HB; have HO_5 := n0_; have HO207 := n1_; have BK187 := n2_; have HB := n3_; clear n0_ n1_ n2_ n3_; (try clear hb); (try clear hb2); (try clear hk); (try clear hi); (try clear ho0)
        obtain ⟨Ao45, co45, eo45⟩ := Kd.R_slice HO207.out
        (first | subst eo45 | (injection eo45 with f1_ f2_ f3_; have f4_ := f1_.symm; have f5_ := f3_.symm; clear f1_ f2_ f3_; subst f4_; subst f5_))
        refine hK.out _ _ ⟨(YI BK187.out 0).trans rfl, (YI BK187.out 1).trans rfl, (YI BK187.out 2).trans rfl, (YI BK187.out 3).trans rfl, (YI BK187.out 4).trans rfl, (YI BK187.out 5).trans rfl, (YI BK187.out 6).trans rfl, (YI BK187.out 7).trans rfl, (YI BK187.out 8).trans rfl, (YI BK187.out 9).trans rfl, (YI BK187.out 10).trans rfl, (YI BK187.out 11).trans rfl⟩ (fun hHeld => ?_)
        clear hK K
        refine norm_ (a' := ?_) ?_ ?_
        rotate_left
        ·show Act.put _ (some 43) _ = _
         simp only [Act.put, YM, YN, YO, i64_w, i32_w]
         rfl
        refine two_ (i := 5) (j := 14) (Ni := some 44) (Nj := some 53) #[true, true, true, true, true, true, true, true, true, true, true, true, true, true, false, false, false] #[true, true, true, true, true, false, true, true, true, true, true, true, true, true, true, false, false] rfl rfl rfl rfl (two_of HT_.out (by kernel_rfl)) (by decide) (by decide) (fun K hK => ?_) (fun K hK => ?_)
        ·skip
         refine Kd.R_append_rows_step (Kd.int .u8) (w0 := w) w.heap.size (by rfl) (.tmp 39) (.tmp 43) 107 5 (.int .u8 0) 1 rfl Try.underlying107 info5 rfl (by decide) (by omega) (.slice Ao41 y189.length co41) y189 t205 _ _ _ (fun k_ => some k_ ≠ (.slice Ao45 t205.length co45 : Value).ownBlock) (fun _ => False) rfl rfl ?aO ?aR (fun _ _ h => h) (fun _ h => h.elim) ?aF ?aB ?aS ?aL ?_
         (case aR => repeat (first | exact (Kd.R_reads' HO207.out).2.2 | (with_reducible refine Kd.C_alloc ?_ _) | (with_reducible refine Kd.C_drewN ?_ _) | (with_reducible refine Kd.C_drew ?_)))
         (case aB => exact (by repeat (first | (with_reducible first | exact HB.out | apply YA | apply YB | apply YC | refine below_set ?_ GE187.out) | exact HB.out)))
         (case aF => exact (fun k_ hk => Kd.fresh' (Kd.R_lt (by (with_reducible repeat (first | apply YS | apply YT | apply YU)); exact HO207.out)) k_ hk))
         (case aO => exact (by (with_reducible repeat (first | apply YS | apply YT | apply YU)); exact Kd.R_mono HO_5.out (fun _ hk => by first | exact hk.2 | exact trivial | (simp [hk]; done) | simp_all)))
         (case aS => exact (YE (by repeat (first | (with_reducible first | exact HB.out | apply YA | apply YB | apply YC | refine below_set ?_ GE187.out) | exact HB.out))))
         (case aL => have := LMc37.out; omega)
         intro v209 w44 ho hb hg hat
         rw [← Ny208.out] at ho
         have n0_ := YL (blk_grown (g := gb187) (o := .cells #[.int .i64 a0_0, .int .i64 a0_1, .bool a0_2, .int .i64 a0_3, .int .i64 a0_4, .int .i64 a0_5, .int .i64 a0_6, .int .i64 a0_7, .int .i64 a0_8, .int .i64 a0_9, .int .i64 a0_10, .int .i64 a0_11] 34 (0, 0)) (by (with_reducible repeat (first | refine YF ?_ _ | refine YG ?_ | refine YH ?_ _)); exact BK187.out) hg (Kd.R_ne HO_5.out BK187.out (by decide)))
         have n1_ := YL (Kd.R_after (ok := (fun _ => True)) (by (with_reducible repeat (first | apply YS | apply YT | apply YU)); exact HO207.out) hg hat)
         have n2_ := YL (hb)
         have n3_ := YL (ho)
         clear BK187; clear HO207; clear HB; clear HO_5; have BK187 := n0_; have HO207 := n1_; have HB := n2_; have HO210 := n3_; clear n0_ n1_ n2_ n3_; clear ho hb hg hat
         refine hK.out _ _ ⟨(YI BK187.out 0).trans rfl, (YI BK187.out 1).trans rfl, (YI BK187.out 2).trans rfl, (YI BK187.out 3).trans rfl, (YI BK187.out 4).trans rfl, (YI BK187.out 5).trans rfl, (YI BK187.out 6).trans rfl, (YI BK187.out 7).trans rfl, (YI BK187.out 8).trans rfl, (YI BK187.out 9).trans rfl, (YI BK187.out 10).trans rfl, (YI BK187.out 11).trans rfl⟩ (fun hHeld => ?_)
         clear hK K
         refine norm_ (a' := ?_) ?_ ?_
         rotate_left
         ·show Act.put _ (some 44) _ = _
          simp only [Act.put, YM, YN, YO, i64_w, i32_w]
          rfl
         refine one_ (i := 14) (N := some 53) #[true, true, true, true, true, true, true, true, true, true, true, true, true, true, true, false, false] rfl rfl (one_of HT_.out (by kernel_rfl)) (by decide) (fun K hK => ?_)
         refine Kd.R_lit_step (Kd.int .u8) _ 5 ?hg (N := 53) ?hd (xs := ([(a0_9) % 256, (a0_10) % 256] : List Int)) (inner := [.int .u8 ((a0_9) % 256), .int .u8 ((a0_10) % 256)]) (ok := fun _ => True) (okp := fun _ => True) ?hr ?hp (fun _ hk => hk) trivial (Below.refl _ _) (Nat.le_refl _) (by simp) ?_; (case hd => rfl); (case hg => rfl); (case hr => first | (go_simp; done) | (go_simp; rfl)); (case hp => exact (Reps.one (show Kd.M (Kd.int .u8) _ _ _ ((a0_9) % 256) [.int .u8 ((a0_9) % 256)] from rfl) (Reps.one (show Kd.M (Kd.int .u8) _ _ _ ((a0_10) % 256) [.int .u8 ((a0_10) % 256)] from rfl) (Reps.none _ _))))
         intro v212 w46 ho47 hb hg_ hnew_
         clear hg_ hnew_
         (first | rw [← Ny211.out] at ho47 | (simp only [Int.reduceToNat] at ho47; rw [← Ny211.out] at ho47))
         have n0_ := YL (Kd.R_elder' (by (with_reducible repeat (first | apply YS | apply YT | apply YU)); exact HO207.out) (Kd.R_base ho47) hb)
         have n1_ := YL (Kd.R_elder' (by (with_reducible repeat (first | apply YS | apply YT | apply YU)); exact HO210.out) (Kd.R_base ho47) hb)
         have n2_ := YL (Kd.R_lower (Kd.R_new' (Kd.R_new' ho47 (Kd.R_lt (by (with_reducible repeat (first | apply YS | apply YT | apply YU)); exact HO207.out))) (Kd.R_lt (by (with_reducible repeat (first | apply YS | apply YT | apply YU)); exact HO210.out))) (YE (by repeat (first | (with_reducible first | exact HB.out | apply YA | apply YB | apply YC | refine below_set ?_ GE187.out) | exact HB.out))))
         have n3_ := YL (YK (g := gb187) (o := .cells #[.int .i64 a0_0, .int .i64 a0_1, .bool a0_2, .int .i64 a0_3, .int .i64 a0_4, .int .i64 a0_5, .int .i64 a0_6, .int .i64 a0_7, .int .i64 a0_8, .int .i64 a0_9, .int .i64 a0_10, .int .i64 a0_11] 34 (0, 0)) (by (with_reducible repeat (first | refine YF ?_ _ | refine YG ?_ | refine YH ?_ _)); exact BK187.out) hb)
         have n4_ := YL (YD (by repeat (first | (with_reducible first | exact HB.out | apply YA | apply YB | apply YC | refine below_set ?_ GE187.out) | exact HB.out)) hb)
         clear HO207; clear HO210; clear BK187; clear HB; have HO207 := n0_; have HO210 := n1_; have HO213 := n2_; have BK187 := n3_; have HB := n4_; clear n0_ n1_ n2_ n3_ n4_; clear hb ho47
         refine hK.out _ _ ⟨(YI BK187.out 0).trans rfl, (YI BK187.out 1).trans rfl, (YI BK187.out 2).trans rfl, (YI BK187.out 3).trans rfl, (YI BK187.out 4).trans rfl, (YI BK187.out 5).trans rfl, (YI BK187.out 6).trans rfl, (YI BK187.out 7).trans rfl, (YI BK187.out 8).trans rfl, (YI BK187.out 9).trans rfl, (YI BK187.out 10).trans rfl, (YI BK187.out 11).trans rfl⟩ (fun hHeld => ?_)
         clear hK K
         refine norm_ (a' := ?_) ?_ ?_
         rotate_left
         ·show Act.put _ (some 53) _ = _
          simp only [Act.put, YM, YN, YO, i64_w, i32_w]
          rfl
         exact norm_ (by simp only [putAll, Act.put, YM, YN, YO]) (hCont (.slice Ao45 t205.length co45, v209, v212) _ ⟨hHeld, (by (with_reducible repeat (first | apply YS | apply YT | apply YU)); exact Kd.R_mono HO207.out (fun _ hk => by first | exact ⟨hk.1.2, hk.2⟩ | exact trivial | (simp [hk]; done) | simp_all)), (by (with_reducible repeat (first | apply YS | apply YT | apply YU)); exact HO210.out), (by (with_reducible repeat (first | apply YS | apply YT | apply YU)); exact Kd.R_mono HO213.out (fun _ hk => by first | exact ⟨hk.1.2, hk.2⟩ | exact trivial | (simp [hk]; done) | simp_all)), (by (with_reducible repeat (first | refine YF ?_ _ | refine YG ?_ | refine YH ?_ _)); exact BK187.out), (by repeat (first | (with_reducible first | exact HB.out | apply YA | apply YB | apply YC | refine below_set ?_ GE187.out) | exact HB.out))⟩)
        skip
        refine Kd.R_lit_step (Kd.int .u8) _ 5 ?hg (N := 53) ?hd (xs := ([(a0_9) % 256, (a0_10) % 256] : List Int)) (inner := [.int .u8 ((a0_9) % 256), .int .u8 ((a0_10) % 256)]) (ok := fun _ => True) (okp := fun _ => True) ?hr ?hp (fun _ hk => hk) trivial (Below.refl _ _) (Nat.le_refl _) (by simp) ?_; (case hd => rfl); (case hg => rfl); (case hr => first | (go_simp; done) | (go_simp; rfl)); (case hp => exact (Reps.one (show Kd.M (Kd.int .u8) _ _ _ ((a0_9) % 256) [.int .u8 ((a0_9) % 256)] from rfl) (Reps.one (show Kd.M (Kd.int .u8) _ _ _ ((a0_10) % 256) [.int .u8 ((a0_10) % 256)] from rfl) (Reps.none _ _))))
        intro v212 w44 ho45 hb hg_ hnew_
        clear hg_ hnew_
        (first | rw [← Ny211.out] at ho45 | (simp only [Int.reduceToNat] at ho45; rw [← Ny211.out] at ho45))
        have n0_ := YL (Kd.R_elder' (by (with_reducible repeat (first | apply YS | apply YT | apply YU)); exact HO_5.out) (Kd.R_base ho45) hb)
        have n1_ := YL (Kd.R_elder' (by (with_reducible repeat (first | apply YS | apply YT | apply YU)); exact HO207.out) (Kd.R_base ho45) hb)
        have n2_ := YL (Kd.R_lower (Kd.R_new' (Kd.R_new' ho45 (Kd.R_lt (by (with_reducible repeat (first | apply YS | apply YT | apply YU)); exact HO_5.out))) (Kd.R_lt (by (with_reducible repeat (first | apply YS | apply YT | apply YU)); exact HO207.out))) (YE (by repeat (first | (with_reducible first | exact HB.out | apply YA | apply YB | apply YC | refine below_set ?_ GE187.out) | exact HB.out))))
        have n3_ := YL (YK (g := gb187) (o := .cells #[.int .i64 a0_0, .int .i64 a0_1, .bool a0_2, .int .i64 a0_3, .int .i64 a0_4, .int .i64 a0_5, .int .i64 a0_6, .int .i64 a0_7, .int .i64 a0_8, .int .i64 a0_9, .int .i64 a0_10, .int .i64 a0_11] 34 (0, 0)) (by (with_reducible repeat (first | refine YF ?_ _ | refine YG ?_ | refine YH ?_ _)); exact BK187.out) hb)
        have n4_ := YL (YD (by repeat (first | (with_reducible first | exact HB.out | apply YA | apply YB | apply YC | refine below_set ?_ GE187.out) | exact HB.out)) hb)
        clear HO_5; clear HO207; clear BK187; clear HB; have HO_5 := n0_; have HO207 := n1_; have HO213 := n2_; have BK187 := n3_; have HB := n4_; clear n0_ n1_ n2_ n3_ n4_; clear hb ho45
        obtain ⟨Ao47, co47, eo47⟩ := Kd.R_slice HO207.out
        (first | subst eo47 | (injection eo47 with f1_ f2_ f3_; have f4_ := f1_.symm; have f5_ := f3_.symm; clear f1_ f2_ f3_; subst f4_; subst f5_))
        refine hK.out _ _ ⟨(YI BK187.out 0).trans rfl, (YI BK187.out 1).trans rfl, (YI BK187.out 2).trans rfl, (YI BK187.out 3).trans rfl, (YI BK187.out 4).trans rfl, (YI BK187.out 5).trans rfl, (YI BK187.out 6).trans rfl, (YI BK187.out 7).trans rfl, (YI BK187.out 8).trans rfl, (YI BK187.out 9).trans rfl, (YI BK187.out 10).trans rfl, (YI BK187.out 11).trans rfl⟩ (fun hHeld => ?_)
        clear hK K
        refine norm_ (a' := ?_) ?_ ?_
        rotate_left
        ·show Act.put _ (some 53) _ = _
         simp only [Act.put, YM, YN, YO, i64_w, i32_w]
         rfl
        refine one_ (i := 5) (N := some 44) #[true, true, true, true, true, true, true, true, true, true, true, true, true, true, true, false, false] rfl rfl (one_of HT_.out (by kernel_rfl)) (by decide) (fun K hK => ?_)
        refine Kd.R_append_rows_step (Kd.int .u8) (w0 := w) w.heap.size (by rfl) (.tmp 39) (.tmp 43) 107 5 (.int .u8 0) 1 rfl Try.underlying107 info5 rfl (by decide) (by omega) (.slice Ao41 y189.length co41) y189 t205 _ _ _ (fun k_ => some k_ ≠ (.slice Ao47 t205.length co47 : Value).ownBlock ∧ some k_ ≠ (v212 : Value).ownBlock) (fun _ => False) rfl rfl ?aO ?aR (fun _ _ h => h) (fun _ h => h.elim) ?aF ?aB ?aS ?aL ?_
        (case aR => repeat (first | exact (Kd.R_reads' HO207.out).2.2 | (with_reducible refine Kd.C_alloc ?_ _) | (with_reducible refine Kd.C_drewN ?_ _) | (with_reducible refine Kd.C_drew ?_)))
        (case aB => exact (by repeat (first | (with_reducible first | exact HB.out | apply YA | apply YB | apply YC | refine below_set ?_ GE187.out) | exact HB.out)))
        (case aF => exact (fun k_ hk => ⟨Kd.fresh' (Kd.R_lt (by (with_reducible repeat (first | apply YS | apply YT | apply YU)); exact HO207.out)) k_ hk, Kd.fresh' (Kd.R_lt (by (with_reducible repeat (first | apply YS | apply YT | apply YU)); exact HO213.out)) k_ hk⟩))
        (case aO => exact (by (with_reducible repeat (first | apply YS | apply YT | apply YU)); exact Kd.R_mono HO_5.out (fun _ hk => by first | exact ⟨hk.1.2, hk.2⟩ | exact trivial | (simp [hk]; done) | simp_all)))
        (case aS => exact (YE (by repeat (first | (with_reducible first | exact HB.out | apply YA | apply YB | apply YC | refine below_set ?_ GE187.out) | exact HB.out))))
        (case aL => have := LMc37.out; omega)
        intro v209 w46 ho hb hg hat
        rw [← Ny208.out] at ho
        have n0_ := YL (blk_grown (g := gb187) (o := .cells #[.int .i64 a0_0, .int .i64 a0_1, .bool a0_2, .int .i64 a0_3, .int .i64 a0_4, .int .i64 a0_5, .int .i64 a0_6, .int .i64 a0_7, .int .i64 a0_8, .int .i64 a0_9, .int .i64 a0_10, .int .i64 a0_11] 34 (0, 0)) (by (with_reducible repeat (first | refine YF ?_ _ | refine YG ?_ | refine YH ?_ _)); exact BK187.out) hg (Kd.R_ne HO_5.out BK187.out (by decide)))
        have n1_ := YL (Kd.R_after (ok := (fun k_ => some k_ ≠ (v212 : Value).ownBlock)) (by (with_reducible repeat (first | apply YS | apply YT | apply YU)); exact Kd.R_mono HO207.out (fun _ hk => by first | exact ⟨hk.2, hk.1.2⟩ | exact trivial | (simp [hk]; done) | simp_all)) hg hat)
        have n2_ := YL (Kd.R_after (ok := (fun k_ => some k_ ≠ (.slice Ao47 t205.length co47 : Value).ownBlock)) (by (with_reducible repeat (first | apply YS | apply YT | apply YU)); exact Kd.R_mono HO213.out (fun _ hk => by first | exact ⟨hk.2, hk.1.2⟩ | exact trivial | (simp [hk]; done) | simp_all)) hg hat)
        have n3_ := YL (hb)
        have n4_ := YL (ho)
        clear BK187; clear HO207; clear HO213; clear HB; clear HO_5; have BK187 := n0_; have HO207 := n1_; have HO213 := n2_; have HB := n3_; have HO210 := n4_; clear n0_ n1_ n2_ n3_ n4_; clear ho hb hg hat
        refine hK.out _ _ ⟨(YI BK187.out 0).trans rfl, (YI BK187.out 1).trans rfl, (YI BK187.out 2).trans rfl, (YI BK187.out 3).trans rfl, (YI BK187.out 4).trans rfl, (YI BK187.out 5).trans rfl, (YI BK187.out 6).trans rfl, (YI BK187.out 7).trans rfl, (YI BK187.out 8).trans rfl, (YI BK187.out 9).trans rfl, (YI BK187.out 10).trans rfl, (YI BK187.out 11).trans rfl⟩ (fun hHeld => ?_)
        clear hK K
        refine norm_ (a' := ?_) ?_ ?_
        rotate_left
        ·show Act.put _ (some 44) _ = _
         simp only [Act.put, YM, YN, YO, i64_w, i32_w]
         rfl
        exact norm_ (by simp only [putAll, Act.put, YM, YN, YO]) (hCont (.slice Ao47 t205.length co47, v209, v212) _ ⟨hHeld, (by (with_reducible repeat (first | apply YS | apply YT | apply YU)); exact Kd.R_mono HO207.out (fun _ hk => by first | exact ⟨hk.2, hk.1⟩ | exact trivial | (simp [hk]; done) | simp_all)), (by (with_reducible repeat (first | apply YS | apply YT | apply YU)); exact HO210.out), (by (with_reducible repeat (first | apply YS | apply YT | apply YU)); exact HO213.out), (by (with_reducible repeat (first | refine YF ?_ _ | refine YG ?_ | refine YH ?_ _)); exact BK187.out), (by repeat (first | (with_reducible first | exact HB.out | apply YA | apply YB | apply YC | refine below_set ?_ GE187.out) | exact HB.out))⟩)
       skip
       refine Kd.R_lit_step (Kd.int .u8) _ 5 ?hg (N := 53) ?hd (xs := ([(a0_9) % 256, (a0_10) % 256] : List Int)) (inner := [.int .u8 ((a0_9) % 256), .int .u8 ((a0_10) % 256)]) (ok := fun _ => True) (okp := fun _ => True) ?hr ?hp (fun _ hk => hk) trivial (Below.refl _ _) (Nat.le_refl _) (by simp) ?_; (case hd => rfl); (case hg => rfl); (case hr => first | (go_simp; done) | (go_simp; rfl)); (case hp => exact (Reps.one (show Kd.M (Kd.int .u8) _ _ _ ((a0_9) % 256) [.int .u8 ((a0_9) % 256)] from rfl) (Reps.one (show Kd.M (Kd.int .u8) _ _ _ ((a0_10) % 256) [.int .u8 ((a0_10) % 256)] from rfl) (Reps.none _ _))))
       intro v212 w43 ho44 hb hg_ hnew_
       clear hg_ hnew_
       (first | rw [← Ny211.out] at ho44 | (simp only [Int.reduceToNat] at ho44; rw [← Ny211.out] at ho44))
       have n0_ := YL (Kd.R_elder' (by (with_reducible repeat (first | apply YS | apply YT | apply YU)); exact HO_5.out) (Kd.R_base ho44) hb)
       have n1_ := YL (Kd.R_lower (Kd.R_new' ho44 (Kd.R_lt (by (with_reducible repeat (first | apply YS | apply YT | apply YU)); exact HO_5.out))) (YE (by repeat (first | (with_reducible first | exact HB.out | apply YA | apply YB | apply YC | refine below_set ?_ GE187.out) | exact HB.out))))
       have n2_ := YL (YK (g := gb187) (o := .cells #[.int .i64 a0_0, .int .i64 a0_1, .bool a0_2, .int .i64 a0_3, .int .i64 a0_4, .int .i64 a0_5, .int .i64 a0_6, .int .i64 a0_7, .int .i64 a0_8, .int .i64 a0_9, .int .i64 a0_10, .int .i64 a0_11] 34 (0, 0)) (by (with_reducible repeat (first | refine YF ?_ _ | refine YG ?_ | refine YH ?_ _)); exact BK187.out) hb)
       have n3_ := YL (YD (by repeat (first | (with_reducible first | exact HB.out | apply YA | apply YB | apply YC | refine below_set ?_ GE187.out) | exact HB.out)) hb)
       clear HO_5; clear BK187; clear HB; have HO_5 := n0_; have HO213 := n1_; have BK187 := n2_; have HB := n3_; clear n0_ n1_ n2_ n3_; clear hb ho44
       refine hK.out _ _ ⟨(YI BK187.out 0).trans rfl, (YI BK187.out 1).trans rfl, (YI BK187.out 2).trans rfl, (YI BK187.out 3).trans rfl, (YI BK187.out 4).trans rfl, (YI BK187.out 5).trans rfl, (YI BK187.out 6).trans rfl, (YI BK187.out 7).trans rfl, (YI BK187.out 8).trans rfl, (YI BK187.out 9).trans rfl, (YI BK187.out 10).trans rfl, (YI BK187.out 11).trans rfl⟩ (fun hHeld => ?_)
       clear hK K
       refine norm_ (a' := ?_) ?_ ?_
       rotate_left
       ·show Act.put _ (some 53) _ = _
        simp only [Act.put, YM, YN, YO, i64_w, i32_w]
        rfl
       refine one_ (i := 4) (N := some 43) #[true, true, true, true, true, false, true, true, true, true, true, true, true, true, true, false, false] rfl rfl (one_of HT_.out (by kernel_rfl)) (by decide) (fun K hK => ?_)
       refine goes_ Try.func70 (by kernel_rfl) rfl #[.int .i64 a0_8] (by rfl) rfl rfl (by (try simp only [YP, List.map_cons, List.map_nil]); first | done | rfl | (simp only [YR, YQ]; rfl)) ?_
       with_reducible refine (wire_Int.calls a0_8 t205 _ A36.out).mono ?_
       rintro e w45 ⟨v206, rfl, ho0, hb⟩
       refine ⟨_, rfl, ?_⟩
       have n0_ := YL (Kd.R_elder' (by (with_reducible repeat (first | apply YS | apply YT | apply YU)); exact HO_5.out) (Kd.R_base ho0) hb)
       have n1_ := YL (Kd.R_elder' (by (with_reducible repeat (first | apply YS | apply YT | apply YU)); exact HO213.out) (Kd.R_base ho0) hb)
       have n2_ := YL (Kd.R_lower (Kd.R_new' (Kd.R_new' ho0 (Kd.R_lt (by (with_reducible repeat (first | apply YS | apply YT | apply YU)); exact HO_5.out))) (Kd.R_lt (by (with_reducible repeat (first | apply YS | apply YT | apply YU)); exact HO213.out))) (YE (by repeat (first | (with_reducible first | exact HB.out | apply YA | apply YB | apply YC | refine below_set ?_ GE187.out) | exact HB.out))))
       have n3_ := YL (YK (g := gb187) (o := .cells #[.int .i64 a0_0, .int .i64 a0_1, .bool a0_2, .int .i64 a0_3, .int .i64 a0_4, .int .i64 a0_5, .int .i64 a0_6, .int .i64 a0_7, .int .i64 a0_8, .int .i64 a0_9, .int .i64 a0_10, .int .i64 a0_11] 34 (0, 0)) (by (with_reducible repeat (first | refine YF ?_ _ | refine YG ?_ | refine YH ?_ _)); exact BK187.out) hb)
       have n4_ := YL (YD (by repeat (first | (with_reducible first | exact HB.out | apply YA | apply YB | apply YC | refine below_set ?_ GE187.out) | exact HB.out)) hb)
       clear HO_5; clear HO213; clear BK187; clear HB; have HO_5 := n0_; have HO213 := n1_; have HO207 := n2_; have BK187 := n3_; have HB := n4_; clear n0_ n1_ n2_ n3_ n4_; (try clear hb); (try clear hb2); (try clear hk); (try clear hi); (try clear ho0)
       obtain ⟨Ao47, co47, eo47⟩ := Kd.R_slice HO207.out
       (first | subst eo47 | (injection eo47 with f1_ f2_ f3_; have f4_ := f1_.symm; have f5_ := f3_.symm; clear f1_ f2_ f3_; subst f4_; subst f5_))
       refine hK.out _ _ ⟨(YI BK187.out 0).trans rfl, (YI BK187.out 1).trans rfl, (YI BK187.out 2).trans rfl, (YI BK187.out 3).trans rfl, (YI BK187.out 4).trans rfl, (YI BK187.out 5).trans rfl, (YI BK187.out 6).trans rfl, (YI BK187.out 7).trans rfl, (YI BK187.out 8).trans rfl, (YI BK187.out 9).trans rfl, (YI BK187.out 10).trans rfl, (YI BK187.out 11).trans rfl⟩ (fun hHeld => ?_)
       clear hK K
       refine norm_ (a' := ?_) ?_ ?_
       rotate_left
       ·show Act.put _ (some 43) _ = _
        simp only [Act.put, YM, YN, YO, i64_w, i32_w]
        rfl
       refine one_ (i := 5) (N := some 44) #[true, true, true, true, true, true, true, true, true, true, true, true, true, true, true, false, false] rfl rfl (one_of HT_.out (by kernel_rfl)) (by decide) (fun K hK => ?_)
       refine Kd.R_append_rows_step (Kd.int .u8) (w0 := w) w.heap.size (by rfl) (.tmp 39) (.tmp 43) 107 5 (.int .u8 0) 1 rfl Try.underlying107 info5 rfl (by decide) (by omega) (.slice Ao41 y189.length co41) y189 t205 _ _ _ (fun k_ => some k_ ≠ (v212 : Value).ownBlock ∧ some k_ ≠ (.slice Ao47 t205.length co47 : Value).ownBlock) (fun _ => False) rfl rfl ?aO ?aR (fun _ _ h => h) (fun _ h => h.elim) ?aF ?aB ?aS ?aL ?_
       (case aR => repeat (first | exact (Kd.R_reads' HO207.out).2.2 | (with_reducible refine Kd.C_alloc ?_ _) | (with_reducible refine Kd.C_drewN ?_ _) | (with_reducible refine Kd.C_drew ?_)))
       (case aB => exact (by repeat (first | (with_reducible first | exact HB.out | apply YA | apply YB | apply YC | refine below_set ?_ GE187.out) | exact HB.out)))
       (case aF => exact (fun k_ hk => ⟨Kd.fresh' (Kd.R_lt (by (with_reducible repeat (first | apply YS | apply YT | apply YU)); exact HO213.out)) k_ hk, Kd.fresh' (Kd.R_lt (by (with_reducible repeat (first | apply YS | apply YT | apply YU)); exact HO207.out)) k_ hk⟩))
       (case aO => exact (by (with_reducible repeat (first | apply YS | apply YT | apply YU)); exact Kd.R_mono HO_5.out (fun _ hk => by first | exact ⟨hk.1.2, hk.2⟩ | exact trivial | (simp [hk]; done) | simp_all)))
       (case aS => exact (YE (by repeat (first | (with_reducible first | exact HB.out | apply YA | apply YB | apply YC | refine below_set ?_ GE187.out) | exact HB.out))))
       (case aL => have := LMc37.out; omega)
       intro v209 w46 ho hb hg hat
       rw [← Ny208.out] at ho
       have n0_ := YL (blk_grown (g := gb187) (o := .cells #[.int .i64 a0_0, .int .i64 a0_1, .bool a0_2, .int .i64 a0_3, .int .i64 a0_4, .int .i64 a0_5, .int .i64 a0_6, .int .i64 a0_7, .int .i64 a0_8, .int .i64 a0_9, .int .i64 a0_10, .int .i64 a0_11] 34 (0, 0)) (by (with_reducible repeat (first | refine YF ?_ _ | refine YG ?_ | refine YH ?_ _)); exact BK187.out) hg (Kd.R_ne HO_5.out BK187.out (by decide)))
       have n1_ := YL (Kd.R_after (ok := (fun k_ => some k_ ≠ (.slice Ao47 t205.length co47 : Value).ownBlock)) (by (with_reducible repeat (first | apply YS | apply YT | apply YU)); exact Kd.R_mono HO213.out (fun _ hk => by first | exact ⟨hk.2, hk.1.2⟩ | exact trivial | (simp [hk]; done) | simp_all)) hg hat)
       have n2_ := YL (Kd.R_after (ok := (fun k_ => some k_ ≠ (v212 : Value).ownBlock)) (by (with_reducible repeat (first | apply YS | apply YT | apply YU)); exact Kd.R_mono HO207.out (fun _ hk => by first | exact ⟨hk.2, hk.1.2⟩ | exact trivial | (simp [hk]; done) | simp_all)) hg hat)
       have n3_ := YL (hb)
       have n4_ := YL (ho)
       clear BK187; clear HO213; clear HO207; clear HB; clear HO_5; have BK187 := n0_; have HO213 := n1_; have HO207 := n2_; have HB := n3_; have HO210 := n4_; clear n0_ n1_ n2_ n3_ n4_; clear ho hb hg hat
       refine hK.out _ _ ⟨(YI BK187.out 0).trans rfl, (YI BK187.out 1).trans rfl, (YI BK187.out 2).trans rfl, (YI BK187.out 3).trans rfl, (YI BK187.out 4).trans rfl, (YI BK187.out 5).trans rfl, (YI BK187.out 6).trans rfl, (YI BK187.out 7).trans rfl, (YI BK187.out 8).trans rfl, (YI BK187.out 9).trans rfl, (YI BK187.out 10).trans rfl, (YI BK187.out 11).trans rfl⟩ (fun hHeld => ?_)
       clear hK K
       refine norm_ (a' := ?_) ?_ ?_
       rotate_left
       ·show Act.put _ (some 44) _ = _
        simp only [Act.put, YM, YN, YO, i64_w, i32_w]
        rfl
       exact norm_ (by simp only [putAll, Act.put, YM, YN, YO]) (hCont (.slice Ao47 t205.length co47, v209, v212) _ ⟨hHeld, (by (with_reducible repeat (first | apply YS | apply YT | apply YU)); exact Kd.R_mono HO207.out (fun _ hk => by first | exact ⟨hk.2, hk.1⟩ | exact trivial | (simp [hk]; done) | simp_all)), (by (with_reducible repeat (first | apply YS | apply YT | apply YU)); exact Kd.R_mono HO210.out (fun _ hk => by first | exact ⟨hk.2, hk.1⟩ | exact trivial | (simp [hk]; done) | simp_all)), (by (with_reducible repeat (first | apply YS | apply YT | apply YU)); exact HO213.out), (by (with_reducible repeat (first | refine YF ?_ _ | refine YG ?_ | refine YH ?_ _)); exact BK187.out), (by repeat (first | (with_reducible first | exact HB.out | apply YA | apply YB | apply YC | refine below_set ?_ GE187.out) | exact HB.out))⟩)
      rintro ⟨v206, v209, v212⟩ w48 ⟨hS_, h0_, h1_, h2_, h3_, h4_⟩
      have n0_ : Aside0 (Kd.R (Kd.int .u8) 5 w48 w.heap.size (fun k_ => some k_ ≠ (v209 : Value).ownBlock ∧ some k_ ≠ (v212 : Value).ownBlock) v206 t205) := ⟨h0_⟩
      have n1_ : Aside0 (Kd.R (Kd.int .u8) 5 w48 w.heap.size (fun k_ => some k_ ≠ (v206 : Value).ownBlock ∧ some k_ ≠ (v212 : Value).ownBlock) v209 y208) := ⟨h1_⟩
      have n2_ : Aside0 (Kd.R (Kd.int .u8) 5 w48 w.heap.size (fun k_ => some k_ ≠ (v206 : Value).ownBlock ∧ some k_ ≠ (v209 : Value).ownBlock) v212 y211) := ⟨h2_⟩
      have n3_ : Aside0 (w48.heap[gb187]? = some (.cells #[.int .i64 a0_0, .int .i64 a0_1, .bool a0_2, .int .i64 a0_3, .int .i64 a0_4, .int .i64 a0_5, .int .i64 a0_6, .int .i64 a0_7, .int .i64 a0_8, .int .i64 a0_9, .int .i64 a0_10, .int .i64 a0_11] 34 (0, 0))) := ⟨h3_⟩
      have n4_ : Aside0 (Below w.heap.size w w48) := ⟨h4_⟩
      clear HO_5; clear BK187; clear HB; clear h0_ h1_ h2_ h3_ h4_; have HO207 := n0_; have HO210 := n1_; have HO213 := n2_; have BK187 := n3_; have HB := n4_; clear n0_ n1_ n2_ n3_ n4_
      have hHeld : w48.cell? ⟨gb187, 0, none⟩ = some (.int .i64 a0_0) ∧ w48.cell? ⟨gb187, 1, none⟩ = some (.int .i64 a0_1) ∧ w48.cell? ⟨gb187, 2, none⟩ = some (.bool a0_2) ∧ w48.cell? ⟨gb187, 3, none⟩ = some (.int .i64 a0_3) ∧ w48.cell? ⟨gb187, 4, none⟩ = some (.int .i64 a0_4) ∧ w48.cell? ⟨gb187, 5, none⟩ = some (.int .i64 a0_5) ∧ w48.cell? ⟨gb187, 6, none⟩ = some (.int .i64 a0_6) ∧ w48.cell? ⟨gb187, 7, none⟩ = some (.int .i64 a0_7) ∧ w48.cell? ⟨gb187, 8, none⟩ = some (.int .i64 a0_8) ∧ w48.cell? ⟨gb187, 9, none⟩ = some (.int .i64 a0_9) ∧ w48.cell? ⟨gb187, 10, none⟩ = some (.int .i64 a0_10) ∧ w48.cell? ⟨gb187, 11, none⟩ = some (.int .i64 a0_11) := hS_
      obtain ⟨Ao50, co50, eo50⟩ := Kd.R_slice HO213.out
      (first | subst eo50 | (injection eo50 with f1_ f2_ f3_; have f4_ := f1_.symm; have f5_ := f3_.symm; clear f1_ f2_ f3_; subst f4_; subst f5_))
      refine norm_ (a' := ?_) ?_ ?_
      rotate_left
      ·simp only [putAll, Act.put, YM, YN, YO]
       rfl
      refine one_ (i := 15) (N := some 54) #[true, true, true, true, true, true, true, true, true, true, true, true, true, true, true, true, false] rfl rfl (one_of HT_.out (by kernel_rfl)) (by decide) (fun K hK => ?_)
      refine Kd.R_append_rows_step (Kd.int .u8) (w0 := w) w.heap.size (by rfl) (.tmp 44) (.tmp 53) 107 5 (.int .u8 0) 1 rfl Try.underlying107 info5 rfl (by decide) (by omega) v209 y208 y211 _ _ _ (fun k_ => some k_ ≠ (v206 : Value).ownBlock ∧ some k_ ≠ (.slice Ao50 y211.length co50 : Value).ownBlock) (fun _ => False) rfl rfl ?aO ?aR (fun _ _ h => h) (fun _ h => h.elim) ?aF ?aB ?aS ?aL ?_
      (case aR => repeat (first | exact (Kd.R_reads' HO213.out).2.2 | (with_reducible refine Kd.C_alloc ?_ _) | (with_reducible refine Kd.C_drewN ?_ _) | (with_reducible refine Kd.C_drew ?_)))
      (case aB => exact (by repeat (first | (with_reducible first | exact HB.out | apply YA | apply YB | apply YC | refine below_set ?_ GE187.out) | exact HB.out)))
      (case aF => exact (fun k_ hk => ⟨Kd.fresh' (Kd.R_lt (by (with_reducible repeat (first | apply YS | apply YT | apply YU)); exact HO207.out)) k_ hk, Kd.fresh' (Kd.R_lt (by (with_reducible repeat (first | apply YS | apply YT | apply YU)); exact HO213.out)) k_ hk⟩))
      (case aO => exact (by (with_reducible repeat (first | apply YS | apply YT | apply YU)); exact HO210.out))
      (case aS => exact (YE (by repeat (first | (with_reducible first | exact HB.out | apply YA | apply YB | apply YC | refine below_set ?_ GE187.out) | exact HB.out))))
      (case aL => have := LMc38.out; omega)
      intro v215 w49 ho hb hg hat
      rw [← Ny214.out] at ho
      have n0_ := YL (blk_grown (g := gb187) (o := .cells #[.int .i64 a0_0, .int .i64 a0_1, .bool a0_2, .int .i64 a0_3, .int .i64 a0_4, .int .i64 a0_5, .int .i64 a0_6, .int .i64 a0_7, .int .i64 a0_8, .int .i64 a0_9, .int .i64 a0_10, .int .i64 a0_11] 34 (0, 0)) (by (with_reducible repeat (first | refine YF ?_ _ | refine YG ?_ | refine YH ?_ _)); exact BK187.out) hg (Kd.R_ne HO210.out BK187.out (by decide)))
      have n1_ := YL (Kd.R_after (ok := (fun k_ => some k_ ≠ (.slice Ao50 y211.length co50 : Value).ownBlock)) (by (with_reducible repeat (first | apply YS | apply YT | apply YU)); exact Kd.R_mono HO207.out (fun _ hk => by first | exact ⟨hk.2, hk.1⟩ | exact trivial | (simp [hk]; done) | simp_all)) hg hat)
      have n2_ := YL (Kd.R_after (ok := (fun k_ => some k_ ≠ (v206 : Value).ownBlock)) (by (with_reducible repeat (first | apply YS | apply YT | apply YU)); exact HO213.out) hg hat)
      have n3_ := YL (hb)
      have n4_ := YL (ho)
      clear BK187; clear HO207; clear HO213; clear HB; clear HO210; have BK187 := n0_; have HO207 := n1_; have HO213 := n2_; have HB := n3_; have HO216 := n4_; clear n0_ n1_ n2_ n3_ n4_; clear ho hb hg hat
      refine hK.out _ _ ⟨(YI BK187.out 0).trans rfl, (YI BK187.out 1).trans rfl, (YI BK187.out 2).trans rfl, (YI BK187.out 3).trans rfl, (YI BK187.out 4).trans rfl, (YI BK187.out 5).trans rfl, (YI BK187.out 6).trans rfl, (YI BK187.out 7).trans rfl, (YI BK187.out 8).trans rfl, (YI BK187.out 9).trans rfl, (YI BK187.out 10).trans rfl, (YI BK187.out 11).trans rfl⟩ (fun hHeld => ?_)
      clear hK K
      refine norm_ (a' := ?_) ?_ ?_
      rotate_left
      ·show Act.put _ (some 54) _ = _
       simp only [Act.put, YM, YN, YO, i64_w, i32_w]
       rfl
      refine pure_ (i := 16) (N := some 5) (v := ?_) (a' := ?_) #[true, true, true, true, true, true, true, true, true, true, true, true, true, true, true, true, true] rfl rfl (any_of HT_.out (by kernel_rfl)) (fun _ _ _ h => h) (Or.inl ⟨by rfl, ?_⟩) ?_ ?_
      rotate_left
      ·intro w'
       go_simp; with_reducible rfl
      rotate_left
      ·simp only [Act.put, YM, YN, YO, i64_w, i32_w]
       rfl
      refine done_ (done_of HT_.out (by kernel_rfl)) ?_
      have q51_0 : w49.cell? ⟨gb187, 0, none⟩ = some (.int .i64 a0_0) := (YI BK187.out 0).trans rfl
      have q51_1 : w49.cell? ⟨gb187, 1, none⟩ = some (.int .i64 a0_1) := (YI BK187.out 1).trans rfl
      have q51_2 : w49.cell? ⟨gb187, 2, none⟩ = some (.bool a0_2) := (YI BK187.out 2).trans rfl
      have q51_3 : w49.cell? ⟨gb187, 3, none⟩ = some (.int .i64 a0_3) := (YI BK187.out 3).trans rfl
      have q51_4 : w49.cell? ⟨gb187, 4, none⟩ = some (.int .i64 a0_4) := (YI BK187.out 4).trans rfl
      have q51_5 : w49.cell? ⟨gb187, 5, none⟩ = some (.int .i64 a0_5) := (YI BK187.out 5).trans rfl
      have q51_6 : w49.cell? ⟨gb187, 6, none⟩ = some (.int .i64 a0_6) := (YI BK187.out 6).trans rfl
      have q51_7 : w49.cell? ⟨gb187, 7, none⟩ = some (.int .i64 a0_7) := (YI BK187.out 7).trans rfl
      have q51_8 : w49.cell? ⟨gb187, 8, none⟩ = some (.int .i64 a0_8) := (YI BK187.out 8).trans rfl
      have q51_9 : w49.cell? ⟨gb187, 9, none⟩ = some (.int .i64 a0_9) := (YI BK187.out 9).trans rfl
      have q51_10 : w49.cell? ⟨gb187, 10, none⟩ = some (.int .i64 a0_10) := (YI BK187.out 10).trans rfl
      have q51_11 : w49.cell? ⟨gb187, 11, none⟩ = some (.int .i64 a0_11) := (YI BK187.out 11).trans rfl
      have f51_0 := YJ BK187.out 0
      have f51_1 := YJ BK187.out 1
      have f51_2 := YJ BK187.out 2
      have f51_3 := YJ BK187.out 3
      have f51_4 := YJ BK187.out 4
      have f51_5 := YJ BK187.out 5
      have f51_6 := YJ BK187.out 6
      have f51_7 := YJ BK187.out 7
      have f51_8 := YJ BK187.out 8
      have f51_9 := YJ BK187.out 9
      have f51_10 := YJ BK187.out 10
      have f51_11 := YJ BK187.out 11
      try go_wp2_with (first | ((with_reducible refine gate_dst (N := 66) rfl ?_); refine Kd.R_lit (Kd.int .u8) _ 5 ?hg (N := 66) ?hd (xs := ([(a0_11 / 256) % 256, (a0_11) % 256] : List Int)) (inner := [.int .u8 ((a0_11 / 256) % 256), .int .u8 ((a0_11) % 256)]) (ok := fun _ => True) (okp := fun _ => True) ?hr ?hp (fun _ hk => hk) trivial (Below.refl _ _) (Nat.le_refl _) (by simp) ?_; (case hd => rfl); (case hg => rfl); (case hr => first | (go_simp; done) | (go_simp; rfl)); (case hp => exact (Reps.one (show Kd.M (Kd.int .u8) _ _ _ ((a0_11 / 256) % 256) [.int .u8 ((a0_11 / 256) % 256)] from rfl) (Reps.one (show Kd.M (Kd.int .u8) _ _ _ ((a0_11) % 256) [.int .u8 ((a0_11) % 256)] from rfl) (Reps.none _ _)))); intro v218 w52 ho53 hb hg_ hnew_; clear hg_ hnew_; (first | rw [← Ny217.out] at ho53 | (simp only [Int.reduceToNat] at ho53; rw [← Ny217.out] at ho53)); have n0_ := YL (Kd.R_elder' (by (with_reducible repeat (first | apply YS | apply YT | apply YU)); exact HO207.out) (Kd.R_base ho53) hb); have n1_ := YL (Kd.R_elder' (by (with_reducible repeat (first | apply YS | apply YT | apply YU)); exact HO213.out) (Kd.R_base ho53) hb); have n2_ := YL (Kd.R_elder' (by (with_reducible repeat (first | apply YS | apply YT | apply YU)); exact HO216.out) (Kd.R_base ho53) hb); have n3_ := YL (Kd.R_lower (Kd.R_new' (Kd.R_new' (Kd.R_new' ho53 (Kd.R_lt (by (with_reducible repeat (first | apply YS | apply YT | apply YU)); exact HO207.out))) (Kd.R_lt (by (with_reducible repeat (first | apply YS | apply YT | apply YU)); exact HO213.out))) (Kd.R_lt (by (with_reducible repeat (first | apply YS | apply YT | apply YU)); exact HO216.out))) (YE (by repeat (first | (with_reducible first | exact HB.out | apply YA | apply YB | apply YC | refine below_set ?_ GE187.out) | exact HB.out)))); have n4_ := YL (YK (g := gb187) (o := .cells #[.int .i64 a0_0, .int .i64 a0_1, .bool a0_2, .int .i64 a0_3, .int .i64 a0_4, .int .i64 a0_5, .int .i64 a0_6, .int .i64 a0_7, .int .i64 a0_8, .int .i64 a0_9, .int .i64 a0_10, .int .i64 a0_11] 34 (0, 0)) (by (with_reducible repeat (first | refine YF ?_ _ | refine YG ?_ | refine YH ?_ _)); exact BK187.out) hb); have n5_ := YL (YD (by repeat (first | (with_reducible first | exact HB.out | apply YA | apply YB | apply YC | refine below_set ?_ GE187.out) | exact HB.out)) hb); clear HO207; clear HO213; clear HO216; clear BK187; clear HB; have HO207 := n0_; have HO213 := n1_; have HO216 := n2_; have HO219 := n3_; have BK187 := n4_; have HB := n5_; clear n0_ n1_ n2_ n3_ n4_ n5_; clear hb ho53; obtain ⟨Ao55, co55, eo55⟩ := Kd.R_slice HO219.out; subst eo55) | ((with_reducible refine gate_builtin (b := .append) (xs := #[.tmp 58, .tmp 66]) rfl ?_); at_builtin; refine Kd.R_append_rows (Kd.int .u8) (w0 := w) w.heap.size rfl (.tmp 58) (.tmp 66) 107 5 (.int .u8 0) 1 rfl Try.underlying107 info5 rfl (by decide) (by omega) v215 y214 y217 _ _ _ (fun k_ => some k_ ≠ (v206 : Value).ownBlock ∧ some k_ ≠ (.slice Ao50 y211.length co50 : Value).ownBlock ∧ some k_ ≠ (.slice Ao55 y217.length co55 : Value).ownBlock) (fun _ => False) rfl rfl ?aO ?aR (fun _ _ h => h) (fun _ h => h.elim) ?aF ?aB ?aS ?aL ?_; (case aR => repeat (first | exact (Kd.R_reads' HO219.out).2.2 | (with_reducible refine Kd.C_alloc ?_ _) | (with_reducible refine Kd.C_drewN ?_ _) | (with_reducible refine Kd.C_drew ?_))); (case aB => exact (by repeat (first | (with_reducible first | exact HB.out | apply YA | apply YB | apply YC | refine below_set ?_ GE187.out) | exact HB.out))); (case aF => exact (fun k_ hk => ⟨Kd.fresh' (Kd.R_lt (by (with_reducible repeat (first | apply YS | apply YT | apply YU)); exact HO207.out)) k_ hk, Kd.fresh' (Kd.R_lt (by (with_reducible repeat (first | apply YS | apply YT | apply YU)); exact HO213.out)) k_ hk, Kd.fresh' (Kd.R_lt (by (with_reducible repeat (first | apply YS | apply YT | apply YU)); exact HO219.out)) k_ hk⟩)); (case aO => exact (by (with_reducible repeat (first | apply YS | apply YT | apply YU)); exact Kd.R_mono HO216.out (fun _ hk => by first | exact ⟨hk.1.1, ⟨hk.1.2, hk.2⟩⟩ | exact trivial | (simp [hk]; done) | simp_all))); (case aS => exact (YE (by repeat (first | (with_reducible first | exact HB.out | apply YA | apply YB | apply YC | refine below_set ?_ GE187.out) | exact HB.out)))); (case aL => have := LMc40.out; omega); intro v221 w54 ho hb hg hat; rw [← Ny220.out] at ho; have n0_ := YL (blk_grown (g := gb187) (o := .cells #[.int .i64 a0_0, .int .i64 a0_1, .bool a0_2, .int .i64 a0_3, .int .i64 a0_4, .int .i64 a0_5, .int .i64 a0_6, .int .i64 a0_7, .int .i64 a0_8, .int .i64 a0_9, .int .i64 a0_10, .int .i64 a0_11] 34 (0, 0)) (by (with_reducible repeat (first | refine YF ?_ _ | refine YG ?_ | refine YH ?_ _)); exact BK187.out) hg (Kd.R_ne HO216.out BK187.out (by decide))); have n1_ := YL (Kd.R_after (ok := (fun k_ => some k_ ≠ (.slice Ao50 y211.length co50 : Value).ownBlock ∧ some k_ ≠ (.slice Ao55 y217.length co55 : Value).ownBlock)) (by (with_reducible repeat (first | apply YS | apply YT | apply YU)); exact Kd.R_mono HO207.out (fun _ hk => by first | exact ⟨⟨hk.1.1, hk.2⟩, hk.1.2⟩ | exact trivial | (simp [hk]; done) | simp_all)) hg hat); have n2_ := YL (Kd.R_after (ok := (fun k_ => some k_ ≠ (v206 : Value).ownBlock ∧ some k_ ≠ (.slice Ao55 y217.length co55 : Value).ownBlock)) (by (with_reducible repeat (first | apply YS | apply YT | apply YU)); exact Kd.R_mono HO213.out (fun _ hk => by first | exact ⟨⟨hk.1.1, hk.2⟩, hk.1.2⟩ | exact trivial | (simp [hk]; done) | simp_all)) hg hat); have n3_ := YL (Kd.R_after (ok := (fun k_ => some k_ ≠ (v206 : Value).ownBlock ∧ some k_ ≠ (.slice Ao50 y211.length co50 : Value).ownBlock)) (by (with_reducible repeat (first | apply YS | apply YT | apply YU)); exact Kd.R_mono HO219.out (fun _ hk => by first | exact ⟨⟨hk.1.1.2, hk.1.2⟩, hk.2⟩ | exact trivial | (simp [hk]; done) | simp_all)) hg hat); have n4_ := YL (hb); have n5_ := YL (ho); clear BK187; clear HO207; clear HO213; clear HO219; clear HB; clear HO216; have BK187 := n0_; have HO207 := n1_; have HO213 := n2_; have HO219 := n3_; have HB := n4_; have HO222 := n5_; clear n0_ n1_ n2_ n3_ n4_ n5_; clear ho hb hg hat))
      go_ret2
      exact ⟨_, by first | rfl | (simp [errW_none, errW_some] <;> rfl) | (simp [*, errW_none, errW_some] <;> rfl), by (with_reducible repeat (first | apply YS | apply YT | apply YU)); exact Kd.R_mono HO222.out (fun _ hk => trivial), by repeat (first | (with_reducible first | exact HB.out | apply YA | apply YB | apply YC | refine below_set ?_ GE187.out) | exact HB.out)⟩
     rw [if_neg c39] at H
     have c39b0 : (a0_0 == 4) = false := beq_eq_false_iff_ne.mpr c39
     have c39b1 : (a0_0 != 4) = true := bne_iff_ne.mpr c39
     simp only [Option.some.injEq, Prod.mk.injEq] at H
     obtain ⟨rfl, rfl⟩ := H
     obtain ⟨Ao56, co56, eo56⟩ := Kd.R_slice HO_5.out
     subst eo56
     try go_wp2
     have n0_ := YL (YU HO_5.out)
     have n1_ := YL (YG BK187.out)
     have n2_ := YL (YC HB.out)
     clear HO_5; clear BK187; clear HB; have HO_5 := n0_; have BK187 := n1_; have HB := n2_; clear n0_ n1_ n2_
     refine start_ (n := 17) (S := fun w' => w'.cell? ⟨gb187, 0, none⟩ = some (.int .i64 a0_0) ∧ w'.cell? ⟨gb187, 1, none⟩ = some (.int .i64 a0_1) ∧ w'.cell? ⟨gb187, 2, none⟩ = some (.bool a0_2) ∧ w'.cell? ⟨gb187, 3, none⟩ = some (.int .i64 a0_3) ∧ w'.cell? ⟨gb187, 4, none⟩ = some (.int .i64 a0_4) ∧ w'.cell? ⟨gb187, 5, none⟩ = some (.int .i64 a0_5) ∧ w'.cell? ⟨gb187, 6, none⟩ = some (.int .i64 a0_6) ∧ w'.cell? ⟨gb187, 7, none⟩ = some (.int .i64 a0_7) ∧ w'.cell? ⟨gb187, 8, none⟩ = some (.int .i64 a0_8) ∧ w'.cell? ⟨gb187, 9, none⟩ = some (.int .i64 a0_9) ∧ w'.cell? ⟨gb187, 10, none⟩ = some (.int .i64 a0_10) ∧ w'.cell? ⟨gb187, 11, none⟩ = some (.int .i64 a0_11)) (ds := []) #[false, false, false, false, false, false, false, false, false, false, false, false, false, false, false, false, false] (by kernel_rfl) rfl rfl ⟨(YI BK187.out 0).trans rfl, (YI BK187.out 1).trans rfl, (YI BK187.out 2).trans rfl, (YI BK187.out 3).trans rfl, (YI BK187.out 4).trans rfl, (YI BK187.out 5).trans rfl, (YI BK187.out 6).trans rfl, (YI BK187.out 7).trans rfl, (YI BK187.out 8).trans rfl, (YI BK187.out 9).trans rfl, (YI BK187.out 10).trans rfl, (YI BK187.out 11).trans rfl⟩ (fun hHeld => ?_); refine with_tabW object_Bytes.tab13 object_Bytes.bits13 (fun HT_ HW_ => ?_)
     generalize wc.drew = w57 at HO_5 BK187 HB hHeld ⊢
     refine pure_ (i := 0) (N := some 39) (v := ?_) (a' := ?_) #[true, false, false, false, false, false, false, false, false, false, false, false, false, false, false, false, false] rfl rfl (any_of HT_.out (by kernel_rfl)) (fun _ _ _ h => h) (Or.inl ⟨by rfl, ?_⟩) ?_ ?_
     rotate_left
     ·intro w'
      go_simp; with_reducible rfl
     rotate_left
     ·simp only [Act.put, YM, YN, YO, i64_w, i32_w]
      rfl
     refine pure_ (i := 1) (N := some 40) (v := ?_) (a' := ?_) #[true, true, false, false, false, false, false, false, false, false, false, false, false, false, false, false, false] rfl rfl (any_of HT_.out (by kernel_rfl)) (fun _ _ _ h => h) (Or.inl ⟨by rfl, ?_⟩) ?_ ?_
     rotate_left
     ·intro w'
      go_simp; with_reducible rfl
     rotate_left
     ·simp only [Act.put, YM, YN, YO, i64_w, i32_w]
      rfl
     refine pure_ (i := 2) (N := some 41) (v := ?_) (a' := ?_) #[true, true, true, false, false, false, false, false, false, false, false, false, false, false, false, false, false] rfl rfl (any_of HT_.out (by kernel_rfl)) (fun _ _ _ h => h) (Or.inl ⟨by rfl, ?_⟩) ?_ ?_
     rotate_left
     ·intro w'
      go_simp; with_reducible rfl
     rotate_left
     ·simp only [Act.put, YM, YN, YO, i64_w, i32_w]
      rfl
     refine pure_ (i := 6) (N := some 45) (v := ?_) (a' := ?_) #[true, true, true, false, false, false, true, false, false, false, false, false, false, false, false, false, false] rfl rfl (any_of HT_.out (by kernel_rfl)) (fun _ _ _ h => h) (Or.inl ⟨by rfl, ?_⟩) ?_ ?_
     rotate_left
     ·intro w'
      go_simp; with_reducible rfl
     rotate_left
     ·simp only [Act.put, YM, YN, YO, i64_w, i32_w]
      rfl
     refine pure_ (i := 7) (N := some 46) (v := ?_) (a' := ?_) #[true, true, true, false, false, false, true, true, false, false, false, false, false, false, false, false, false] rfl rfl (any_of HT_.out (by kernel_rfl)) (fun _ _ _ h => h) (Or.inl ⟨by rfl, ?_⟩) ?_ ?_
     rotate_left
     ·intro w'
      go_simp; with_reducible rfl
     rotate_left
     ·simp only [Act.put, YM, YN, YO, i64_w, i32_w]
      rfl
     refine pure_ (i := 10) (N := some 49) (v := ?_) (a' := ?_) #[true, true, true, false, false, false, true, true, false, false, true, false, false, false, false, false, false] rfl rfl (any_of HT_.out (by kernel_rfl)) (fun _ _ _ h => h) (Or.inl ⟨by rfl, ?_⟩) ?_ ?_
     rotate_left
     ·intro w'
      go_simp; with_reducible rfl
     rotate_left
     ·simp only [Act.put, YM, YN, YO, i64_w, i32_w]
      rfl
     refine pure_ (i := 11) (N := some 50) (v := ?_) (a' := ?_) #[true, true, true, false, false, false, true, true, false, false, true, true, false, false, false, false, false] rfl rfl (any_of HT_.out (by kernel_rfl)) (fun _ _ _ h => h) (Or.inl ⟨by rfl, ?_⟩) ?_ ?_
     rotate_left
     ·intro w'
      go_simp; with_reducible rfl
     rotate_left
     ·simp only [Act.put, YM, YN, YO, i64_w, i32_w]
      rfl
     refine take_ (i := 3) (N := some 42) (v := ?_) (a' := ?_) #[true, true, true, true, false, false, true, true, false, false, true, true, false, false, false, false, false] rfl rfl (take_ofW HT_.out HW_.out (by kernel_rfl)) (fun _ _ _ h => h) (Or.inl ⟨by rfl, ?_⟩) hHeld ?_ ?_
     rotate_left
     ·rintro w' ⟨s0, s1, s2, s3, s4, s5, s6, s7, s8, s9, s10, s11⟩
      go_simp; with_reducible rfl
     rotate_left
     ·simp only [Act.put, YM, YN, YO, i64_w, i32_w]
      rfl
     refine take_ (i := 8) (N := some 47) (v := ?_) (a' := ?_) #[true, true, true, true, false, false, true, true, true, false, true, true, false, false, false, false, false] rfl rfl (take_ofW HT_.out HW_.out (by kernel_rfl)) (fun _ _ _ h => h) (Or.inl ⟨by rfl, ?_⟩) hHeld ?_ ?_
     rotate_left
     ·rintro w' ⟨s0, s1, s2, s3, s4, s5, s6, s7, s8, s9, s10, s11⟩
      go_simp; with_reducible rfl
     rotate_left
     ·simp only [Act.put, YM, YN, YO, i64_w, i32_w]
      rfl
     refine pure_ (i := 9) (N := some 48) (v := ?_) (a' := ?_) #[true, true, true, true, false, false, true, true, true, true, true, true, false, false, false, false, false] rfl rfl (any_of HT_.out (by kernel_rfl)) (fun _ _ _ h => h) (Or.inl ⟨by rfl, ?_⟩) ?_ ?_
     rotate_left
     ·intro w'
      go_simp; with_reducible rfl
     rotate_left
     ·simp only [Act.put, YM, YN, YO, i64_w, i32_w]
      rfl
     refine take_ (i := 12) (N := some 51) (v := ?_) (a' := ?_) #[true, true, true, true, false, false, true, true, true, true, true, true, true, false, false, false, false] rfl rfl (take_ofW HT_.out HW_.out (by kernel_rfl)) (fun _ _ _ h => h) (Or.inl ⟨by rfl, ?_⟩) hHeld ?_ ?_
     rotate_left
     ·rintro w' ⟨s0, s1, s2, s3, s4, s5, s6, s7, s8, s9, s10, s11⟩
      go_simp; with_reducible rfl
     rotate_left
     ·simp only [Act.put, YM, YN, YO, i64_w, i32_w]
      rfl
     refine pure_ (i := 13) (N := some 52) (v := ?_) (a' := ?_) #[true, true, true, true, false, false, true, true, true, true, true, true, true, true, false, false, false] rfl rfl (any_of HT_.out (by kernel_rfl)) (fun _ _ _ h => h) (Or.inl ⟨by rfl, ?_⟩) ?_ ?_
     rotate_left
     ·intro w'
      go_simp; with_reducible rfl
     rotate_left
     ·simp only [Act.put, YM, YN, YO, i64_w, i32_w]
      rfl
     refine join_ (σ := Value × Value × Value) 2 #[true, true, true, true, true, true, true, true, true, true, true, true, true, true, true, false, false] (fun s_ => [(43, s_.1), (44, s_.2.1), (53, s_.2.2)]) (fun s_ w' => (w'.cell? ⟨gb187, 0, none⟩ = some (.int .i64 a0_0) ∧ w'.cell? ⟨gb187, 1, none⟩ = some (.int .i64 a0_1) ∧ w'.cell? ⟨gb187, 2, none⟩ = some (.bool a0_2) ∧ w'.cell? ⟨gb187, 3, none⟩ = some (.int .i64 a0_3) ∧ w'.cell? ⟨gb187, 4, none⟩ = some (.int .i64 a0_4) ∧ w'.cell? ⟨gb187, 5, none⟩ = some (.int .i64 a0_5) ∧ w'.cell? ⟨gb187, 6, none⟩ = some (.int .i64 a0_6) ∧ w'.cell? ⟨gb187, 7, none⟩ = some (.int .i64 a0_7) ∧ w'.cell? ⟨gb187, 8, none⟩ = some (.int .i64 a0_8) ∧ w'.cell? ⟨gb187, 9, none⟩ = some (.int .i64 a0_9) ∧ w'.cell? ⟨gb187, 10, none⟩ = some (.int .i64 a0_10) ∧ w'.cell? ⟨gb187, 11, none⟩ = some (.int .i64 a0_11)) ∧ (Kd.R (Kd.int .u8) 5 w' w.heap.size (fun k_ => some k_ ≠ (s_.2.1 : Value).ownBlock ∧ some k_ ≠ (s_.2.2 : Value).ownBlock) s_.1 t205) ∧ (Kd.R (Kd.int .u8) 5 w' w.heap.size (fun k_ => some k_ ≠ (s_.1 : Value).ownBlock ∧ some k_ ≠ (s_.2.2 : Value).ownBlock) s_.2.1 y208) ∧ (Kd.R (Kd.int .u8) 5 w' w.heap.size (fun k_ => some k_ ≠ (s_.1 : Value).ownBlock ∧ some k_ ≠ (s_.2.1 : Value).ownBlock) s_.2.2 y211) ∧ (w'.heap[gb187]? = some (.cells #[.int .i64 a0_0, .int .i64 a0_1, .bool a0_2, .int .i64 a0_3, .int .i64 a0_4, .int .i64 a0_5, .int .i64 a0_6, .int .i64 a0_7, .int .i64 a0_8, .int .i64 a0_9, .int .i64 a0_10, .int .i64 a0_11] 34 (0, 0))) ∧ (Below w.heap.size w w')) ?_ ?_
     rotate_left
     ·intro hCont
      refine two_ (i := 4) (j := 14) (Ni := some 43) (Nj := some 53) #[true, true, true, true, true, false, true, true, true, true, true, true, true, true, false, false, false] #[true, true, true, true, false, false, true, true, true, true, true, true, true, true, true, false, false] rfl rfl rfl rfl (two_of HT_.out (by kernel_rfl)) (by decide) (by decide) (fun K hK => ?_) (fun K hK => ?_)
      ·skip
       refine goes_ Try.func70 (by kernel_rfl) rfl #[.int .i64 a0_8] (by rfl) rfl rfl (by (try simp only [YP, List.map_cons, List.map_nil]); first | done | rfl | (simp only [YR, YQ]; rfl)) ?_
       with_reducible refine (wire_Int.calls a0_8 t205 _ A36.out).mono ?_
       rintro e w58 ⟨v206, rfl, ho0, hb⟩
       refine ⟨_, rfl, ?_⟩
       have n0_ := YL (Kd.R_elder' (by (with_reducible repeat (first | apply YS | apply YT | apply YU)); exact HO_5.out) (Kd.R_base ho0) hb)
       have n1_ := YL (Kd.R_lower (Kd.R_new' ho0 (Kd.R_lt (by (with_reducible repeat (first | apply YS | apply YT | apply YU)); exact HO_5.out))) (YE (by repeat (first | (with_reducible first | exact HB.out | apply YA | apply YB | apply YC | refine below_set ?_ GE187.out) | exact HB.out))))
       have n2_ := YL (YK (g := gb187) (o := .cells #[.int .i64 a0_0, .int .i64 a0_1, .bool a0_2, .int .i64 a0_3, .int .i64 a0_4, .int .i64 a0_5, .int .i64 a0_6, .int .i64 a0_7, .int .i64 a0_8, .int .i64 a0_9, .int .i64 a0_10, .int .i64 a0_11] 34 (0, 0)) (by (with_reducible repeat (first | refine YF ?_ _ | refine YG ?_ | refine YH ?_ _)); exact BK187.out) hb)
       have n3_ := YL (YD (by repeat (first | (with_reducible first | exact HB.out | apply YA | apply YB | apply YC | refine below_set ?_ GE187.out) | exact HB.out)) hb)
       clear HO_5; clear BK187; clear HB; have HO_5 := n0_; have HO207 := n1_; have BK187 := n2_; have HB := n3_; clear n0_ n1_ n2_ n3_; (try clear hb); (try clear hb2); (try clear hk); (try clear hi); (try clear ho0)
       obtain ⟨Ao60, co60, eo60⟩ := Kd.R_slice HO207.out
       (first | subst eo60 | (injection eo60 with f1_ f2_ f3_; have f4_ := f1_.symm; have f5_ := f3_.symm; clear f1_ f2_ f3_; subst f4_; subst f5_))
       refine hK.out _ _ ⟨(YI BK187.out 0).trans rfl, (YI BK187.out 1).trans rfl, (YI BK187.out 2).trans rfl, (YI BK187.out 3).trans rfl, (YI BK187.out 4).trans rfl, (YI BK187.out 5).trans rfl, (YI BK187.out 6).trans rfl, (YI BK187.out 7).trans rfl, (YI BK187.out 8).trans rfl, (YI BK187.out 9).trans rfl, (YI BK187.out 10).trans rfl, (YI BK187.out 11).trans rfl⟩ (fun hHeld => ?_)
       clear hK K
       refine norm_ (a' := ?_) ?_ ?_
       rotate_left
       ·show Act.put _ (some 43) _ = _
        simp only [Act.put, YM, YN, YO, i64_w, i32_w]
        rfl
       refine two_ (i := 5) (j := 14) (Ni := some 44) (Nj := some 53) #[true, true, true, true, true, true, true, true, true, true, true, true, true, true, false, false, false] #[true, true, true, true, true, false, true, true, true, true, true, true, true, true, true, false, false] rfl rfl rfl rfl (two_of HT_.out (by kernel_rfl)) (by decide) (by decide) (fun K hK => ?_) (fun K hK => ?_)
       ·skip
        refine Kd.R_append_rows_step (Kd.int .u8) (w0 := w) w.heap.size (by rfl) (.tmp 39) (.tmp 43) 107 5 (.int .u8 0) 1 rfl Try.underlying107 info5 rfl (by decide) (by omega) (.slice Ao56 y189.length co56) y189 t205 _ _ _ (fun k_ => some k_ ≠ (.slice Ao60 t205.length co60 : Value).ownBlock) (fun _ => False) rfl rfl ?aO ?aR (fun _ _ h => h) (fun _ h => h.elim) ?aF ?aB ?aS ?aL ?_
        (case aR => repeat (first | exact (Kd.R_reads' HO207.out).2.2 | (with_reducible refine Kd.C_alloc ?_ _) | (with_reducible refine Kd.C_drewN ?_ _) | (with_reducible refine Kd.C_drew ?_)))
        (case aB => exact (by repeat (first | (with_reducible first | exact HB.out | apply YA | apply YB | apply YC | refine below_set ?_ GE187.out) | exact HB.out)))
        (case aF => exact (fun k_ hk => Kd.fresh' (Kd.R_lt (by (with_reducible repeat (first | apply YS | apply YT | apply YU)); exact HO207.out)) k_ hk))
        (case aO => exact (by (with_reducible repeat (first | apply YS | apply YT | apply YU)); exact Kd.R_mono HO_5.out (fun _ hk => by first | exact hk.2 | exact trivial | (simp [hk]; done) | simp_all)))
        (case aS => exact (YE (by repeat (first | (with_reducible first | exact HB.out | apply YA | apply YB | apply YC | refine below_set ?_ GE187.out) | exact HB.out))))
        (case aL => have := LMc37.out; omega)
        intro v209 w59 ho hb hg hat
        rw [← Ny208.out] at ho
        have n0_ := YL (blk_grown (g := gb187) (o := .cells #[.int .i64 a0_0, .int .i64 a0_1, .bool a0_2, .int .i64 a0_3, .int .i64 a0_4, .int .i64 a0_5, .int .i64 a0_6, .int .i64 a0_7, .int .i64 a0_8, .int .i64 a0_9, .int .i64 a0_10, .int .i64 a0_11] 34 (0, 0)) (by (with_reducible repeat (first | refine YF ?_ _ | refine YG ?_ | refine YH ?_ _)); exact BK187.out) hg (Kd.R_ne HO_5.out BK187.out (by decide)))
        have n1_ := YL (Kd.R_after (ok := (fun _ => True)) (by (with_reducible repeat (first | apply YS | apply YT | apply YU)); exact HO207.out) hg hat)
        have n2_ := YL (hb)
        have n3_ := YL (ho)
        clear BK187; clear HO207; clear HB; clear HO_5; have BK187 := n0_; have HO207 := n1_; have HB := n2_; have HO210 := n3_; clear n0_ n1_ n2_ n3_; clear ho hb hg hat
        refine hK.out _ _ ⟨(YI BK187.out 0).trans rfl, (YI BK187.out 1).trans rfl, (YI BK187.out 2).trans rfl, (YI BK187.out 3).trans rfl, (YI BK187.out 4).trans rfl, (YI BK187.out 5).trans rfl, (YI BK187.out 6).trans rfl, (YI BK187.out 7).trans rfl, (YI BK187.out 8).trans rfl, (YI BK187.out 9).trans rfl, (YI BK187.out 10).trans rfl, (YI BK187.out 11).trans rfl⟩ (fun hHeld => ?_)
        clear hK K
        refine norm_ (a' := ?_) ?_ ?_
        rotate_left
        ·show Act.put _ (some 44) _ = _
         simp only [Act.put, YM, YN, YO, i64_w, i32_w]
         rfl
        refine one_ (i := 14) (N := some 53) #[true, true, true, true, true, true, true, true, true, true, true, true, true, true, true, false, false] rfl rfl (one_of HT_.out (by kernel_rfl)) (by decide) (fun K hK => ?_)
        refine Kd.R_lit_step (Kd.int .u8) _ 5 ?hg (N := 53) ?hd (xs := ([(a0_9) % 256, (a0_10) % 256] : List Int)) (inner := [.int .u8 ((a0_9) % 256), .int .u8 ((a0_10) % 256)]) (ok := fun _ => True) (okp := fun _ => True) ?hr ?hp (fun _ hk => hk) trivial (Below.refl _ _) (Nat.le_refl _) (by simp) ?_; (case hd => rfl); (case hg => rfl); (case hr => first | (go_simp; done) | (go_simp; rfl)); (case hp => exact (Reps.one (show Kd.M (Kd.int .u8) _ _ _ ((a0_9) % 256) [.int .u8 ((a0_9) % 256)] from rfl) (Reps.one (show Kd.M (Kd.int .u8) _ _ _ ((a0_10) % 256) [.int .u8 ((a0_10) % 256)] from rfl) (Reps.none _ _))))
        intro v212 w61 ho62 hb hg_ hnew_
        clear hg_ hnew_
        (first | rw [← Ny211.out] at ho62 | (simp only [Int.reduceToNat] at ho62; rw [← Ny211.out] at ho62))
        have n0_ := YL (Kd.R_elder' (by (with_reducible repeat (first | apply YS | apply YT | apply YU)); exact HO207.out) (Kd.R_base ho62) hb)
        have n1_ := YL (Kd.R_elder' (by (with_reducible repeat (first | apply YS | apply YT | apply YU)); exact HO210.out) (Kd.R_base ho62) hb)
        have n2_ := YL (Kd.R_lower (Kd.R_new' (Kd.R_new' ho62 (Kd.R_lt (by (with_reducible repeat (first | apply YS | apply YT | apply YU)); exact HO207.out))) (Kd.R_lt (by (with_reducible repeat (first | apply YS | apply YT | apply YU)); exact HO210.out))) (YE (by repeat (first | (with_reducible first | exact HB.out | apply YA | apply YB | apply YC | refine below_set ?_ GE187.out) | exact HB.out))))
        have n3_ := YL (YK (g := gb187) (o := .cells #[.int .i64 a0_0, .int .i64 a0_1, .bool a0_2, .int .i64 a0_3, .int .i64 a0_4, .int .i64 a0_5, .int .i64 a0_6, .int .i64 a0_7, .int .i64 a0_8, .int .i64 a0_9, .int .i64 a0_10, .int .i64 a0_11] 34 (0, 0)) (by (with_reducible repeat (first | refine YF ?_ _ | refine YG ?_ | refine YH ?_ _)); exact BK187.out) hb)
        have n4_ := YL (YD (by repeat (first | (with_reducible first | exact HB.out | apply YA | apply YB | apply YC | refine below_set ?_ GE187.out) | exact HB.out)) hb)
        clear HO207; clear HO210; clear BK187; clear HB; have HO207 := n0_; have HO210 := n1_; have HO213 := n2_; have BK187 := n3_; have HB := n4_; clear n0_ n1_ n2_ n3_ n4_; clear hb ho62
        refine hK.out _ _ ⟨(YI BK187.out 0).trans rfl, (YI BK187.out 1).trans rfl, (YI BK187.out 2).trans rfl, (YI BK187.out 3).trans rfl, (YI BK187.out 4).trans rfl, (YI BK187.out 5).trans rfl, (YI BK187.out 6).trans rfl, (YI BK187.out 7).trans rfl, (YI BK187.out 8).trans rfl, (YI BK187.out 9).trans rfl, (YI BK187.out 10).trans rfl, (YI BK187.out 11).trans rfl⟩ (fun hHeld => ?_)
        clear hK K
        refine norm_ (a' := ?_) ?_ ?_
        rotate_left
        ·show Act.put _ (some 53) _ = _
         simp only [Act.put, YM, YN, YO, i64_w, i32_w]
         rfl
        exact norm_ (by simp only [putAll, Act.put, YM, YN, YO]) (hCont (.slice Ao60 t205.length co60, v209, v212) _ ⟨hHeld, (by (with_reducible repeat (first | apply YS | apply YT | apply YU)); exact Kd.R_mono HO207.out (fun _ hk => by first | exact ⟨hk.1.2, hk.2⟩ | exact trivial | (simp [hk]; done) | simp_all)), (by (with_reducible repeat (first | apply YS | apply YT | apply YU)); exact HO210.out), (by (with_reducible repeat (first | apply YS | apply YT | apply YU)); exact Kd.R_mono HO213.out (fun _ hk => by first | exact ⟨hk.1.2, hk.2⟩ | exact trivial | (simp [hk]; done) | simp_all)), (by (with_reducible repeat (first | refine YF ?_ _ | refine YG ?_ | refine YH ?_ _)); exact BK187.out), (by repeat (first | (with_reducible first | exact HB.out | apply YA | apply YB | apply YC | refine below_set ?_ GE187.out) | exact HB.out))⟩)
       skip
       refine Kd.R_lit_step (Kd.int .u8) _ 5 ?hg (N := 53) ?hd (xs := ([(a0_9) % 256, (a0_10) % 256] : List Int)) (inner := [.int .u8 ((a0_9) % 256), .int .u8 ((a0_10) % 256)]) (ok := fun _ => True) (okp := fun _ => True) ?hr ?hp (fun _ hk => hk) trivial (Below.refl _ _) (Nat.le_refl _) (by simp) ?_; (case hd => rfl); (case hg => rfl); (case hr => first | (go_simp; done) | (go_simp; rfl)); (case hp => exact (Reps.one (show Kd.M (Kd.int .u8) _ _ _ ((a0_9) % 256) [.int .u8 ((a0_9) % 256)] from rfl) (Reps.one (show Kd.M (Kd.int .u8) _ _ _ ((a0_10) % 256) [.int .u8 ((a0_10) % 256)] from rfl) (Reps.none _ _))))
       intro v212 w59 ho60 hb hg_ hnew_
       clear hg_ hnew_
       (first | rw [← Ny211.out] at ho60 | (simp only [Int.reduceToNat] at ho60; rw [← Ny211.out] at ho60))
       have n0_ := YL (Kd.R_elder' (by (with_reducible repeat (first | apply YS | apply YT | apply YU)); exact HO_5.out) (Kd.R_base ho60) hb)
       have n1_ := YL (Kd.R_elder' (by (with_reducible repeat (first | apply YS | apply YT | apply YU)); exact HO207.out) (Kd.R_base ho60) hb)
       have n2_ := YL (Kd.R_lower (Kd.R_new' (Kd.R_new' ho60 (Kd.R_lt (by (with_reducible repeat (first | apply YS | apply YT | apply YU)); exact HO_5.out))) (Kd.R_lt (by (with_reducible repeat (first | apply YS | apply YT | apply YU)); exact HO207.out))) (YE (by repeat (first | (with_reducible first | exact HB.out | apply YA | apply YB | apply YC | refine below_set ?_ GE187.out) | exact HB.out))))
       have n3_ := YL (YK (g := gb187) (o := .cells #[.int .i64 a0_0, .int .i64 a0_1, .bool a0_2, .int .i64 a0_3, .int .i64 a0_4, .int .i64 a0_5, .int .i64 a0_6, .int .i64 a0_7, .int .i64 a0_8, .int .i64 a0_9, .int .i64 a0_10, .int .i64 a0_11] 34 (0, 0)) (by (with_reducible repeat (first | refine YF ?_ _ | refine YG ?_ | refine YH ?_ _)); exact BK187.out) hb)
       have n4_ := YL (YD (by repeat (first | (with_reducible first | exact HB.out | apply YA | apply YB | apply YC | refine below_set ?_ GE187.out) | exact HB.out)) hb)
       clear HO_5; clear HO207; clear BK187; clear HB; have HO_5 := n0_; have HO207 := n1_; have HO213 := n2_; have BK187 := n3_; have HB := n4_; clear n0_ n1_ n2_ n3_ n4_; clear hb ho60
       obtain ⟨Ao62, co62, eo62⟩ := Kd.R_slice HO207.out
       (first | subst eo62 | (injection eo62 with f1_ f2_ f3_; have f4_ := f1_.symm; have f5_ := f3_.symm; clear f1_ f2_ f3_; subst f4_; subst f5_))
       refine hK.out _ _ ⟨(YI BK187.out 0).trans rfl, (YI BK187.out 1).trans rfl, (YI BK187.out 2).trans rfl, (YI BK187.out 3).trans rfl, (YI BK187.out 4).trans rfl, (YI BK187.out 5).trans rfl, (YI BK187.out 6).trans rfl, (YI BK187.out 7).trans rfl, (YI BK187.out 8).trans rfl, (YI BK187.out 9).trans rfl, (YI BK187.out 10).trans rfl, (YI BK187.out 11).trans rfl⟩ (fun hHeld => ?_)
       clear hK K
       refine norm_ (a' := ?_) ?_ ?_
       rotate_left
       ·show Act.put _ (some 53) _ = _
        simp only [Act.put, YM, YN, YO, i64_w, i32_w]
        rfl
       refine one_ (i := 5) (N := some 44) #[true, true, true, true, true, true, true, true, true, true, true, true, true, true, true, false, false] rfl rfl (one_of HT_.out (by kernel_rfl)) (by decide) (fun K hK => ?_)
       refine Kd.R_append_rows_step (Kd.int .u8) (w0 := w) w.heap.size (by rfl) (.tmp 39) (.tmp 43) 107 5 (.int .u8 0) 1 rfl Try.underlying107 info5 rfl (by decide) (by omega) (.slice Ao56 y189.length co56) y189 t205 _ _ _ (fun k_ => some k_ ≠ (.slice Ao62 t205.length co62 : Value).ownBlock ∧ some k_ ≠ (v212 : Value).ownBlock) (fun _ => False) rfl rfl ?aO ?aR (fun _ _ h => h) (fun _ h => h.elim) ?aF ?aB ?aS ?aL ?_
       (case aR => repeat (first | exact (Kd.R_reads' HO207.out).2.2 | (with_reducible refine Kd.C_alloc ?_ _) | (with_reducible refine Kd.C_drewN ?_ _) | (with_reducible refine Kd.C_drew ?_)))
       (case aB => exact (by repeat (first | (with_reducible first | exact HB.out | apply YA | apply YB | apply YC | refine below_set ?_ GE187.out) | exact HB.out)))
       (case aF => exact (fun k_ hk => ⟨Kd.fresh' (Kd.R_lt (by (with_reducible repeat (first | apply YS | apply YT | apply YU)); exact HO207.out)) k_ hk, Kd.fresh' (Kd.R_lt (by (with_reducible repeat (first | apply YS | apply YT | apply YU)); exact HO213.out)) k_ hk⟩))
       (case aO => exact (by (with_reducible repeat (first | apply YS | apply YT | apply YU)); exact Kd.R_mono HO_5.out (fun _ hk => by first | exact ⟨hk.1.2, hk.2⟩ | exact trivial | (simp [hk]; done) | simp_all)))
       (case aS => exact (YE (by repeat (first | (with_reducible first | exact HB.out | apply YA | apply YB | apply YC | refine below_set ?_ GE187.out) | exact HB.out))))
       (case aL => have := LMc37.out; omega)
       intro v209 w61 ho hb hg hat
       rw [← Ny208.out] at ho
       have n0_ := YL (blk_grown (g := gb187) (o := .cells #[.int .i64 a0_0, .int .i64 a0_1, .bool a0_2, .int .i64 a0_3, .int .i64 a0_4, .int .i64 a0_5, .int .i64 a0_6, .int .i64 a0_7, .int .i64 a0_8, .int .i64 a0_9, .int .i64 a0_10, .int .i64 a0_11] 34 (0, 0)) (by (with_reducible repeat (first | refine YF ?_ _ | refine YG ?_ | refine YH ?_ _)); exact BK187.out) hg (Kd.R_ne HO_5.out BK187.out (by decide)))
       have n1_ := YL (Kd.R_after (ok := (fun k_ => some k_ ≠ (v212 : Value).ownBlock)) (by (with_reducible repeat (first | apply YS | apply YT | apply YU)); exact Kd.R_mono HO207.out (fun _ hk => by first | exact ⟨hk.2, hk.1.2⟩ | exact trivial | (simp [hk]; done) | simp_all)) hg hat)
       have n2_ := YL (Kd.R_after (ok := (fun k_ => some k_ ≠ (.slice Ao62 t205.length co62 : Value).ownBlock)) (by (with_reducible repeat (first | apply YS | apply YT | apply YU)); exact Kd.R_mono HO213.out (fun _ hk => by first | exact ⟨hk.2, hk.1.2⟩ | exact trivial | (simp [hk]; done) | simp_all)) hg hat)
       have n3_ := YL (hb)
       have n4_ := YL (ho)
       clear BK187; clear HO207; clear HO213; clear HB; clear HO_5; have BK187 := n0_; have HO207 := n1_; have HO213 := n2_; have HB := n3_; have HO210 := n4_; clear n0_ n1_ n2_ n3_ n4_; clear ho hb hg hat
       refine hK.out _ _ ⟨(YI BK187.out 0).trans rfl, (YI BK187.out 1).trans rfl, (YI BK187.out 2).trans rfl, (YI BK187.out 3).trans rfl, (YI BK187.out 4).trans rfl, (YI BK187.out 5).trans rfl, (YI BK187.out 6).trans rfl, (YI BK187.out 7).trans rfl, (YI BK187.out 8).trans rfl, (YI BK187.out 9).trans rfl, (YI BK187.out 10).trans rfl, (YI BK187.out 11).trans rfl⟩ (fun hHeld => ?_)
       clear hK K
       refine norm_ (a' := ?_) ?_ ?_
       rotate_left
       ·show Act.put _ (some 44) _ = _
        simp only [Act.put, YM, YN, YO, i64_w, i32_w]
        rfl
       exact norm_ (by simp only [putAll, Act.put, YM, YN, YO]) (hCont (.slice Ao62 t205.length co62, v209, v212) _ ⟨hHeld, (by (with_reducible repeat (first | apply YS | apply YT | apply YU)); exact Kd.R_mono HO207.out (fun _ hk => by first | exact ⟨hk.2, hk.1⟩ | exact trivial | (simp [hk]; done) | simp_all)), (by (with_reducible repeat (first | apply YS | apply YT | apply YU)); exact HO210.out), (by (with_reducible repeat (first | apply YS | apply YT | apply YU)); exact HO213.out), (by (with_reducible repeat (first | refine YF ?_ _ | refine YG ?_ | refine YH ?_ _)); exact BK187.out), (by repeat (first | (with_reducible first | exact HB.out | apply YA | apply YB | apply YC | refine below_set ?_ GE187.out) | exact HB.out))⟩)
      skip
      refine Kd.R_lit_step (Kd.int .u8) _ 5 ?hg (N := 53) ?hd (xs := ([(a0_9) % 256, (a0_10) % 256] : List Int)) (inner := [.int .u8 ((a0_9) % 256), .int .u8 ((a0_10) % 256)]) (ok := fun _ => True) (okp := fun _ => True) ?hr ?hp (fun _ hk => hk) trivial (Below.refl _ _) (Nat.le_refl _) (by simp) ?_; (case hd => rfl); (case hg => rfl); (case hr => first | (go_simp; done) | (go_simp; rfl)); (case hp => exact (Reps.one (show Kd.M (Kd.int .u8) _ _ _ ((a0_9) % 256) [.int .u8 ((a0_9) % 256)] from rfl) (Reps.one (show Kd.M (Kd.int .u8) _ _ _ ((a0_10) % 256) [.int .u8 ((a0_10) % 256)] from rfl) (Reps.none _ _))))
      intro v212 w58 ho59 hb hg_ hnew_
      clear hg_ hnew_
      (first | rw [← Ny211.out] at ho59 | (simp only [Int.reduceToNat] at ho59; rw [← Ny211.out] at ho59))
      have n0_ := YL (Kd.R_elder' (by (with_reducible repeat (first | apply YS | apply YT | apply YU)); exact HO_5.out) (Kd.R_base ho59) hb)
      have n1_ := YL (Kd.R_lower (Kd.R_new' ho59 (Kd.R_lt (by (with_reducible repeat (first | apply YS | apply YT | apply YU)); exact HO_5.out))) (YE (by repeat (first | (with_reducible first | exact HB.out | apply YA | apply YB | apply YC | refine below_set ?_ GE187.out) | exact HB.out))))
      have n2_ := YL (YK (g := gb187) (o := .cells #[.int .i64 a0_0, .int .i64 a0_1, .bool a0_2, .int .i64 a0_3, .int .i64 a0_4, .int .i64 a0_5, .int .i64 a0_6, .int .i64 a0_7, .int .i64 a0_8, .int .i64 a0_9, .int .i64 a0_10, .int .i64 a0_11] 34 (0, 0)) (by (with_reducible repeat (first | refine YF ?_ _ | refine YG ?_ | refine YH ?_ _)); exact BK187.out) hb)
      have n3_ := YL (YD (by repeat (first | (with_reducible first | exact HB.out | apply YA | apply YB | apply YC | refine below_set ?_ GE187.out) | exact HB.out)) hb)
      clear HO_5; clear BK187; clear HB; have HO_5 := n0_; have HO213 := n1_; have BK187 := n2_; have HB := n3_; clear n0_ n1_ n2_ n3_; clear hb ho59
      refine hK.out _ _ ⟨(YI BK187.out 0).trans rfl, (YI BK187.out 1).trans rfl, (YI BK187.out 2).trans rfl, (YI BK187.out 3).trans rfl, (YI BK187.out 4).trans rfl, (YI BK187.out 5).trans rfl, (YI BK187.out 6).trans rfl, (YI BK187.out 7).trans rfl, (YI BK187.out 8).trans rfl, (YI BK187.out 9).trans rfl, (YI BK187.out 10).trans rfl, (YI BK187.out 11).trans rfl⟩ (fun hHeld => ?_)
      clear hK K
      refine norm_ (a' := ?_) ?_ ?_
      rotate_left
      ·show Act.put _ (some 53) _ = _
       simp only [Act.put, YM, YN, YO, i64_w, i32_w]
       rfl
      refine one_ (i := 4) (N := some 43) #[true, true, true, true, true, false, true, true, true, true, true, true, true, true, true, false, false] rfl rfl (one_of HT_.out (by kernel_rfl)) (by decide) (fun K hK => ?_)
      refine goes_ Try.func70 (by kernel_rfl) rfl #[.int .i64 a0_8] (by rfl) rfl rfl (by (try simp only [YP, List.map_cons, List.map_nil]); first | done | rfl | (simp only [YR, YQ]; rfl)) ?_
      with_reducible refine (wire_Int.calls a0_8 t205 _ A36.out).mono ?_
      rintro e w60 ⟨v206, rfl, ho0, hb⟩
      refine ⟨_, rfl, ?_⟩
      have n0_ := YL (Kd.R_elder' (by (with_reducible repeat (first | apply YS | apply YT | apply YU)); exact HO_5.out) (Kd.R_base ho0) hb)
      have n1_ := YL (Kd.R_elder' (by (with_reducible repeat (first | apply YS | apply YT | apply YU)); exact HO213.out) (Kd.R_base ho0) hb)
      have n2_ := YL (Kd.R_lower (Kd.R_new' (Kd.R_new' ho0 (Kd.R_lt (by (with_reducible repeat (first | apply YS | apply YT | apply YU)); exact HO_5.out))) (Kd.R_lt (by (with_reducible repeat (first | apply YS | apply YT | apply YU)); exact HO213.out))) (YE (by repeat (first | (with_reducible first | exact HB.out | apply YA | apply YB | apply YC | refine below_set ?_ GE187.out) | exact HB.out))))
      have n3_ := YL (YK (g := gb187) (o := .cells #[.int .i64 a0_0, .int .i64 a0_1, .bool a0_2, .int .i64 a0_3, .int .i64 a0_4, .int .i64 a0_5, .int .i64 a0_6, .int .i64 a0_7, .int .i64 a0_8, .int .i64 a0_9, .int .i64 a0_10, .int .i64 a0_11] 34 (0, 0)) (by (with_reducible repeat (first | refine YF ?_ _ | refine YG ?_ | refine YH ?_ _)); exact BK187.out) hb)
      have n4_ := YL (YD (by repeat (first | (with_reducible first | exact HB.out | apply YA | apply YB | apply YC | refine below_set ?_ GE187.out) | exact HB.out)) hb)
      clear HO_5; clear HO213; clear BK187; clear HB; have HO_5 := n0_; have HO213 := n1_; have HO207 := n2_; have BK187 := n3_; have HB := n4_; clear n0_ n1_ n2_ n3_ n4_; (try clear hb); (try clear hb2); (try clear hk); (try clear hi); (try clear ho0)
      obtain ⟨Ao62, co62, eo62⟩ := Kd.R_slice HO207.out
      (first | subst eo62 | (injection eo62 with f1_ f2_ f3_; have f4_ := f1_.symm; have f5_ := f3_.symm; clear f1_ f2_ f3_; subst f4_; subst f5_))
      refine hK.out _ _ ⟨(YI BK187.out 0).trans rfl, (YI BK187.out 1).trans rfl, (YI BK187.out 2).trans rfl, (YI BK187.out 3).trans rfl, (YI BK187.out 4).trans rfl, (YI BK187.out 5).trans rfl, (YI BK187.out 6).trans rfl, (YI BK187.out 7).trans rfl, (YI BK187.out 8).trans rfl, (YI BK187.out 9).trans rfl, (YI BK187.out 10).trans rfl, (YI BK187.out 11).trans rfl⟩ (fun hHeld => ?_)
      clear hK K
      refine norm_ (a' := ?_) ?_ ?_
      rotate_left
      ·show Act.put _ (some 43) _ = _
       simp only [Act.put, YM, YN, YO, i64_w, i32_w]
       rfl
      refine one_ (i := 5) (N := some 44) #[true, true, true, true, true, true, true, true, true, true, true, true, true, true, true, false, false] rfl rfl (one_of HT_.out (by kernel_rfl)) (by decide) (fun K hK => ?_)
      refine Kd.R_append_rows_step (Kd.int .u8) (w0 := w) w.heap.size (by rfl) (.tmp 39) (.tmp 43) 107 5 (.int .u8 0) 1 rfl Try.underlying107 info5 rfl (by decide) (by omega) (.slice Ao56 y189.length co56) y189 t205 _ _ _ (fun k_ => some k_ ≠ (v212 : Value).ownBlock ∧ some k_ ≠ (.slice Ao62 t205.length co62 : Value).ownBlock) (fun _ => False) rfl rfl ?aO ?aR (fun _ _ h => h) (fun _ h => h.elim) ?aF ?aB ?aS ?aL ?_
      (case aR => repeat (first | exact (Kd.R_reads' HO207.out).2.2 | (with_reducible refine Kd.C_alloc ?_ _) | (with_reducible refine Kd.C_drewN ?_ _) | (with_reducible refine Kd.C_drew ?_)))
      (case aB => exact (by repeat (first | (with_reducible first | exact HB.out | apply YA | apply YB | apply YC | refine below_set ?_ GE187.out) | exact HB.out)))
      (case aF => exact (fun k_ hk => ⟨Kd.fresh' (Kd.R_lt (by (with_reducible repeat (first | apply YS | apply YT | apply YU)); exact HO213.out)) k_ hk, Kd.fresh' (Kd.R_lt (by (with_reducible repeat (first | apply YS | apply YT | apply YU)); exact HO207.out)) k_ hk⟩))
      (case aO => exact (by (with_reducible repeat (first | apply YS | apply YT | apply YU)); exact Kd.R_mono HO_5.out (fun _ hk => by first | exact ⟨hk.1.2, hk.2⟩ | exact trivial | (simp [hk]; done) | simp_all)))
      (case aS => exact (YE (by repeat (first | (with_reducible first | exact HB.out | apply YA | apply YB | apply YC | refine below_set ?_ GE187.out) | exact HB.out))))
      (case aL => have := LMc37.out; omega)
      intro v209 w61 ho hb hg hat
      rw [← Ny208.out] at ho
      have n0_ := YL (blk_grown (g := gb187) (o := .cells #[.int .i64 a0_0, .int .i64 a0_1, .bool a0_2, .int .i64 a0_3, .int .i64 a0_4, .int .i64 a0_5, .int .i64 a0_6, .int .i64 a0_7, .int .i64 a0_8, .int .i64 a0_9, .int .i64 a0_10, .int .i64 a0_11] 34 (0, 0)) (by (with_reducible repeat (first | refine YF ?_ _ | refine YG ?_ | refine YH ?_ _)); exact BK187.out) hg (Kd.R_ne HO_5.out BK187.out (by decide)))
      have n1_ := YL (Kd.R_after (ok := (fun k_ => some k_ ≠ (.slice Ao62 t205.length co62 : Value).ownBlock)) (by (with_reducible repeat (first | apply YS | apply YT | apply YU)); exact Kd.R_mono HO213.out (fun _ hk => by first | exact ⟨hk.2, hk.1.2⟩ | exact trivial | (simp [hk]; done) | simp_all)) hg hat)
      have n2_ := YL (Kd.R_after (ok := (fun k_ => some k_ ≠ (v212 : Value).ownBlock)) (by (with_reducible repeat (first | apply YS | apply YT | apply YU)); exact Kd.R_mono HO207.out (fun _ hk => by first | exact ⟨hk.2, hk.1.2⟩ | exact trivial | (simp [hk]; done) | simp_all)) hg hat)
      have n3_ := YL (hb)
      have n4_ := YL (ho)
      clear BK187; clear HO213; clear HO207; clear HB; clear HO_5; have BK187 := n0_; have HO213 := n1_; have HO207 := n2_; have HB := n3_; have HO210 := n4_; clear n0_ n1_ n2_ n3_ n4_; clear ho hb hg hat
      refine hK.out _ _ ⟨(YI BK187.out 0).trans rfl, (YI BK187.out 1).trans rfl, (YI BK187.out 2).trans rfl, (YI BK187.out 3).trans rfl, (YI BK187.out 4).trans rfl, (YI BK187.out 5).trans rfl, (YI BK187.out 6).trans rfl, (YI BK187.out 7).trans rfl, (YI BK187.out 8).trans rfl, (YI BK187.out 9).trans rfl, (YI BK187.out 10).trans rfl, (YI BK187.out 11).trans rfl⟩ (fun hHeld => ?_)
      clear hK K
      refine norm_ (a' := ?_) ?_ ?_
      rotate_left
      ·show Act.put _ (some 44) _ = _
       simp only [Act.put, YM, YN, YO, i64_w, i32_w]
       rfl
      exact norm_ (by simp only [putAll, Act.put, YM, YN, YO]) (hCont (.slice Ao62 t205.length co62, v209, v212) _ ⟨hHeld, (by (with_reducible repeat (first | apply YS | apply YT | apply YU)); exact Kd.R_mono HO207.out (fun _ hk => by first | exact ⟨hk.2, hk.1⟩ | exact trivial | (simp [hk]; done) | simp_all)), (by (with_reducible repeat (first | apply YS | apply YT | apply YU)); exact Kd.R_mono HO210.out (fun _ hk => by first | exact ⟨hk.2, hk.1⟩ | exact trivial | (simp [hk]; done) | simp_all)), (by (with_reducible repeat (first | apply YS | apply YT | apply YU)); exact HO213.out), (by (with_reducible repeat (first | refine YF ?_ _ | refine YG ?_ | refine YH ?_ _)); exact BK187.out), (by repeat (first | (with_reducible first | exact HB.out | apply YA | apply YB | apply YC | refine below_set ?_ GE187.out) | exact HB.out))⟩)
     rintro ⟨v206, v209, v212⟩ w63 ⟨hS_, h0_, h1_, h2_, h3_, h4_⟩
     have n0_ : Aside0 (Kd.R (Kd.int .u8) 5 w63 w.heap.size (fun k_ => some k_ ≠ (v209 : Value).ownBlock ∧ some k_ ≠ (v212 : Value).ownBlock) v206 t205) := ⟨h0_⟩
     have n1_ : Aside0 (Kd.R (Kd.int .u8) 5 w63 w.heap.size (fun k_ => some k_ ≠ (v206 : Value).ownBlock ∧ some k_ ≠ (v212 : Value).ownBlock) v209 y208) := ⟨h1_⟩
     have n2_ : Aside0 (Kd.R (Kd.int .u8) 5 w63 w.heap.size (fun k_ => some k_ ≠ (v206 : Value).ownBlock ∧ some k_ ≠ (v209 : Value).ownBlock) v212 y211) := ⟨h2_⟩
     have n3_ : Aside0 (w63.heap[gb187]? = some (.cells #[.int .i64 a0_0, .int .i64 a0_1, .bool a0_2, .int .i64 a0_3, .int .i64 a0_4, .int .i64 a0_5, .int .i64 a0_6, .int .i64 a0_7, .int .i64 a0_8, .int .i64 a0_9, .int .i64 a0_10, .int .i64 a0_11] 34 (0, 0))) := ⟨h3_⟩
     have n4_ : Aside0 (Below w.heap.size w w63) := ⟨h4_⟩
     clear HO_5; clear BK187; clear HB; clear h0_ h1_ h2_ h3_ h4_; have HO207 := n0_; have HO210 := n1_; have HO213 := n2_; have BK187 := n3_; have HB := n4_; clear n0_ n1_ n2_ n3_ n4_
     have hHeld : w63.cell? ⟨gb187, 0, none⟩ = some (.int .i64 a0_0) ∧ w63.cell? ⟨gb187, 1, none⟩ = some (.int .i64 a0_1) ∧ w63.cell? ⟨gb187, 2, none⟩ = some (.bool a0_2) ∧ w63.cell? ⟨gb187, 3, none⟩ = some (.int .i64 a0_3) ∧ w63.cell? ⟨gb187, 4, none⟩ = some (.int .i64 a0_4) ∧ w63.cell? ⟨gb187, 5, none⟩ = some (.int .i64 a0_5) ∧ w63.cell? ⟨gb187, 6, none⟩ = some (.int .i64 a0_6) ∧ w63.cell? ⟨gb187, 7, none⟩ = some (.int .i64 a0_7) ∧ w63.cell? ⟨gb187, 8, none⟩ = some (.int .i64 a0_8) ∧ w63.cell? ⟨gb187, 9, none⟩ = some (.int .i64 a0_9) ∧ w63.cell? ⟨gb187, 10, none⟩ = some (.int .i64 a0_10) ∧ w63.cell? ⟨gb187, 11, none⟩ = some (.int .i64 a0_11) := hS_
     obtain ⟨Ao65, co65, eo65⟩ := Kd.R_slice HO213.out
     (first | subst eo65 | (injection eo65 with f1_ f2_ f3_; have f4_ := f1_.symm; have f5_ := f3_.symm; clear f1_ f2_ f3_; subst f4_; subst f5_))
     refine norm_ (a' := ?_) ?_ ?_
     rotate_left
     ·simp only [putAll, Act.put, YM, YN, YO]
      rfl
     refine one_ (i := 15) (N := some 54) #[true, true, true, true, true, true, true, true, true, true, true, true, true, true, true, true, false] rfl rfl (one_of HT_.out (by kernel_rfl)) (by decide) (fun K hK => ?_)
     refine Kd.R_append_rows_step (Kd.int .u8) (w0 := w) w.heap.size (by rfl) (.tmp 44) (.tmp 53) 107 5 (.int .u8 0) 1 rfl Try.underlying107 info5 rfl (by decide) (by omega) v209 y208 y211 _ _ _ (fun k_ => some k_ ≠ (v206 : Value).ownBlock ∧ some k_ ≠ (.slice Ao65 y211.length co65 : Value).ownBlock) (fun _ => False) rfl rfl ?aO ?aR (fun _ _ h => h) (fun _ h => h.elim) ?aF ?aB ?aS ?aL ?_
     (case aR => repeat (first | exact (Kd.R_reads' HO213.out).2.2 | (with_reducible refine Kd.C_alloc ?_ _) | (with_reducible refine Kd.C_drewN ?_ _) | (with_reducible refine Kd.C_drew ?_)))
     (case aB => exact (by repeat (first | (with_reducible first | exact HB.out | apply YA | apply YB | apply YC | refine below_set ?_ GE187.out) | exact HB.out)))
     (case aF => exact (fun k_ hk => ⟨Kd.fresh' (Kd.R_lt (by (with_reducible repeat (first | apply YS | apply YT | apply YU)); exact HO207.out)) k_ hk, Kd.fresh' (Kd.R_lt (by (with_reducible repeat (first | apply YS | apply YT | apply YU)); exact HO213.out)) k_ hk⟩))
     (case aO => exact (by (with_reducible repeat (first | apply YS | apply YT | apply YU)); exact HO210.out))
     (case aS => exact (YE (by repeat (first | (with_reducible first | exact HB.out | apply YA | apply YB | apply YC | refine below_set ?_ GE187.out) | exact HB.out))))
     (case aL => have := LMc38.out; omega)
     intro v215 w64 ho hb hg hat
     rw [← Ny214.out] at ho
     have n0_ := YL (blk_grown (g := gb187) (o := .cells #[.int .i64 a0_0, .int .i64 a0_1, .bool a0_2, .int .i64 a0_3, .int .i64 a0_4, .int .i64 a0_5, .int .i64 a0_6, .int .i64 a0_7, .int .i64 a0_8, .int .i64 a0_9, .int .i64 a0_10, .int .i64 a0_11] 34 (0, 0)) (by (with_reducible repeat (first | refine YF ?_ _ | refine YG ?_ | refine YH ?_ _)); exact BK187.out) hg (Kd.R_ne HO210.out BK187.out (by decide)))
     have n1_ := YL (Kd.R_after (ok := (fun k_ => some k_ ≠ (.slice Ao65 y211.length co65 : Value).ownBlock)) (by (with_reducible repeat (first | apply YS | apply YT | apply YU)); exact Kd.R_mono HO207.out (fun _ hk => by first | exact ⟨hk.2, hk.1⟩ | exact trivial | (simp [hk]; done) | simp_all)) hg hat)
     have n2_ := YL (Kd.R_after (ok := (fun k_ => some k_ ≠ (v206 : Value).ownBlock)) (by (with_reducible repeat (first | apply YS | apply YT | apply YU)); exact HO213.out) hg hat)
     have n3_ := YL (hb)
     have n4_ := YL (ho)
     clear BK187; clear HO207; clear HO213; clear HB; clear HO210; have BK187 := n0_; have HO207 := n1_; have HO213 := n2_; have HB := n3_; have HO216 := n4_; clear n0_ n1_ n2_ n3_ n4_; clear ho hb hg hat
     refine hK.out _ _ ⟨(YI BK187.out 0).trans rfl, (YI BK187.out 1).trans rfl, (YI BK187.out 2).trans rfl, (YI BK187.out 3).trans rfl, (YI BK187.out 4).trans rfl, (YI BK187.out 5).trans rfl, (YI BK187.out 6).trans rfl, (YI BK187.out 7).trans rfl, (YI BK187.out 8).trans rfl, (YI BK187.out 9).trans rfl, (YI BK187.out 10).trans rfl, (YI BK187.out 11).trans rfl⟩ (fun hHeld => ?_)
     clear hK K
     refine norm_ (a' := ?_) ?_ ?_
     rotate_left
     ·show Act.put _ (some 54) _ = _
      simp only [Act.put, YM, YN, YO, i64_w, i32_w]
      rfl
     refine pure_ (i := 16) (N := some 5) (v := ?_) (a' := ?_) #[true, true, true, true, true, true, true, true, true, true, true, true, true, true, true, true, true] rfl rfl (any_of HT_.out (by kernel_rfl)) (fun _ _ _ h => h) (Or.inl ⟨by rfl, ?_⟩) ?_ ?_
     rotate_left
     ·intro w'
      go_simp; with_reducible rfl
     rotate_left
     ·simp only [Act.put, YM, YN, YO, i64_w, i32_w]
      rfl
     refine done_ (done_of HT_.out (by kernel_rfl)) ?_
     have q66_0 : w64.cell? ⟨gb187, 0, none⟩ = some (.int .i64 a0_0) := (YI BK187.out 0).trans rfl
     have q66_1 : w64.cell? ⟨gb187, 1, none⟩ = some (.int .i64 a0_1) := (YI BK187.out 1).trans rfl
     have q66_2 : w64.cell? ⟨gb187, 2, none⟩ = some (.bool a0_2) := (YI BK187.out 2).trans rfl
     have q66_3 : w64.cell? ⟨gb187, 3, none⟩ = some (.int .i64 a0_3) := (YI BK187.out 3).trans rfl
     have q66_4 : w64.cell? ⟨gb187, 4, none⟩ = some (.int .i64 a0_4) := (YI BK187.out 4).trans rfl
     have q66_5 : w64.cell? ⟨gb187, 5, none⟩ = some (.int .i64 a0_5) := (YI BK187.out 5).trans rfl
     have q66_6 : w64.cell? ⟨gb187, 6, none⟩ = some (.int .i64 a0_6) := (YI BK187.out 6).trans rfl
     have q66_7 : w64.cell? ⟨gb187, 7, none⟩ = some (.int .i64 a0_7) := (YI BK187.out 7).trans rfl
     have q66_8 : w64.cell? ⟨gb187, 8, none⟩ = some (.int .i64 a0_8) := (YI BK187.out 8).trans rfl
     have q66_9 : w64.cell? ⟨gb187, 9, none⟩ = some (.int .i64 a0_9) := (YI BK187.out 9).trans rfl
     have q66_10 : w64.cell? ⟨gb187, 10, none⟩ = some (.int .i64 a0_10) := (YI BK187.out 10).trans rfl
     have q66_11 : w64.cell? ⟨gb187, 11, none⟩ = some (.int .i64 a0_11) := (YI BK187.out 11).trans rfl
     have f66_0 := YJ BK187.out 0
     have f66_1 := YJ BK187.out 1
     have f66_2 := YJ BK187.out 2
     have f66_3 := YJ BK187.out 3
     have f66_4 := YJ BK187.out 4
     have f66_5 := YJ BK187.out 5
     have f66_6 := YJ BK187.out 6
     have f66_7 := YJ BK187.out 7
     have f66_8 := YJ BK187.out 8
     have f66_9 := YJ BK187.out 9
     have f66_10 := YJ BK187.out 10
     have f66_11 := YJ BK187.out 11
     try go_wp2
     go_ret2
     exact ⟨_, by first | rfl | (simp [errW_none, errW_some] <;> rfl) | (simp [*, errW_none, errW_some] <;> rfl), by (with_reducible repeat (first | apply YS | apply YT | apply YU)); exact Kd.R_mono HO216.out (fun _ hk => trivial), by repeat (first | (with_reducible first | exact HB.out | apply YA | apply YB | apply YC | refine below_set ?_ GE187.out) | exact HB.out)⟩
    rw [if_neg c35] at H
    have c35b0 : (a0_0 == 3) = false := beq_eq_false_iff_ne.mpr c35
    have c35b1 : (a0_0 != 3) = true := bne_iff_ne.mpr c35
    by_cases c67 : a0_0 = 4
    ·rw [if_pos c67] at H
     have c67b0 : (a0_0 == 4) = true := beq_iff_eq.mpr c67
     have c67b1 : (a0_0 != 4) = false := bne_eq_false_iff_eq.mpr c67
     clear c67
     obtain ⟨y223, hy223⟩ : ∃ y_ : List Int, y_ = (([(a0_11 / 256) % 256, (a0_11) % 256] : List Int)) := ⟨_, rfl⟩
     replace H : (if y189.length + y223.length < 140737488355328 then (some ((y189 ++ y223), 0)) else (none)) = some (r1, r2) := by first | (rw [hy223]; with_reducible exact H) | (have H2_ := (Option.bind_some _ _).symm.trans H; rw [hy223]; with_reducible exact H2_) | (have H2_ := (Option.bind_some _ _).symm.trans H; with_reducible exact H2_) | with_reducible exact H | (rw [hy223]; exact H) | exact H
     have Ny223 := YL hy223; clear hy223
     by_cases c68 : y189.length + y223.length < 140737488355328
     rotate_left
     ·rw [if_neg c68] at H
      exact absurd H (by simp)
     rw [if_pos c68] at H; have LMc68 := YL c68; clear c68
     obtain ⟨y226, hy226⟩ : ∃ y_ : List Int, y_ = (y189 ++ y223) := ⟨_, rfl⟩
     replace H : (some (y226, 0)) = some (r1, r2) := by first | (rw [hy226]; with_reducible exact H) | (have H2_ := (Option.bind_some _ _).symm.trans H; rw [hy226]; with_reducible exact H2_) | (have H2_ := (Option.bind_some _ _).symm.trans H; with_reducible exact H2_) | with_reducible exact H | (rw [hy226]; exact H) | exact H
     have Ny226 := YL hy226; clear hy226
     simp only [Option.some.injEq, Prod.mk.injEq] at H
     obtain ⟨rfl, rfl⟩ := H
     have q69_0 : wc.cell? ⟨gb187, 0, none⟩ = some (.int .i64 a0_0) := (YI BK187.out 0).trans rfl
     have q69_1 : wc.cell? ⟨gb187, 1, none⟩ = some (.int .i64 a0_1) := (YI BK187.out 1).trans rfl
     have q69_2 : wc.cell? ⟨gb187, 2, none⟩ = some (.bool a0_2) := (YI BK187.out 2).trans rfl
     have q69_3 : wc.cell? ⟨gb187, 3, none⟩ = some (.int .i64 a0_3) := (YI BK187.out 3).trans rfl
     have q69_4 : wc.cell? ⟨gb187, 4, none⟩ = some (.int .i64 a0_4) := (YI BK187.out 4).trans rfl
     have q69_5 : wc.cell? ⟨gb187, 5, none⟩ = some (.int .i64 a0_5) := (YI BK187.out 5).trans rfl
     have q69_6 : wc.cell? ⟨gb187, 6, none⟩ = some (.int .i64 a0_6) := (YI BK187.out 6).trans rfl
     have q69_7 : wc.cell? ⟨gb187, 7, none⟩ = some (.int .i64 a0_7) := (YI BK187.out 7).trans rfl
     have q69_8 : wc.cell? ⟨gb187, 8, none⟩ = some (.int .i64 a0_8) := (YI BK187.out 8).trans rfl
     have q69_9 : wc.cell? ⟨gb187, 9, none⟩ = some (.int .i64 a0_9) := (YI BK187.out 9).trans rfl
     have q69_10 : wc.cell? ⟨gb187, 10, none⟩ = some (.int .i64 a0_10) := (YI BK187.out 10).trans rfl
     have q69_11 : wc.cell? ⟨gb187, 11, none⟩ = some (.int .i64 a0_11) := (YI BK187.out 11).trans rfl
     have f69_0 := YJ BK187.out 0
     have f69_1 := YJ BK187.out 1
     have f69_2 := YJ BK187.out 2
     have f69_3 := YJ BK187.out 3
     have f69_4 := YJ BK187.out 4
     have f69_5 := YJ BK187.out 5
     have f69_6 := YJ BK187.out 6
     have f69_7 := YJ BK187.out 7
     have f69_8 := YJ BK187.out 8
     have f69_9 := YJ BK187.out 9
     have f69_10 := YJ BK187.out 10
     have f69_11 := YJ BK187.out 11
     go_wp2_with (first | ((with_reducible refine gate_dst (N := 66) rfl ?_); refine Kd.R_lit (Kd.int .u8) _ 5 ?hg (N := 66) ?hd (xs := ([(a0_11 / 256) % 256, (a0_11) % 256] : List Int)) (inner := [.int .u8 ((a0_11 / 256) % 256), .int .u8 ((a0_11) % 256)]) (ok := fun _ => True) (okp := fun _ => True) ?hr ?hp (fun _ hk => hk) trivial (Below.refl _ _) (Nat.le_refl _) (by simp) ?_; (case hd => rfl); (case hg => rfl); (case hr => first | (go_simp; done) | (go_simp; rfl)); (case hp => exact (Reps.one (show Kd.M (Kd.int .u8) _ _ _ ((a0_11 / 256) % 256) [.int .u8 ((a0_11 / 256) % 256)] from rfl) (Reps.one (show Kd.M (Kd.int .u8) _ _ _ ((a0_11) % 256) [.int .u8 ((a0_11) % 256)] from rfl) (Reps.none _ _)))); intro v224 w70 ho71 hb hg_ hnew_; clear hg_ hnew_; (first | rw [← Ny223.out] at ho71 | (simp only [Int.reduceToNat] at ho71; rw [← Ny223.out] at ho71)); have n0_ := YL (Kd.R_elder' (by (with_reducible repeat (first | apply YS | apply YT | apply YU)); exact HO_5.out) (Kd.R_base ho71) hb); have n1_ := YL (Kd.R_lower (Kd.R_new' ho71 (Kd.R_lt (by (with_reducible repeat (first | apply YS | apply YT | apply YU)); exact HO_5.out))) (YE (by repeat (first | (with_reducible first | exact HB.out | apply YA | apply YB | apply YC | refine below_set ?_ GE187.out) | exact HB.out)))); have n2_ := YL (YK (g := gb187) (o := .cells #[.int .i64 a0_0, .int .i64 a0_1, .bool a0_2, .int .i64 a0_3, .int .i64 a0_4, .int .i64 a0_5, .int .i64 a0_6, .int .i64 a0_7, .int .i64 a0_8, .int .i64 a0_9, .int .i64 a0_10, .int .i64 a0_11] 34 (0, 0)) (by (with_reducible repeat (first | refine YF ?_ _ | refine YG ?_ | refine YH ?_ _)); exact BK187.out) hb); have n3_ := YL (YD (by repeat (first | (with_reducible first | exact HB.out | apply YA | apply YB | apply YC | refine below_set ?_ GE187.out) | exact HB.out)) hb); clear HO_5; clear BK187; clear HB; have HO_5 := n0_; have HO225 := n1_; have BK187 := n2_; have HB := n3_; clear n0_ n1_ n2_ n3_; clear hb ho71; obtain ⟨Ao73, co73, eo73⟩ := Kd.R_slice HO225.out; subst eo73) | ((with_reducible refine gate_builtin (b := .append) (xs := #[.tmp 58, .tmp 66]) rfl ?_); at_builtin; refine Kd.R_append_rows (Kd.int .u8) (w0 := w) w.heap.size rfl (.tmp 58) (.tmp 66) 107 5 (.int .u8 0) 1 rfl Try.underlying107 info5 rfl (by decide) (by omega) v190 y189 y223 _ _ _ (fun k_ => some k_ ≠ (.slice Ao73 y223.length co73 : Value).ownBlock) (fun _ => False) rfl rfl ?aO ?aR (fun _ _ h => h) (fun _ h => h.elim) ?aF ?aB ?aS ?aL ?_; (case aR => repeat (first | exact (Kd.R_reads' HO225.out).2.2 | (with_reducible refine Kd.C_alloc ?_ _) | (with_reducible refine Kd.C_drewN ?_ _) | (with_reducible refine Kd.C_drew ?_))); (case aB => exact (by repeat (first | (with_reducible first | exact HB.out | apply YA | apply YB | apply YC | refine below_set ?_ GE187.out) | exact HB.out))); (case aF => exact (fun k_ hk => Kd.fresh' (Kd.R_lt (by (with_reducible repeat (first | apply YS | apply YT | apply YU)); exact HO225.out)) k_ hk)); (case aO => exact (by (with_reducible repeat (first | apply YS | apply YT | apply YU)); exact Kd.R_mono HO_5.out (fun _ hk => by first | exact hk.2 | exact trivial | (simp [hk]; done) | simp_all))); (case aS => exact (YE (by repeat (first | (with_reducible first | exact HB.out | apply YA | apply YB | apply YC | refine below_set ?_ GE187.out) | exact HB.out)))); (case aL => have := LMc68.out; omega); intro v227 w72 ho hb hg hat; rw [← Ny226.out] at ho; have n0_ := YL (blk_grown (g := gb187) (o := .cells #[.int .i64 a0_0, .int .i64 a0_1, .bool a0_2, .int .i64 a0_3, .int .i64 a0_4, .int .i64 a0_5, .int .i64 a0_6, .int .i64 a0_7, .int .i64 a0_8, .int .i64 a0_9, .int .i64 a0_10, .int .i64 a0_11] 34 (0, 0)) (by (with_reducible repeat (first | refine YF ?_ _ | refine YG ?_ | refine YH ?_ _)); exact BK187.out) hg (Kd.R_ne HO_5.out BK187.out (by decide))); have n1_ := YL (Kd.R_after (ok := (fun _ => True)) (by (with_reducible repeat (first | apply YS | apply YT | apply YU)); exact HO225.out) hg hat); have n2_ := YL (hb); have n3_ := YL (ho); clear BK187; clear HO225; clear HB; clear HO_5; have BK187 := n0_; have HO225 := n1_; have HB := n2_; have HO228 := n3_; clear n0_ n1_ n2_ n3_; clear ho hb hg hat))
     go_ret2
     exact ⟨_, by first | rfl | (simp [errW_none, errW_some] <;> rfl) | (simp [*, errW_none, errW_some] <;> rfl), by (with_reducible repeat (first | apply YS | apply YT | apply YU)); exact Kd.R_mono HO228.out (fun _ hk => trivial), by repeat (first | (with_reducible first | exact HB.out | apply YA | apply YB | apply YC | refine below_set ?_ GE187.out) | exact HB.out)⟩
    rw [if_neg c67] at H
    have c67b0 : (a0_0 == 4) = false := beq_eq_false_iff_ne.mpr c67
    have c67b1 : (a0_0 != 4) = true := bne_iff_ne.mpr c67
    simp only [Option.some.injEq, Prod.mk.injEq] at H
    obtain ⟨rfl, rfl⟩ := H
    have q74_0 : wc.cell? ⟨gb187, 0, none⟩ = some (.int .i64 a0_0) := (YI BK187.out 0).trans rfl
    have q74_1 : wc.cell? ⟨gb187, 1, none⟩ = some (.int .i64 a0_1) := (YI BK187.out 1).trans rfl
    have q74_2 : wc.cell? ⟨gb187, 2, none⟩ = some (.bool a0_2) := (YI BK187.out 2).trans rfl
    have q74_3 : wc.cell? ⟨gb187, 3, none⟩ = some (.int .i64 a0_3) := (YI BK187.out 3).trans rfl
    have q74_4 : wc.cell? ⟨gb187, 4, none⟩ = some (.int .i64 a0_4) := (YI BK187.out 4).trans rfl
    have q74_5 : wc.cell? ⟨gb187, 5, none⟩ = some (.int .i64 a0_5) := (YI BK187.out 5).trans rfl
    have q74_6 : wc.cell? ⟨gb187, 6, none⟩ = some (.int .i64 a0_6) := (YI BK187.out 6).trans rfl
    have q74_7 : wc.cell? ⟨gb187, 7, none⟩ = some (.int .i64 a0_7) := (YI BK187.out 7).trans rfl
    have q74_8 : wc.cell? ⟨gb187, 8, none⟩ = some (.int .i64 a0_8) := (YI BK187.out 8).trans rfl
    have q74_9 : wc.cell? ⟨gb187, 9, none⟩ = some (.int .i64 a0_9) := (YI BK187.out 9).trans rfl
    have q74_10 : wc.cell? ⟨gb187, 10, none⟩ = some (.int .i64 a0_10) := (YI BK187.out 10).trans rfl
    have q74_11 : wc.cell? ⟨gb187, 11, none⟩ = some (.int .i64 a0_11) := (YI BK187.out 11).trans rfl
    have f74_0 := YJ BK187.out 0
    have f74_1 := YJ BK187.out 1
    have f74_2 := YJ BK187.out 2
    have f74_3 := YJ BK187.out 3
    have f74_4 := YJ BK187.out 4
    have f74_5 := YJ BK187.out 5
    have f74_6 := YJ BK187.out 6
    have f74_7 := YJ BK187.out 7
    have f74_8 := YJ BK187.out 8
    have f74_9 := YJ BK187.out 9
    have f74_10 := YJ BK187.out 10
    have f74_11 := YJ BK187.out 11
    go_wp2
    go_ret2
    exact ⟨_, by first | rfl | (simp [errW_none, errW_some] <;> rfl) | (simp [*, errW_none, errW_some] <;> rfl), by (with_reducible repeat (first | apply YS | apply YT | apply YU)); exact HO_5.out, by repeat (first | (with_reducible first | exact HB.out | apply YA | apply YB | apply YC | refine below_set ?_ GE187.out) | exact HB.out)⟩
 rw [if_neg c3] at H
 have c3b0 : (t188 == 0) = false := beq_eq_false_iff_ne.mpr c3
 have c3b1 : (t188 != 0) = true := bne_iff_ne.mpr c3
 simp only [Option.some.injEq, Prod.mk.injEq] at H
 obtain ⟨rfl, rfl⟩ := H
 go_enter Try.func67, Try.ntmps67
 go_wp2_with (first | ((with_reducible refine gate_dst (N := 1) rfl ?_); refine box_event ?hg (N := 1) ?hd (cs := #[.int .i64 a0_0, .int .i64 a0_1, .bool a0_2, .int .i64 a0_3, .int .i64 a0_4, .int .i64 a0_5, .int .i64 a0_6, .int .i64 a0_7, .int .i64 a0_8, .int .i64 a0_9, .int .i64 a0_10, .int .i64 a0_11]) (t := 34) ?hr ?_; (case hd => rfl); (case hg => rfl); (case hr => first | (go_simp; done) | (go_simp; rfl)); intro gb187 hg w75 hbox hb; have n0_ := YL (YD (by repeat (first | (with_reducible first | exact HB.out | apply YA | apply YB | apply YC) | exact HB.out)) hb); have n1_ := YL (hbox); have n2_ := YL ((by rw [hg]; exact (YE (by repeat (first | (with_reducible first | exact HB.out | apply YA | apply YB | apply YC) | exact HB.out))) : w.heap.size ≤ gb187)); have n3_ := YL ((by rw [hg]; exact (YE (by repeat (first | (with_reducible first | exact HB.out | apply YA | apply YB | apply YC) | exact HB.out))) : w.heap.size ≤ gb187)); clear HB; have HB := n0_; have BK187 := n1_; have GW187 := n2_; have GE187 := n3_; clear n0_ n1_ n2_ n3_; clear hb hbox hg; have q76_0 : w75.cell? ⟨gb187, 0, none⟩ = some (.int .i64 a0_0) := (YI BK187.out 0).trans rfl; have q76_1 : w75.cell? ⟨gb187, 1, none⟩ = some (.int .i64 a0_1) := (YI BK187.out 1).trans rfl; have q76_2 : w75.cell? ⟨gb187, 2, none⟩ = some (.bool a0_2) := (YI BK187.out 2).trans rfl; have q76_3 : w75.cell? ⟨gb187, 3, none⟩ = some (.int .i64 a0_3) := (YI BK187.out 3).trans rfl; have q76_4 : w75.cell? ⟨gb187, 4, none⟩ = some (.int .i64 a0_4) := (YI BK187.out 4).trans rfl; have q76_5 : w75.cell? ⟨gb187, 5, none⟩ = some (.int .i64 a0_5) := (YI BK187.out 5).trans rfl; have q76_6 : w75.cell? ⟨gb187, 6, none⟩ = some (.int .i64 a0_6) := (YI BK187.out 6).trans rfl; have q76_7 : w75.cell? ⟨gb187, 7, none⟩ = some (.int .i64 a0_7) := (YI BK187.out 7).trans rfl; have q76_8 : w75.cell? ⟨gb187, 8, none⟩ = some (.int .i64 a0_8) := (YI BK187.out 8).trans rfl; have q76_9 : w75.cell? ⟨gb187, 9, none⟩ = some (.int .i64 a0_9) := (YI BK187.out 9).trans rfl; have q76_10 : w75.cell? ⟨gb187, 10, none⟩ = some (.int .i64 a0_10) := (YI BK187.out 10).trans rfl; have q76_11 : w75.cell? ⟨gb187, 11, none⟩ = some (.int .i64 a0_11) := (YI BK187.out 11).trans rfl; have f76_0 := YJ BK187.out 0; have f76_1 := YJ BK187.out 1; have f76_2 := YJ BK187.out 2; have f76_3 := YJ BK187.out 3; have f76_4 := YJ BK187.out 4; have f76_5 := YJ BK187.out 5; have f76_6 := YJ BK187.out 6; have f76_7 := YJ BK187.out 7; have f76_8 := YJ BK187.out 8; have f76_9 := YJ BK187.out 9; have f76_10 := YJ BK187.out 10; have f76_11 := YJ BK187.out 11) | ((with_reducible refine gate_callee (f := 26) rfl ?_); refine goesL_ (some 9) rfl rfl Try.func26 (by kernel_rfl) rfl #[.agg #[.int .i64 a0_0, .int .i64 a0_1, .bool a0_2, .int .i64 a0_3, .int .i64 a0_4, .int .i64 a0_5, .int .i64 a0_6, .int .i64 a0_7, .int .i64 a0_8, .int .i64 a0_9, .int .i64 a0_10, .int .i64 a0_11]] rfl (by (try simp only [YP, List.map_cons, List.map_nil]); first | done | rfl | (simp only [YR, YQ]; rfl)) ?_; (with_reducible refine (object_Check.calls k a0_0 a0_1 a0_2 a0_3 a0_4 a0_5 a0_6 a0_7 a0_8 a0_9 a0_10 a0_11 t188 _ A2.out).mono ?_); rintro e w77 ⟨rfl, hb⟩; refine ⟨_, rfl, ?_⟩; have n0_ := YL (YK (g := gb187) (o := .cells #[.int .i64 a0_0, .int .i64 a0_1, .bool a0_2, .int .i64 a0_3, .int .i64 a0_4, .int .i64 a0_5, .int .i64 a0_6, .int .i64 a0_7, .int .i64 a0_8, .int .i64 a0_9, .int .i64 a0_10, .int .i64 a0_11] 34 (0, 0)) (by (with_reducible repeat (first | refine YF ?_ _ | refine YG ?_ | refine YH ?_ _)); exact BK187.out) hb); have n1_ := YL (YD (by repeat (first | (with_reducible first | exact HB.out | apply YA | apply YB | apply YC | refine below_set ?_ GE187.out) | exact HB.out)) hb); clear BK187; clear HB; have BK187 := n0_; have HB := n1_; clear n0_ n1_; (try clear hb); (try clear hb2); (try clear hk); (try clear hi)))
 go_ret2
 exact ⟨_, by first | rfl | (simp [errW_none, errW_some] <;> rfl) | (simp [*, errW_none, errW_some] <;> rfl), by first | exact Kd.R_nil _ _ _ _ _ | exact Kd.N_nil _ _ _ _ _ | exact Kd.V_nil _ _ _ _ _ | exact Kd.Q_nil _ _ _ _ _ | exact Kd.S_nil _ _ _ _ _, by repeat (first | (with_reducible first | exact HB.out | apply YA | apply YB | apply YC | refine below_set ?_ GE187.out) | exact HB.out)⟩
end Go.Proofs.Ytclbempnhelmoaa.P
namespace Go.Proofs.Ytclbempnhelmoaa.P
open Go.RowKit YtclbempnhelmoaaW.PrintWords YtclbempnhelmoaaW.PrintLast YtclbempnhelmoaaW.PrintMore
open YtclbempnhelmoaaW.PrintWords renaming below_alloc → YA, pw_below_drewN → YB, below_drew1 → YC, blk_cell → YD, blk_frozen → YE
open YtclbempnhelmoaaW.PrintWords.Aside0 renaming mk → YF
attribute [local go_sem] max2_int min2_int max_two min_two max_three min_three max_four min_four
def object_Size.f (k : Nat) (a0_0 : Int) (a0_1 : Int) (a0_2 : Bool) (a0_3 : Int) (a0_4 : Int) (a0_5 : Int) (a0_6 : Int) (a0_7 : Int) (a0_8 : Int) (a0_9 : Int) (a0_10 : Int) (a0_11 : Int) : Option (Int) := (object_Bytes.f k a0_0 a0_1 a0_2 a0_3 a0_4 a0_5 a0_6 a0_7 a0_8 a0_9 a0_10 a0_11).bind fun bt230 => (some (bt230.1.length : Int))
theorem object_Size.mono : ∀ a0 a1 a2 a3 a4 a5 a6 a7 a8 a9 a10 a11 k, LeO (object_Size.f k a0 a1 a2 a3 a4 a5 a6 a7 a8 a9 a10 a11) (object_Size.f (k + 1) a0 a1 a2 a3 a4 a5 a6 a7 a8 a9 a10 a11) := by
 intro a0 a1 a2 a3 a4 a5 a6 a7 a8 a9 a10 a11 k
 unfold object_Size.f
 repeat' first
   | (with_reducible exact object_Bytes.mono _ _ _ _ _ _ _ _ _ _ _ _ _)
   | (with_reducible exact LeO.refl _)
   | (with_reducible exact LeO.none _)
   | (with_reducible refine LeO.ite ?_ ?_)
   | (with_reducible refine LeO.bind ?_ (fun _ => ?_))
   | exact object_Bytes.mono _ _ _ _ _ _ _ _ _ _ _ _ _
   | exact LeO.none _
   | refine LeO.ite ?_ ?_
   | refine LeO.bind ?_ (fun _ => ?_)
theorem object_Size.calls (k : Nat) (a0_0 : Int) (a0_1 : Int) (a0_2 : Bool) (a0_3 : Int) (a0_4 : Int) (a0_5 : Int) (a0_6 : Int) (a0_7 : Int) (a0_8 : Int) (a0_9 : Int) (a0_10 : Int) (a0_11 : Int) (r : Int) (w : World) (h : object_Size.f k a0_0 a0_1 a0_2 a0_3 a0_4 a0_5 a0_6 a0_7 a0_8 a0_9 a0_10 a0_11 = some r) :
  Calls Try.prog 52 #[.agg #[.int .i64 a0_0, .int .i64 a0_1, .bool a0_2, .int .i64 a0_3, .int .i64 a0_4, .int .i64 a0_5, .int .i64 a0_6, .int .i64 a0_7, .int .i64 a0_8, .int .i64 a0_9, .int .i64 a0_10, .int .i64 a0_11]] w fun e w' => e = .returned (.int .i64 r) ∧ Below w.heap.size w w' := by
 have hu34 := Try.underlying34
 have HB := YF (Below.refl w.heap.size w)
 have H : ((object_Bytes.f k a0_0 a0_1 a0_2 a0_3 a0_4 a0_5 a0_6 a0_7 a0_8 a0_9 a0_10 a0_11).bind fun bt230 => (some (bt230.1.length : Int))) = some r := h
 clear h; replace H := Option.bind_eq_some_iff.mp H
 obtain ⟨⟨t230, t233⟩, A20, H⟩ := H
 replace H : (some (t230.length : Int)) = some r := H
 have A2 := YF A20; clear A20
 obtain rfl := Option.some.inj H
 go_enter Try.func52, Try.ntmps52
 go_wp2_with (first | ((with_reducible refine gate_dst (N := 1) rfl ?_); refine box_event ?hg (N := 1) ?hd (cs := #[.int .i64 a0_0, .int .i64 a0_1, .bool a0_2, .int .i64 a0_3, .int .i64 a0_4, .int .i64 a0_5, .int .i64 a0_6, .int .i64 a0_7, .int .i64 a0_8, .int .i64 a0_9, .int .i64 a0_10, .int .i64 a0_11]) (t := 34) ?hr ?_; (case hd => rfl); (case hg => rfl); (case hr => first | (go_simp; done) | (go_simp; rfl)); intro gb229 hg w3 hbox hb; have n0_ := YF (below_step (by repeat (first | (with_reducible first | exact HB.out | apply YA | apply YB | apply YC) | exact HB.out)) hb); have n1_ := YF (hbox); have n2_ := YF ((by rw [hg]; exact (below_size (by repeat (first | (with_reducible first | exact HB.out | apply YA | apply YB | apply YC) | exact HB.out))) : w.heap.size ≤ gb229)); have n3_ := YF ((by rw [hg]; exact (below_size (by repeat (first | (with_reducible first | exact HB.out | apply YA | apply YB | apply YC) | exact HB.out))) : w.heap.size ≤ gb229)); clear HB; have HB := n0_; have BK229 := n1_; have GW229 := n2_; have GE229 := n3_; clear n0_ n1_ n2_ n3_; clear hb hbox hg; have q4_0 : w3.cell? ⟨gb229, 0, none⟩ = some (.int .i64 a0_0) := (YD BK229.out 0).trans rfl; have q4_1 : w3.cell? ⟨gb229, 1, none⟩ = some (.int .i64 a0_1) := (YD BK229.out 1).trans rfl; have q4_2 : w3.cell? ⟨gb229, 2, none⟩ = some (.bool a0_2) := (YD BK229.out 2).trans rfl; have q4_3 : w3.cell? ⟨gb229, 3, none⟩ = some (.int .i64 a0_3) := (YD BK229.out 3).trans rfl; have q4_4 : w3.cell? ⟨gb229, 4, none⟩ = some (.int .i64 a0_4) := (YD BK229.out 4).trans rfl; have q4_5 : w3.cell? ⟨gb229, 5, none⟩ = some (.int .i64 a0_5) := (YD BK229.out 5).trans rfl; have q4_6 : w3.cell? ⟨gb229, 6, none⟩ = some (.int .i64 a0_6) := (YD BK229.out 6).trans rfl; have q4_7 : w3.cell? ⟨gb229, 7, none⟩ = some (.int .i64 a0_7) := (YD BK229.out 7).trans rfl; have q4_8 : w3.cell? ⟨gb229, 8, none⟩ = some (.int .i64 a0_8) := (YD BK229.out 8).trans rfl; have q4_9 : w3.cell? ⟨gb229, 9, none⟩ = some (.int .i64 a0_9) := (YD BK229.out 9).trans rfl; have q4_10 : w3.cell? ⟨gb229, 10, none⟩ = some (.int .i64 a0_10) := (YD BK229.out 10).trans rfl; have q4_11 : w3.cell? ⟨gb229, 11, none⟩ = some (.int .i64 a0_11) := (YD BK229.out 11).trans rfl; have f4_0 := YE BK229.out 0; have f4_1 := YE BK229.out 1; have f4_2 := YE BK229.out 2; have f4_3 := YE BK229.out 3; have f4_4 := YE BK229.out 4; have f4_5 := YE BK229.out 5; have f4_6 := YE BK229.out 6; have f4_7 := YE BK229.out 7; have f4_8 := YE BK229.out 8; have f4_9 := YE BK229.out 9; have f4_10 := YE BK229.out 10; have f4_11 := YE BK229.out 11) | ((with_reducible refine gate_callee (f := 67) rfl ?_); refine goesL_ (some 7) rfl rfl Try.func67 (by kernel_rfl) rfl #[.agg #[.int .i64 a0_0, .int .i64 a0_1, .bool a0_2, .int .i64 a0_3, .int .i64 a0_4, .int .i64 a0_5, .int .i64 a0_6, .int .i64 a0_7, .int .i64 a0_8, .int .i64 a0_9, .int .i64 a0_10, .int .i64 a0_11]] rfl (by (try simp only [List.map_toArray, List.map_cons, List.map_nil]); first | done | rfl | (simp only [List.length_drop, List.length_take]; rfl)) ?_; (with_reducible refine (object_Bytes.calls k a0_0 a0_1 a0_2 a0_3 a0_4 a0_5 a0_6 a0_7 a0_8 a0_9 a0_10 a0_11 t230 t233 _ A2.out).mono ?_); rintro e w5 ⟨v231, rfl, ho0, hb⟩; refine ⟨_, rfl, ?_⟩; have n0_ := YF (Kd.R_lower ho0 (below_size (by repeat (first | (with_reducible first | exact HB.out | apply YA | apply YB | apply YC | refine below_set ?_ GE229.out) | exact HB.out)))); have n1_ := YF (blk_below (g := gb229) (o := .cells #[.int .i64 a0_0, .int .i64 a0_1, .bool a0_2, .int .i64 a0_3, .int .i64 a0_4, .int .i64 a0_5, .int .i64 a0_6, .int .i64 a0_7, .int .i64 a0_8, .int .i64 a0_9, .int .i64 a0_10, .int .i64 a0_11] 34 (0, 0)) (by (with_reducible repeat (first | refine blk_drewN ?_ _ | refine blk_drew ?_ | refine blk_alloc ?_ _)); exact BK229.out) hb); have n2_ := YF (below_step (by repeat (first | (with_reducible first | exact HB.out | apply YA | apply YB | apply YC | refine below_set ?_ GE229.out) | exact HB.out)) hb); clear BK229; clear HB; have HO232 := n0_; have BK229 := n1_; have HB := n2_; clear n0_ n1_ n2_; (try clear hb); (try clear hb2); (try clear hk); (try clear hi); (try clear ho0); obtain ⟨Ao6, co6, eo6⟩ := Kd.R_slice HO232.out; subst eo6))
 go_ret
 exact ⟨by first | rfl | (simp [errW_none, errW_some] <;> rfl) | (simp [*, errW_none, errW_some] <;> rfl), by repeat (first | (with_reducible first | exact HB.out | apply YA | apply YB | apply YC | refine below_set ?_ GE229.out) | exact HB.out)⟩
end Go.Proofs.Ytclbempnhelmoaa.P
