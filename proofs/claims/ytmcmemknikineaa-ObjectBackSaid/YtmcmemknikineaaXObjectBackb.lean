/- Walks. -/
import Derived.Test.YtmcmemknikineaaXObjectBacka
set_option linter.unusedVariables false
set_option linter.unusedSimpArgs false
set_option maxHeartbeats 8000000
set_option maxRecDepth 100000
namespace Go.Proofs.Ytmcmemknikineaa.P
open Go.RowKit YtmcmemknikineaaW.PrintWords YtmcmemknikineaaW.PrintLast YtmcmemknikineaaW.PrintMore
open YtmcmemknikineaaW.PrintWords renaming below_alloc → YA, pw_below_drewN → YB, below_drew1 → YC, below_step → YD, below_size → YE, blk_drewN → YF, blk_drew → YG, blk_alloc → YH, blk_cell → YI, blk_frozen → YJ, blk_below → YK
open YtmcmemknikineaaW.PrintWords.Aside0 renaming mk → YL
open List renaming setIfInBounds_toArray → YM, set_cons_zero → YN, set_cons_succ → YO, map_toArray → YP, length_take → YQ, length_drop → YR
open YtmcmemknikineaaW.PrintWords.Kd renaming R_alloc → YS, R_drewN → YT, R_drew → YU
attribute [local go_sem] max2_int min2_int max_two min_two max_three min_three max_four min_four
def height_Bytes.f (k : Nat) (a0_0 : Bool) (a0_1 : Int) (a0_2 : Int) (a0_3 : Int) (a0_4 : Int) (a0_5 : Int) : Option (List Int × Int) := (height_Check.f k a0_0 a0_1 a0_2 a0_3 a0_4 a0_5).bind fun t128 => (if t128 = 0 then (if a0_0 = true then (if ([] : List Int).length < 140737488355328 then ((some (([] : List Int) ++ [0] : List Int)).bind fun y129 => (if y129.length < 140737488355328 then (some ((y129 ++ [(a0_5) % 256]), 0)) else (none))) else (none)) else (if ([] : List Int).length < 140737488355328 then ((some (([] : List Int) ++ [1] : List Int)).bind fun y135 => ((wire_Int.f a0_1).bind fun t138 => (if y135.length + t138.length < 140737488355328 then ((some (y135 ++ t138 : List Int)).bind fun y141 => ((some (([(a0_2) % 256, (a0_3) % 256] : List Int) : List Int)).bind fun y144 => (if y141.length + y144.length < 140737488355328 then ((some (y141 ++ y144 : List Int)).bind fun y147 => ((wire_Int.f a0_4).bind fun t150 => (if y147.length + t150.length < 140737488355328 then ((some (y147 ++ t150 : List Int)).bind fun y153 => (if y153.length < 140737488355328 then (some ((y153 ++ [(a0_5) % 256]), 0)) else (none))) else (none)))) else (none)))) else (none)))) else (none))) else (some (([] : List Int), t128)))
theorem height_Bytes.mono : ∀ a0 a1 a2 a3 a4 a5 k, LeO (height_Bytes.f k a0 a1 a2 a3 a4 a5) (height_Bytes.f (k + 1) a0 a1 a2 a3 a4 a5) := by
 intro a0 a1 a2 a3 a4 a5 k
 unfold height_Bytes.f
 repeat' first
   | (with_reducible exact height_Check.mono _ _ _ _ _ _ _)
   | (with_reducible exact LeO.refl _)
   | (with_reducible exact LeO.none _)
   | (with_reducible refine LeO.ite ?_ ?_)
   | (with_reducible refine LeO.bind ?_ (fun _ => ?_))
   | exact height_Check.mono _ _ _ _ _ _ _
   | exact LeO.none _
   | refine LeO.ite ?_ ?_
   | refine LeO.bind ?_ (fun _ => ?_)
def height_Bytes.T7 : Bool × List (List Nat × List Nat) := (true, [([], []), ([], []), ([0, 1], [0, 1]), ([], []), ([3], [3]), ([4, 2], [4]), ([2, 5, 5], [2, 5]), ([6, 6, 0, 1, 2, 3, 4, 5, 6], [0, 6])])
def height_Bytes.B7 : List Nat := [0, 0, 3, 0, 8, 31, 63, 127]
theorem height_Bytes.tab7 : rtab .any (opsOf Try.f15 7) = height_Bytes.T7 := by kernel_rfl
theorem height_Bytes.bits7 : waitsOk height_Bytes.T7.2 height_Bytes.B7 = true := by kernel_rfl
def height_Bytes.T8 : Bool × List (List Nat × List Nat) := (true, [([], []), ([], []), ([1], [1]), ([2], [2]), ([], []), ([4], [4]), ([5], [5]), ([3, 6], [3, 6]), ([0, 7], [0, 7]), ([], []), ([9], [9]), ([10, 8], [10]), ([8, 11, 11], [8, 11]), ([12, 12, 0, 1, 2, 3, 4, 5, 6, 7, 8, 9, 10, 11, 12], [0, 12])])
def height_Bytes.B8 : List Nat := [0, 0, 2, 6, 0, 16, 48, 126, 255, 0, 512, 2047, 4095, 8191]
theorem height_Bytes.tab8 : rtab .any (opsOf Try.f15 8) = height_Bytes.T8 := by kernel_rfl
theorem height_Bytes.bits8 : waitsOk height_Bytes.T8.2 height_Bytes.B8 = true := by kernel_rfl
theorem height_Bytes.calls (k : Nat) (a0_0 : Bool) (a0_1 : Int) (a0_2 : Int) (a0_3 : Int) (a0_4 : Int) (a0_5 : Int) (r1 : List Int) (r2 : Int) (w : World) (h : height_Bytes.f k a0_0 a0_1 a0_2 a0_3 a0_4 a0_5 = some (r1, r2)) :
  Calls Try.prog 15 #[.agg #[.bool a0_0, .int .i64 a0_1, .int .i64 a0_2, .int .i64 a0_3, .int .i64 a0_4, .int .i64 a0_5]] w fun e w' => ∃ v0_ : Value, e = .returned (.tuple #[v0_, .int .i64 r2]) ∧ Kd.R (Kd.int .u8) 5 w' w.heap.size (fun _ => True) v0_ r1 ∧ Below w.heap.size w w' := by
 have hu23 := Try.underlying23
 have HB := YL (Below.refl w.heap.size w)
 have H : ((height_Check.f k a0_0 a0_1 a0_2 a0_3 a0_4 a0_5).bind fun t128 => (if t128 = 0 then (if a0_0 = true then (if ([] : List Int).length < 140737488355328 then ((some (([] : List Int) ++ [0] : List Int)).bind fun y129 => (if y129.length < 140737488355328 then (some ((y129 ++ [(a0_5) % 256]), 0)) else (none))) else (none)) else (if ([] : List Int).length < 140737488355328 then ((some (([] : List Int) ++ [1] : List Int)).bind fun y135 => ((wire_Int.f a0_1).bind fun t138 => (if y135.length + t138.length < 140737488355328 then ((some (y135 ++ t138 : List Int)).bind fun y141 => ((some (([(a0_2) % 256, (a0_3) % 256] : List Int) : List Int)).bind fun y144 => (if y141.length + y144.length < 140737488355328 then ((some (y141 ++ y144 : List Int)).bind fun y147 => ((wire_Int.f a0_4).bind fun t150 => (if y147.length + t150.length < 140737488355328 then ((some (y147 ++ t150 : List Int)).bind fun y153 => (if y153.length < 140737488355328 then (some ((y153 ++ [(a0_5) % 256]), 0)) else (none))) else (none)))) else (none)))) else (none)))) else (none))) else (some (([] : List Int), t128)))) = some (r1, r2) := h
 clear h; replace H := Option.bind_eq_some_iff.mp H; obtain ⟨t128, A20, H⟩ := H
 replace H : (if t128 = 0 then (if a0_0 = true then (if ([] : List Int).length < 140737488355328 then ((some (([] : List Int) ++ [0] : List Int)).bind fun y129 => (if y129.length < 140737488355328 then (some ((y129 ++ [(a0_5) % 256]), 0)) else (none))) else (none)) else (if ([] : List Int).length < 140737488355328 then ((some (([] : List Int) ++ [1] : List Int)).bind fun y135 => ((wire_Int.f a0_1).bind fun t138 => (if y135.length + t138.length < 140737488355328 then ((some (y135 ++ t138 : List Int)).bind fun y141 => ((some (([(a0_2) % 256, (a0_3) % 256] : List Int) : List Int)).bind fun y144 => (if y141.length + y144.length < 140737488355328 then ((some (y141 ++ y144 : List Int)).bind fun y147 => ((wire_Int.f a0_4).bind fun t150 => (if y147.length + t150.length < 140737488355328 then ((some (y147 ++ t150 : List Int)).bind fun y153 => (if y153.length < 140737488355328 then (some ((y153 ++ [(a0_5) % 256]), 0)) else (none))) else (none)))) else (none)))) else (none)))) else (none))) else (some (([] : List Int), t128))) = some (r1, r2) := H
 have A2 := YL A20; clear A20
 by_cases c3 : t128 = 0
 ·rw [if_pos c3] at H
  have c3b0 : (t128 == 0) = true := beq_iff_eq.mpr c3
  have c3b1 : (t128 != 0) = false := bne_eq_false_iff_eq.mpr c3
  clear c3
  by_cases c4 : a0_0 = true
  ·subst c4
   have H1 : (if ([] : List Int).length < 140737488355328 then ((some (([] : List Int) ++ [0] : List Int)).bind fun y129 => (if y129.length < 140737488355328 then (some ((y129 ++ [(a0_5) % 256]), 0)) else (none))) else (none)) = some (r1, r2) := by rw [if_pos rfl] at H; exact H
   clear H
   have H := H1
   clear H1
   by_cases c5 : ([] : List Int).length < 140737488355328
   rotate_left
   ·rw [if_neg c5] at H
    exact absurd H (by simp)
   rw [if_pos c5] at H; have LMc5 := YL c5; clear c5
   obtain ⟨y129, hy129⟩ : ∃ y_ : List Int, y_ = (([] : List Int) ++ [0]) := ⟨_, rfl⟩
   replace H : (if y129.length < 140737488355328 then (some ((y129 ++ [(a0_5) % 256]), 0)) else (none)) = some (r1, r2) := by first | (rw [hy129]; with_reducible exact H) | (have H2_ := (Option.bind_some _ _).symm.trans H; rw [hy129]; with_reducible exact H2_) | (have H2_ := (Option.bind_some _ _).symm.trans H; with_reducible exact H2_) | with_reducible exact H | (rw [hy129]; exact H) | exact H
   have Ny129 := YL hy129; clear hy129
   by_cases c6 : y129.length < 140737488355328
   rotate_left
   ·rw [if_neg c6] at H
    exact absurd H (by simp)
   rw [if_pos c6] at H; have LMc6 := YL c6; clear c6
   obtain ⟨y132, hy132⟩ : ∃ y_ : List Int, y_ = (y129 ++ [(a0_5) % 256]) := ⟨_, rfl⟩
   replace H : (some (y132, 0)) = some (r1, r2) := by first | (rw [hy132]; with_reducible exact H) | (have H2_ := (Option.bind_some _ _).symm.trans H; rw [hy132]; with_reducible exact H2_) | (have H2_ := (Option.bind_some _ _).symm.trans H; with_reducible exact H2_) | with_reducible exact H | (rw [hy132]; exact H) | exact H
   have Ny132 := YL hy132; clear hy132
   simp only [Option.some.injEq, Prod.mk.injEq] at H
   obtain ⟨rfl, rfl⟩ := H
   go_enter Try.func15, Try.ntmps15
   go_wp2_with (first | ((with_reducible refine gate_dst (N := 1) rfl ?_); refine box_event ?hg (N := 1) ?hd (cs := #[.bool true, .int .i64 a0_1, .int .i64 a0_2, .int .i64 a0_3, .int .i64 a0_4, .int .i64 a0_5]) (t := 23) ?hr ?_; (case hd => rfl); (case hg => rfl); (case hr => first | (go_simp; done) | (go_simp; rfl)); intro gb127 hg w7 hbox hb; have n0_ := YL (YD (by repeat (first | (with_reducible first | exact HB.out | apply YA | apply YB | apply YC) | exact HB.out)) hb); have n1_ := YL (hbox); have n2_ := YL ((by rw [hg]; exact (YE (by repeat (first | (with_reducible first | exact HB.out | apply YA | apply YB | apply YC) | exact HB.out))) : w.heap.size ≤ gb127)); have n3_ := YL ((by rw [hg]; exact (YE (by repeat (first | (with_reducible first | exact HB.out | apply YA | apply YB | apply YC) | exact HB.out))) : w.heap.size ≤ gb127)); clear HB; have HB := n0_; have BK127 := n1_; have GW127 := n2_; have GE127 := n3_; clear n0_ n1_ n2_ n3_; clear hb hbox hg; have q8_0 : w7.cell? ⟨gb127, 0, none⟩ = some (.bool true) := (YI BK127.out 0).trans rfl; have q8_1 : w7.cell? ⟨gb127, 1, none⟩ = some (.int .i64 a0_1) := (YI BK127.out 1).trans rfl; have q8_2 : w7.cell? ⟨gb127, 2, none⟩ = some (.int .i64 a0_2) := (YI BK127.out 2).trans rfl; have q8_3 : w7.cell? ⟨gb127, 3, none⟩ = some (.int .i64 a0_3) := (YI BK127.out 3).trans rfl; have q8_4 : w7.cell? ⟨gb127, 4, none⟩ = some (.int .i64 a0_4) := (YI BK127.out 4).trans rfl; have q8_5 : w7.cell? ⟨gb127, 5, none⟩ = some (.int .i64 a0_5) := (YI BK127.out 5).trans rfl; have f8_0 := YJ BK127.out 0; have f8_1 := YJ BK127.out 1; have f8_2 := YJ BK127.out 2; have f8_3 := YJ BK127.out 3; have f8_4 := YJ BK127.out 4; have f8_5 := YJ BK127.out 5) | ((with_reducible refine gate_callee (f := 19) rfl ?_); refine goesL_ (some 7) rfl rfl Try.func19 (by kernel_rfl) rfl #[.agg #[.bool true, .int .i64 a0_1, .int .i64 a0_2, .int .i64 a0_3, .int .i64 a0_4, .int .i64 a0_5]] rfl (by (try simp only [YP, List.map_cons, List.map_nil]); first | done | rfl | (simp only [YR, YQ]; rfl)) ?_; (with_reducible refine (height_Check.calls k true a0_1 a0_2 a0_3 a0_4 a0_5 t128 _ A2.out).mono ?_); rintro e w9 ⟨rfl, hb⟩; refine ⟨_, rfl, ?_⟩; have n0_ := YL (YK (g := gb127) (o := .cells #[.bool true, .int .i64 a0_1, .int .i64 a0_2, .int .i64 a0_3, .int .i64 a0_4, .int .i64 a0_5] 23 (0, 0)) (by (with_reducible repeat (first | refine YF ?_ _ | refine YG ?_ | refine YH ?_ _)); exact BK127.out) hb); have n1_ := YL (YD (by repeat (first | (with_reducible first | exact HB.out | apply YA | apply YB | apply YC | refine below_set ?_ GE127.out) | exact HB.out)) hb); clear BK127; clear HB; have BK127 := n0_; have HB := n1_; clear n0_ n1_; (try clear hb); (try clear hb2); (try clear hk); (try clear hi); have q10_0 : w9.cell? ⟨gb127, 0, none⟩ = some (.bool true) := (YI BK127.out 0).trans rfl; have q10_1 : w9.cell? ⟨gb127, 1, none⟩ = some (.int .i64 a0_1) := (YI BK127.out 1).trans rfl; have q10_2 : w9.cell? ⟨gb127, 2, none⟩ = some (.int .i64 a0_2) := (YI BK127.out 2).trans rfl; have q10_3 : w9.cell? ⟨gb127, 3, none⟩ = some (.int .i64 a0_3) := (YI BK127.out 3).trans rfl; have q10_4 : w9.cell? ⟨gb127, 4, none⟩ = some (.int .i64 a0_4) := (YI BK127.out 4).trans rfl; have q10_5 : w9.cell? ⟨gb127, 5, none⟩ = some (.int .i64 a0_5) := (YI BK127.out 5).trans rfl; have f10_0 := YJ BK127.out 0; have f10_1 := YJ BK127.out 1; have f10_2 := YJ BK127.out 2; have f10_3 := YJ BK127.out 3; have f10_4 := YJ BK127.out 4; have f10_5 := YJ BK127.out 5) | ((with_reducible refine gate_builtin (b := .append) (xs := #[.tmp 13, .tmp 14]) rfl ?_); at_builtin; refine Kd.R_append (Kd.int .u8) (w0 := w) w.heap.size rfl (.tmp 13) (.tmp 14) 28 5 (.int .u8 0) 1 rfl Try.underlying28 info5 rfl (by decide) (by omega) (.slice none 0 0) ([] : List Int) 0 [.int .u8 0] (fun _ => True) (fun _ => False) rfl rfl ?aP (fun _ hk => hk.elim) ?aF ?aO ?aB ?aS ?aL ?_; (case aP => exact rfl); (case aB => exact (by repeat (first | (with_reducible first | exact HB.out | apply YA | apply YB | apply YC | refine below_set ?_ GE127.out) | exact HB.out))); (case aF => exact (fun _ _ => trivial)); (case aO => exact ((Kd.R_nil _ _ _ _ (fun _ => True)))); (case aS => exact (YE (by repeat (first | (with_reducible first | exact HB.out | apply YA | apply YB | apply YC | refine below_set ?_ GE127.out) | exact HB.out)))); (case aL => have := LMc5.out; omega); intro v130 w11 ho hb hg hat; rw [← Ny129.out] at ho; have n0_ := YL (blk_grown (g := gb127) (o := .cells #[.bool true, .int .i64 a0_1, .int .i64 a0_2, .int .i64 a0_3, .int .i64 a0_4, .int .i64 a0_5] 23 (0, 0)) (by (with_reducible repeat (first | refine YF ?_ _ | refine YG ?_ | refine YH ?_ _)); exact BK127.out) hg (by simp [Value.ownBlock])); have n1_ := YL (hb); have n2_ := YL (ho); clear BK127; clear HB; have BK127 := n0_; have HB := n1_; have HO131 := n2_; clear n0_ n1_ n2_; clear ho hb hg hat; have q12_0 : w11.cell? ⟨gb127, 0, none⟩ = some (.bool true) := (YI BK127.out 0).trans rfl; have q12_1 : w11.cell? ⟨gb127, 1, none⟩ = some (.int .i64 a0_1) := (YI BK127.out 1).trans rfl; have q12_2 : w11.cell? ⟨gb127, 2, none⟩ = some (.int .i64 a0_2) := (YI BK127.out 2).trans rfl; have q12_3 : w11.cell? ⟨gb127, 3, none⟩ = some (.int .i64 a0_3) := (YI BK127.out 3).trans rfl; have q12_4 : w11.cell? ⟨gb127, 4, none⟩ = some (.int .i64 a0_4) := (YI BK127.out 4).trans rfl; have q12_5 : w11.cell? ⟨gb127, 5, none⟩ = some (.int .i64 a0_5) := (YI BK127.out 5).trans rfl; have f12_0 := YJ BK127.out 0; have f12_1 := YJ BK127.out 1; have f12_2 := YJ BK127.out 2; have f12_3 := YJ BK127.out 3; have f12_4 := YJ BK127.out 4; have f12_5 := YJ BK127.out 5) | ((with_reducible refine gate_builtin (b := .append) (xs := #[.tmp 36, .tmp 40]) rfl ?_); at_builtin; refine Kd.R_append (Kd.int .u8) (w0 := w) w.heap.size rfl (.tmp 36) (.tmp 40) 28 5 (.int .u8 0) 1 rfl Try.underlying28 info5 rfl (by decide) (by omega) v130 y129 ((a0_5) % 256) [.int .u8 ((a0_5) % 256)] (fun _ => True) (fun _ => False) rfl rfl ?aP (fun _ hk => hk.elim) ?aF ?aO ?aB ?aS ?aL ?_; (case aP => exact rfl); (case aB => exact (by repeat (first | (with_reducible first | exact HB.out | apply YA | apply YB | apply YC | refine below_set ?_ GE127.out) | exact HB.out))); (case aF => exact (fun _ _ => trivial)); (case aO => exact (by (with_reducible repeat (first | apply YS | apply YT | apply YU)); exact HO131.out)); (case aS => exact (YE (by repeat (first | (with_reducible first | exact HB.out | apply YA | apply YB | apply YC | refine below_set ?_ GE127.out) | exact HB.out)))); (case aL => have := LMc6.out; omega); intro v133 w13 ho hb hg hat; rw [← Ny132.out] at ho; have n0_ := YL (blk_grown (g := gb127) (o := .cells #[.bool true, .int .i64 a0_1, .int .i64 a0_2, .int .i64 a0_3, .int .i64 a0_4, .int .i64 a0_5] 23 (0, 0)) (by (with_reducible repeat (first | refine YF ?_ _ | refine YG ?_ | refine YH ?_ _)); exact BK127.out) hg (Kd.R_ne HO131.out BK127.out (by decide))); have n1_ := YL (hb); have n2_ := YL (ho); clear BK127; clear HB; clear HO131; have BK127 := n0_; have HB := n1_; have HO134 := n2_; clear n0_ n1_ n2_; clear ho hb hg hat))
   go_ret2
   exact ⟨_, by first | rfl | (simp [errW_none, errW_some] <;> rfl) | (simp [*, errW_none, errW_some] <;> rfl), by (with_reducible repeat (first | apply YS | apply YT | apply YU)); exact HO134.out, by repeat (first | (with_reducible first | exact HB.out | apply YA | apply YB | apply YC | refine below_set ?_ GE127.out) | exact HB.out)⟩
  replace c4 := Bool.eq_false_iff.mpr c4
  subst c4
  have H1 : (if ([] : List Int).length < 140737488355328 then ((some (([] : List Int) ++ [1] : List Int)).bind fun y135 => ((wire_Int.f a0_1).bind fun t138 => (if y135.length + t138.length < 140737488355328 then ((some (y135 ++ t138 : List Int)).bind fun y141 => ((some (([(a0_2) % 256, (a0_3) % 256] : List Int) : List Int)).bind fun y144 => (if y141.length + y144.length < 140737488355328 then ((some (y141 ++ y144 : List Int)).bind fun y147 => ((wire_Int.f a0_4).bind fun t150 => (if y147.length + t150.length < 140737488355328 then ((some (y147 ++ t150 : List Int)).bind fun y153 => (if y153.length < 140737488355328 then (some ((y153 ++ [(a0_5) % 256]), 0)) else (none))) else (none)))) else (none)))) else (none)))) else (none)) = some (r1, r2) := by rw [if_neg (show ¬ (false = true) by decide)] at H; exact H
  clear H
  have H := H1
  clear H1
  by_cases c14 : ([] : List Int).length < 140737488355328
  rotate_left
  ·rw [if_neg c14] at H
   exact absurd H (by simp)
  rw [if_pos c14] at H; have LMc14 := YL c14; clear c14
  obtain ⟨y135, hy135⟩ : ∃ y_ : List Int, y_ = (([] : List Int) ++ [1]) := ⟨_, rfl⟩
  replace H : ((wire_Int.f a0_1).bind fun t138 => (if y135.length + t138.length < 140737488355328 then ((some (y135 ++ t138 : List Int)).bind fun y141 => ((some (([(a0_2) % 256, (a0_3) % 256] : List Int) : List Int)).bind fun y144 => (if y141.length + y144.length < 140737488355328 then ((some (y141 ++ y144 : List Int)).bind fun y147 => ((wire_Int.f a0_4).bind fun t150 => (if y147.length + t150.length < 140737488355328 then ((some (y147 ++ t150 : List Int)).bind fun y153 => (if y153.length < 140737488355328 then (some ((y153 ++ [(a0_5) % 256]), 0)) else (none))) else (none)))) else (none)))) else (none))) = some (r1, r2) := by first | (rw [hy135]; with_reducible exact H) | (have H2_ := (Option.bind_some _ _).symm.trans H; rw [hy135]; with_reducible exact H2_) | (have H2_ := (Option.bind_some _ _).symm.trans H; with_reducible exact H2_) | with_reducible exact H | (rw [hy135]; exact H) | exact H
  have Ny135 := YL hy135; clear hy135; replace H := Option.bind_eq_some_iff.mp H; obtain ⟨t138, A150, H⟩ := H
  replace H : (if y135.length + t138.length < 140737488355328 then ((some (y135 ++ t138 : List Int)).bind fun y141 => ((some (([(a0_2) % 256, (a0_3) % 256] : List Int) : List Int)).bind fun y144 => (if y141.length + y144.length < 140737488355328 then ((some (y141 ++ y144 : List Int)).bind fun y147 => ((wire_Int.f a0_4).bind fun t150 => (if y147.length + t150.length < 140737488355328 then ((some (y147 ++ t150 : List Int)).bind fun y153 => (if y153.length < 140737488355328 then (some ((y153 ++ [(a0_5) % 256]), 0)) else (none))) else (none)))) else (none)))) else (none)) = some (r1, r2) := H
  have A15 := YL A150; clear A150
  by_cases c16 : y135.length + t138.length < 140737488355328
  rotate_left
  ·rw [if_neg c16] at H
   exact absurd H (by simp)
  rw [if_pos c16] at H; have LMc16 := YL c16; clear c16
  obtain ⟨y141, hy141⟩ : ∃ y_ : List Int, y_ = (y135 ++ t138) := ⟨_, rfl⟩
  replace H : ((some (([(a0_2) % 256, (a0_3) % 256] : List Int) : List Int)).bind fun y144 => (if y141.length + y144.length < 140737488355328 then ((some (y141 ++ y144 : List Int)).bind fun y147 => ((wire_Int.f a0_4).bind fun t150 => (if y147.length + t150.length < 140737488355328 then ((some (y147 ++ t150 : List Int)).bind fun y153 => (if y153.length < 140737488355328 then (some ((y153 ++ [(a0_5) % 256]), 0)) else (none))) else (none)))) else (none))) = some (r1, r2) := by first | (rw [hy141]; with_reducible exact H) | (have H2_ := (Option.bind_some _ _).symm.trans H; rw [hy141]; with_reducible exact H2_) | (have H2_ := (Option.bind_some _ _).symm.trans H; with_reducible exact H2_) | with_reducible exact H | (rw [hy141]; exact H) | exact H
  have Ny141 := YL hy141; clear hy141
  obtain ⟨y144, hy144⟩ : ∃ y_ : List Int, y_ = (([(a0_2) % 256, (a0_3) % 256] : List Int)) := ⟨_, rfl⟩
  replace H : (if y141.length + y144.length < 140737488355328 then ((some (y141 ++ y144 : List Int)).bind fun y147 => ((wire_Int.f a0_4).bind fun t150 => (if y147.length + t150.length < 140737488355328 then ((some (y147 ++ t150 : List Int)).bind fun y153 => (if y153.length < 140737488355328 then (some ((y153 ++ [(a0_5) % 256]), 0)) else (none))) else (none)))) else (none)) = some (r1, r2) := by first | (rw [hy144]; with_reducible exact H) | (have H2_ := (Option.bind_some _ _).symm.trans H; rw [hy144]; with_reducible exact H2_) | (have H2_ := (Option.bind_some _ _).symm.trans H; with_reducible exact H2_) | with_reducible exact H | (rw [hy144]; exact H) | exact H
  have Ny144 := YL hy144; clear hy144
  by_cases c17 : y141.length + y144.length < 140737488355328
  rotate_left
  ·rw [if_neg c17] at H
   exact absurd H (by simp)
  rw [if_pos c17] at H; have LMc17 := YL c17; clear c17
  obtain ⟨y147, hy147⟩ : ∃ y_ : List Int, y_ = (y141 ++ y144) := ⟨_, rfl⟩
  replace H : ((wire_Int.f a0_4).bind fun t150 => (if y147.length + t150.length < 140737488355328 then ((some (y147 ++ t150 : List Int)).bind fun y153 => (if y153.length < 140737488355328 then (some ((y153 ++ [(a0_5) % 256]), 0)) else (none))) else (none))) = some (r1, r2) := by first | (rw [hy147]; with_reducible exact H) | (have H2_ := (Option.bind_some _ _).symm.trans H; rw [hy147]; with_reducible exact H2_) | (have H2_ := (Option.bind_some _ _).symm.trans H; with_reducible exact H2_) | with_reducible exact H | (rw [hy147]; exact H) | exact H
  have Ny147 := YL hy147; clear hy147; replace H := Option.bind_eq_some_iff.mp H; obtain ⟨t150, A180, H⟩ := H
  replace H : (if y147.length + t150.length < 140737488355328 then ((some (y147 ++ t150 : List Int)).bind fun y153 => (if y153.length < 140737488355328 then (some ((y153 ++ [(a0_5) % 256]), 0)) else (none))) else (none)) = some (r1, r2) := H
  have A18 := YL A180; clear A180
  by_cases c19 : y147.length + t150.length < 140737488355328
  rotate_left
  ·rw [if_neg c19] at H
   exact absurd H (by simp)
  rw [if_pos c19] at H; have LMc19 := YL c19; clear c19
  obtain ⟨y153, hy153⟩ : ∃ y_ : List Int, y_ = (y147 ++ t150) := ⟨_, rfl⟩
  replace H : (if y153.length < 140737488355328 then (some ((y153 ++ [(a0_5) % 256]), 0)) else (none)) = some (r1, r2) := by first | (rw [hy153]; with_reducible exact H) | (have H2_ := (Option.bind_some _ _).symm.trans H; rw [hy153]; with_reducible exact H2_) | (have H2_ := (Option.bind_some _ _).symm.trans H; with_reducible exact H2_) | with_reducible exact H | (rw [hy153]; exact H) | exact H
  have Ny153 := YL hy153; clear hy153
  by_cases c20 : y153.length < 140737488355328
  rotate_left
  ·rw [if_neg c20] at H
   exact absurd H (by simp)
  rw [if_pos c20] at H; have LMc20 := YL c20; clear c20
  obtain ⟨y156, hy156⟩ : ∃ y_ : List Int, y_ = (y153 ++ [(a0_5) % 256]) := ⟨_, rfl⟩
  replace H : (some (y156, 0)) = some (r1, r2) := by first | (rw [hy156]; with_reducible exact H) | (have H2_ := (Option.bind_some _ _).symm.trans H; rw [hy156]; with_reducible exact H2_) | (have H2_ := (Option.bind_some _ _).symm.trans H; with_reducible exact H2_) | with_reducible exact H | (rw [hy156]; exact H) | exact H
  have Ny156 := YL hy156; clear hy156
  simp only [Option.some.injEq, Prod.mk.injEq] at H
  obtain ⟨rfl, rfl⟩ := H
  go_enter Try.func15, Try.ntmps15
  try go_wp2_with (first | ((with_reducible refine gate_dst (N := 1) rfl ?_); refine box_event ?hg (N := 1) ?hd (cs := #[.bool false, .int .i64 a0_1, .int .i64 a0_2, .int .i64 a0_3, .int .i64 a0_4, .int .i64 a0_5]) (t := 23) ?hr ?_; (case hd => rfl); (case hg => rfl); (case hr => first | (go_simp; done) | (go_simp; rfl)); intro gb127 hg w21 hbox hb; have n0_ := YL (YD (by repeat (first | (with_reducible first | exact HB.out | apply YA | apply YB | apply YC) | exact HB.out)) hb); have n1_ := YL (hbox); have n2_ := YL ((by rw [hg]; exact (YE (by repeat (first | (with_reducible first | exact HB.out | apply YA | apply YB | apply YC) | exact HB.out))) : w.heap.size ≤ gb127)); have n3_ := YL ((by rw [hg]; exact (YE (by repeat (first | (with_reducible first | exact HB.out | apply YA | apply YB | apply YC) | exact HB.out))) : w.heap.size ≤ gb127)); clear HB; have HB := n0_; have BK127 := n1_; have GW127 := n2_; have GE127 := n3_; clear n0_ n1_ n2_ n3_; clear hb hbox hg; have q22_0 : w21.cell? ⟨gb127, 0, none⟩ = some (.bool false) := (YI BK127.out 0).trans rfl; have q22_1 : w21.cell? ⟨gb127, 1, none⟩ = some (.int .i64 a0_1) := (YI BK127.out 1).trans rfl; have q22_2 : w21.cell? ⟨gb127, 2, none⟩ = some (.int .i64 a0_2) := (YI BK127.out 2).trans rfl; have q22_3 : w21.cell? ⟨gb127, 3, none⟩ = some (.int .i64 a0_3) := (YI BK127.out 3).trans rfl; have q22_4 : w21.cell? ⟨gb127, 4, none⟩ = some (.int .i64 a0_4) := (YI BK127.out 4).trans rfl; have q22_5 : w21.cell? ⟨gb127, 5, none⟩ = some (.int .i64 a0_5) := (YI BK127.out 5).trans rfl; have f22_0 := YJ BK127.out 0; have f22_1 := YJ BK127.out 1; have f22_2 := YJ BK127.out 2; have f22_3 := YJ BK127.out 3; have f22_4 := YJ BK127.out 4; have f22_5 := YJ BK127.out 5) | ((with_reducible refine gate_callee (f := 19) rfl ?_); refine goesL_ (some 7) rfl rfl Try.func19 (by kernel_rfl) rfl #[.agg #[.bool false, .int .i64 a0_1, .int .i64 a0_2, .int .i64 a0_3, .int .i64 a0_4, .int .i64 a0_5]] rfl (by (try simp only [YP, List.map_cons, List.map_nil]); first | done | rfl | (simp only [YR, YQ]; rfl)) ?_; (with_reducible refine (height_Check.calls k false a0_1 a0_2 a0_3 a0_4 a0_5 t128 _ A2.out).mono ?_); rintro e w23 ⟨rfl, hb⟩; refine ⟨_, rfl, ?_⟩; have n0_ := YL (YK (g := gb127) (o := .cells #[.bool false, .int .i64 a0_1, .int .i64 a0_2, .int .i64 a0_3, .int .i64 a0_4, .int .i64 a0_5] 23 (0, 0)) (by (with_reducible repeat (first | refine YF ?_ _ | refine YG ?_ | refine YH ?_ _)); exact BK127.out) hb); have n1_ := YL (YD (by repeat (first | (with_reducible first | exact HB.out | apply YA | apply YB | apply YC | refine below_set ?_ GE127.out) | exact HB.out)) hb); clear BK127; clear HB; have BK127 := n0_; have HB := n1_; clear n0_ n1_; (try clear hb); (try clear hb2); (try clear hk); (try clear hi); have q24_0 : w23.cell? ⟨gb127, 0, none⟩ = some (.bool false) := (YI BK127.out 0).trans rfl; have q24_1 : w23.cell? ⟨gb127, 1, none⟩ = some (.int .i64 a0_1) := (YI BK127.out 1).trans rfl; have q24_2 : w23.cell? ⟨gb127, 2, none⟩ = some (.int .i64 a0_2) := (YI BK127.out 2).trans rfl; have q24_3 : w23.cell? ⟨gb127, 3, none⟩ = some (.int .i64 a0_3) := (YI BK127.out 3).trans rfl; have q24_4 : w23.cell? ⟨gb127, 4, none⟩ = some (.int .i64 a0_4) := (YI BK127.out 4).trans rfl; have q24_5 : w23.cell? ⟨gb127, 5, none⟩ = some (.int .i64 a0_5) := (YI BK127.out 5).trans rfl; have f24_0 := YJ BK127.out 0; have f24_1 := YJ BK127.out 1; have f24_2 := YJ BK127.out 2; have f24_3 := YJ BK127.out 3; have f24_4 := YJ BK127.out 4; have f24_5 := YJ BK127.out 5))
  have n0_ := YL (YG BK127.out)
  have n1_ := YL (YC HB.out)
  clear BK127; clear HB; have BK127 := n0_; have HB := n1_; clear n0_ n1_
  refine start_ (n := 8) (S := fun w' => w'.cell? ⟨gb127, 0, none⟩ = some (.bool false) ∧ w'.cell? ⟨gb127, 1, none⟩ = some (.int .i64 a0_1) ∧ w'.cell? ⟨gb127, 2, none⟩ = some (.int .i64 a0_2) ∧ w'.cell? ⟨gb127, 3, none⟩ = some (.int .i64 a0_3) ∧ w'.cell? ⟨gb127, 4, none⟩ = some (.int .i64 a0_4) ∧ w'.cell? ⟨gb127, 5, none⟩ = some (.int .i64 a0_5)) (ds := []) #[false, false, false, false, false, false, false, false] (by kernel_rfl) rfl rfl ⟨(YI BK127.out 0).trans rfl, (YI BK127.out 1).trans rfl, (YI BK127.out 2).trans rfl, (YI BK127.out 3).trans rfl, (YI BK127.out 4).trans rfl, (YI BK127.out 5).trans rfl⟩ (fun hHeld => ?_); refine with_tabW height_Bytes.tab7 height_Bytes.bits7 (fun HT_ HW_ => ?_)
  generalize w23.drew = w25 at BK127 HB hHeld ⊢
  refine pure_ (i := 0) (N := some 16) (v := ?_) (a' := ?_) #[true, false, false, false, false, false, false, false] rfl rfl (any_of HT_.out (by kernel_rfl)) (fun _ _ _ h => h) (Or.inl ⟨by rfl, ?_⟩) ?_ ?_
  rotate_left
  ·intro w'
   go_simp; with_reducible rfl
  rotate_left
  ·simp only [Act.put, YM, YN, YO, i64_w, i32_w]
   rfl
  refine pure_ (i := 3) (N := some 19) (v := ?_) (a' := ?_) #[true, false, false, true, false, false, false, false] rfl rfl (any_of HT_.out (by kernel_rfl)) (fun _ _ _ h => h) (Or.inl ⟨by rfl, ?_⟩) ?_ ?_
  rotate_left
  ·intro w'
   go_simp; with_reducible rfl
  rotate_left
  ·simp only [Act.put, YM, YN, YO, i64_w, i32_w]
   rfl
  refine take_ (i := 4) (N := some 20) (v := ?_) (a' := ?_) #[true, false, false, true, true, false, false, false] rfl rfl (take_ofW HT_.out HW_.out (by kernel_rfl)) (fun _ _ _ h => h) (Or.inl ⟨by rfl, ?_⟩) hHeld ?_ ?_
  rotate_left
  ·rintro w' ⟨s0, s1, s2, s3, s4, s5⟩
   go_simp; with_reducible rfl
  rotate_left
  ·simp only [Act.put, YM, YN, YO, i64_w, i32_w]
   rfl
  refine one_ (i := 1) (N := some 17) #[true, true, false, true, true, false, false, false] rfl rfl (one_of HT_.out (by kernel_rfl)) (by decide) (fun K hK => ?_)
  refine value_ (w1 := ?_) (v := ?_) (by rfl) rfl ?_ ?_
  rotate_left 2
  ·go_simp
   constructor
   ·rfl
   rfl
  refine hK.out _ _ ⟨(YI (YH BK127.out _) 0).trans rfl, (YI (YH BK127.out _) 1).trans rfl, (YI (YH BK127.out _) 2).trans rfl, (YI (YH BK127.out _) 3).trans rfl, (YI (YH BK127.out _) 4).trans rfl, (YI (YH BK127.out _) 5).trans rfl⟩ (fun hHeld => ?_)
  clear hK K
  refine norm_ (a' := ?_) ?_ ?_
  rotate_left
  ·show Act.put _ (some 17) _ = _
   simp only [Act.put, YM, YN, YO, i64_w, i32_w]
   rfl
  refine one_ (i := 2) (N := some 18) #[true, true, true, true, true, false, false, false] rfl rfl (one_of HT_.out (by kernel_rfl)) (by decide) (fun K hK => ?_)
  refine Kd.R_append_step (Kd.int .u8) (w0 := w) w.heap.size (by rfl) (.tmp 16) (.tmp 17) 28 5 (.int .u8 0) 1 rfl Try.underlying28 info5 rfl (by decide) (by omega) (.slice none 0 0) ([] : List Int) 1 [.int .u8 1] (fun _ => True) (fun _ => False) rfl rfl ?aP (fun _ hk => hk.elim) ?aF ?aO ?aB ?aS ?aL ?_
  (case aP => exact rfl)
  (case aB => exact (by repeat (first | (with_reducible first | exact HB.out | apply YA | apply YB | apply YC | refine below_set ?_ GE127.out) | exact HB.out)))
  (case aF => exact (fun _ _ => trivial))
  (case aO => exact ((Kd.R_nil _ _ _ _ (fun _ => True))))
  (case aS => exact (YE (by repeat (first | (with_reducible first | exact HB.out | apply YA | apply YB | apply YC | refine below_set ?_ GE127.out) | exact HB.out))))
  (case aL => have := LMc14.out; omega)
  intro v136 w26 ho hb hg hat
  rw [← Ny135.out] at ho
  have n0_ := YL (blk_grown (g := gb127) (o := .cells #[.bool false, .int .i64 a0_1, .int .i64 a0_2, .int .i64 a0_3, .int .i64 a0_4, .int .i64 a0_5] 23 (0, 0)) (by (with_reducible repeat (first | refine YF ?_ _ | refine YG ?_ | refine YH ?_ _)); exact BK127.out) hg (by simp [Value.ownBlock]))
  have n1_ := YL (hb)
  have n2_ := YL (ho)
  clear BK127; clear HB; have BK127 := n0_; have HB := n1_; have HO137 := n2_; clear n0_ n1_ n2_; clear ho hb hg hat
  refine hK.out _ _ ⟨(YI BK127.out 0).trans rfl, (YI BK127.out 1).trans rfl, (YI BK127.out 2).trans rfl, (YI BK127.out 3).trans rfl, (YI BK127.out 4).trans rfl, (YI BK127.out 5).trans rfl⟩ (fun hHeld => ?_)
  clear hK K
  refine norm_ (a' := ?_) ?_ ?_
  rotate_left
  ·show Act.put _ (some 18) _ = _
   simp only [Act.put, YM, YN, YO, i64_w, i32_w]
   rfl
  refine one_ (i := 5) (N := some 21) #[true, true, true, true, true, true, false, false] rfl rfl (one_of HT_.out (by kernel_rfl)) (by decide) (fun K hK => ?_)
  refine goes_ Try.func16 (by kernel_rfl) rfl #[.int .i64 a0_1] (by rfl) rfl rfl (by (try simp only [YP, List.map_cons, List.map_nil]); first | done | rfl | (simp only [YR, YQ]; rfl)) ?_
  with_reducible refine (wire_Int.calls a0_1 t138 _ A15.out).mono ?_
  rintro e w27 ⟨v139, rfl, ho0, hb⟩
  refine ⟨_, rfl, ?_⟩
  have n0_ := YL (Kd.R_elder' (by (with_reducible repeat (first | apply YS | apply YT | apply YU)); exact HO137.out) (Kd.R_base ho0) hb)
  have n1_ := YL (Kd.R_lower (Kd.R_new' ho0 (Kd.R_lt (by (with_reducible repeat (first | apply YS | apply YT | apply YU)); exact HO137.out))) (YE (by repeat (first | (with_reducible first | exact HB.out | apply YA | apply YB | apply YC | refine below_set ?_ GE127.out) | exact HB.out))))
  have n2_ := YL (YK (g := gb127) (o := .cells #[.bool false, .int .i64 a0_1, .int .i64 a0_2, .int .i64 a0_3, .int .i64 a0_4, .int .i64 a0_5] 23 (0, 0)) (by (with_reducible repeat (first | refine YF ?_ _ | refine YG ?_ | refine YH ?_ _)); exact BK127.out) hb)
  have n3_ := YL (YD (by repeat (first | (with_reducible first | exact HB.out | apply YA | apply YB | apply YC | refine below_set ?_ GE127.out) | exact HB.out)) hb)
  clear HO137; clear BK127; clear HB; have HO137 := n0_; have HO140 := n1_; have BK127 := n2_; have HB := n3_; clear n0_ n1_ n2_ n3_; (try clear hb); (try clear hb2); (try clear hk); (try clear hi); (try clear ho0)
  obtain ⟨Ao29, co29, eo29⟩ := Kd.R_slice HO140.out
  (first | subst eo29 | (injection eo29 with f1_ f2_ f3_; have f4_ := f1_.symm; have f5_ := f3_.symm; clear f1_ f2_ f3_; subst f4_; subst f5_))
  refine hK.out _ _ ⟨(YI BK127.out 0).trans rfl, (YI BK127.out 1).trans rfl, (YI BK127.out 2).trans rfl, (YI BK127.out 3).trans rfl, (YI BK127.out 4).trans rfl, (YI BK127.out 5).trans rfl⟩ (fun hHeld => ?_)
  clear hK K
  refine norm_ (a' := ?_) ?_ ?_
  rotate_left
  ·show Act.put _ (some 21) _ = _
   simp only [Act.put, YM, YN, YO, i64_w, i32_w]
   rfl
  refine one_ (i := 6) (N := some 22) #[true, true, true, true, true, true, true, false] rfl rfl (one_of HT_.out (by kernel_rfl)) (by decide) (fun K hK => ?_)
  refine Kd.R_append_rows_step (Kd.int .u8) (w0 := w) w.heap.size (by rfl) (.tmp 18) (.tmp 21) 28 5 (.int .u8 0) 1 rfl Try.underlying28 info5 rfl (by decide) (by omega) v136 y135 t138 _ _ _ (fun k_ => some k_ ≠ (.slice Ao29 t138.length co29 : Value).ownBlock) (fun _ => False) rfl rfl ?aO ?aR (fun _ _ h => h) (fun _ h => h.elim) ?aF ?aB ?aS ?aL ?_
  (case aR => repeat (first | exact (Kd.R_reads' HO140.out).2.2 | (with_reducible refine Kd.C_alloc ?_ _) | (with_reducible refine Kd.C_drewN ?_ _) | (with_reducible refine Kd.C_drew ?_)))
  (case aB => exact (by repeat (first | (with_reducible first | exact HB.out | apply YA | apply YB | apply YC | refine below_set ?_ GE127.out) | exact HB.out)))
  (case aF => exact (fun k_ hk => Kd.fresh' (Kd.R_lt (by (with_reducible repeat (first | apply YS | apply YT | apply YU)); exact HO140.out)) k_ hk))
  (case aO => exact (by (with_reducible repeat (first | apply YS | apply YT | apply YU)); exact Kd.R_mono HO137.out (fun _ hk => by first | exact hk.2 | exact trivial | (simp [hk]; done) | simp_all)))
  (case aS => exact (YE (by repeat (first | (with_reducible first | exact HB.out | apply YA | apply YB | apply YC | refine below_set ?_ GE127.out) | exact HB.out))))
  (case aL => have := LMc16.out; omega)
  intro v142 w28 ho hb hg hat
  rw [← Ny141.out] at ho
  have n0_ := YL (blk_grown (g := gb127) (o := .cells #[.bool false, .int .i64 a0_1, .int .i64 a0_2, .int .i64 a0_3, .int .i64 a0_4, .int .i64 a0_5] 23 (0, 0)) (by (with_reducible repeat (first | refine YF ?_ _ | refine YG ?_ | refine YH ?_ _)); exact BK127.out) hg (Kd.R_ne HO137.out BK127.out (by decide)))
  have n1_ := YL (Kd.R_after (ok := (fun _ => True)) (by (with_reducible repeat (first | apply YS | apply YT | apply YU)); exact HO140.out) hg hat)
  have n2_ := YL (hb)
  have n3_ := YL (ho)
  clear BK127; clear HO140; clear HB; clear HO137; have BK127 := n0_; have HO140 := n1_; have HB := n2_; have HO143 := n3_; clear n0_ n1_ n2_ n3_; clear ho hb hg hat
  refine hK.out _ _ ⟨(YI BK127.out 0).trans rfl, (YI BK127.out 1).trans rfl, (YI BK127.out 2).trans rfl, (YI BK127.out 3).trans rfl, (YI BK127.out 4).trans rfl, (YI BK127.out 5).trans rfl⟩ (fun hHeld => ?_)
  clear hK K
  refine norm_ (a' := ?_) ?_ ?_
  rotate_left
  ·show Act.put _ (some 22) _ = _
   simp only [Act.put, YM, YN, YO, i64_w, i32_w]
   rfl
  refine pure_ (i := 7) (N := some 5) (v := ?_) (a' := ?_) #[true, true, true, true, true, true, true, true] rfl rfl (any_of HT_.out (by kernel_rfl)) (fun _ _ _ h => h) (Or.inl ⟨by rfl, ?_⟩) ?_ ?_
  rotate_left
  ·intro w'
   go_simp; with_reducible rfl
  rotate_left
  ·simp only [Act.put, YM, YN, YO, i64_w, i32_w]
   rfl
  refine done_ (done_of HT_.out (by kernel_rfl)) ?_
  try go_wp2
  have n0_ := YL (YU HO140.out)
  have n1_ := YL (YU HO143.out)
  have n2_ := YL (YG BK127.out)
  have n3_ := YL (YC HB.out)
  clear HO140; clear HO143; clear BK127; clear HB; have HO140 := n0_; have HO143 := n1_; have BK127 := n2_; have HB := n3_; clear n0_ n1_ n2_ n3_
  refine start_ (n := 14) (S := fun w' => w'.cell? ⟨gb127, 0, none⟩ = some (.bool false) ∧ w'.cell? ⟨gb127, 1, none⟩ = some (.int .i64 a0_1) ∧ w'.cell? ⟨gb127, 2, none⟩ = some (.int .i64 a0_2) ∧ w'.cell? ⟨gb127, 3, none⟩ = some (.int .i64 a0_3) ∧ w'.cell? ⟨gb127, 4, none⟩ = some (.int .i64 a0_4) ∧ w'.cell? ⟨gb127, 5, none⟩ = some (.int .i64 a0_5)) (ds := []) #[false, false, false, false, false, false, false, false, false, false, false, false, false, false] (by kernel_rfl) rfl rfl ⟨(YI BK127.out 0).trans rfl, (YI BK127.out 1).trans rfl, (YI BK127.out 2).trans rfl, (YI BK127.out 3).trans rfl, (YI BK127.out 4).trans rfl, (YI BK127.out 5).trans rfl⟩ (fun hHeld => ?_); refine with_tabW height_Bytes.tab8 height_Bytes.bits8 (fun HT_ HW_ => ?_)
  generalize w28.drew = w30 at HO140 HO143 BK127 HB hHeld ⊢
  refine pure_ (i := 0) (N := some 23) (v := ?_) (a' := ?_) #[true, false, false, false, false, false, false, false, false, false, false, false, false, false] rfl rfl (any_of HT_.out (by kernel_rfl)) (fun _ _ _ h => h) (Or.inl ⟨by rfl, ?_⟩) ?_ ?_
  rotate_left
  ·intro w'
   go_simp; with_reducible rfl
  rotate_left
  ·simp only [Act.put, YM, YN, YO, i64_w, i32_w]
   rfl
  refine pure_ (i := 1) (N := some 24) (v := ?_) (a' := ?_) #[true, true, false, false, false, false, false, false, false, false, false, false, false, false] rfl rfl (any_of HT_.out (by kernel_rfl)) (fun _ _ _ h => h) (Or.inl ⟨by rfl, ?_⟩) ?_ ?_
  rotate_left
  ·intro w'
   go_simp; with_reducible rfl
  rotate_left
  ·simp only [Act.put, YM, YN, YO, i64_w, i32_w]
   rfl
  refine pure_ (i := 4) (N := some 27) (v := ?_) (a' := ?_) #[true, true, false, false, true, false, false, false, false, false, false, false, false, false] rfl rfl (any_of HT_.out (by kernel_rfl)) (fun _ _ _ h => h) (Or.inl ⟨by rfl, ?_⟩) ?_ ?_
  rotate_left
  ·intro w'
   go_simp; with_reducible rfl
  rotate_left
  ·simp only [Act.put, YM, YN, YO, i64_w, i32_w]
   rfl
  refine pure_ (i := 9) (N := some 32) (v := ?_) (a' := ?_) #[true, true, false, false, true, false, false, false, false, true, false, false, false, false] rfl rfl (any_of HT_.out (by kernel_rfl)) (fun _ _ _ h => h) (Or.inl ⟨by rfl, ?_⟩) ?_ ?_
  rotate_left
  ·intro w'
   go_simp; with_reducible rfl
  rotate_left
  ·simp only [Act.put, YM, YN, YO, i64_w, i32_w]
   rfl
  refine take_ (i := 2) (N := some 25) (v := ?_) (a' := ?_) #[true, true, true, false, true, false, false, false, false, true, false, false, false, false] rfl rfl (take_ofW HT_.out HW_.out (by kernel_rfl)) (fun _ _ _ h => h) (Or.inl ⟨by rfl, ?_⟩) hHeld ?_ ?_
  rotate_left
  ·rintro w' ⟨s0, s1, s2, s3, s4, s5⟩
   go_simp; with_reducible rfl
  rotate_left
  ·simp only [Act.put, YM, YN, YO, i64_w, i32_w]
   rfl
  refine pure_ (i := 3) (N := some 26) (v := ?_) (a' := ?_) #[true, true, true, true, true, false, false, false, false, true, false, false, false, false] rfl rfl (any_of HT_.out (by kernel_rfl)) (fun _ _ _ h => h) (Or.inl ⟨by rfl, ?_⟩) ?_ ?_
  rotate_left
  ·intro w'
   go_simp; with_reducible rfl
  rotate_left
  ·simp only [Act.put, YM, YN, YO, i64_w, i32_w]
   rfl
  refine take_ (i := 5) (N := some 28) (v := ?_) (a' := ?_) #[true, true, true, true, true, true, false, false, false, true, false, false, false, false] rfl rfl (take_ofW HT_.out HW_.out (by kernel_rfl)) (fun _ _ _ h => h) (Or.inl ⟨by rfl, ?_⟩) hHeld ?_ ?_
  rotate_left
  ·rintro w' ⟨s0, s1, s2, s3, s4, s5⟩
   go_simp; with_reducible rfl
  rotate_left
  ·simp only [Act.put, YM, YN, YO, i64_w, i32_w]
   rfl
  refine pure_ (i := 6) (N := some 29) (v := ?_) (a' := ?_) #[true, true, true, true, true, true, true, false, false, true, false, false, false, false] rfl rfl (any_of HT_.out (by kernel_rfl)) (fun _ _ _ h => h) (Or.inl ⟨by rfl, ?_⟩) ?_ ?_
  rotate_left
  ·intro w'
   go_simp; with_reducible rfl
  rotate_left
  ·simp only [Act.put, YM, YN, YO, i64_w, i32_w]
   rfl
  refine take_ (i := 10) (N := some 33) (v := ?_) (a' := ?_) #[true, true, true, true, true, true, true, false, false, true, true, false, false, false] rfl rfl (take_ofW HT_.out HW_.out (by kernel_rfl)) (fun _ _ _ h => h) (Or.inl ⟨by rfl, ?_⟩) hHeld ?_ ?_
  rotate_left
  ·rintro w' ⟨s0, s1, s2, s3, s4, s5⟩
   go_simp; with_reducible rfl
  rotate_left
  ·simp only [Act.put, YM, YN, YO, i64_w, i32_w]
   rfl
  refine one_ (i := 7) (N := some 30) #[true, true, true, true, true, true, true, true, false, true, true, false, false, false] rfl rfl (one_of HT_.out (by kernel_rfl)) (by decide) (fun K hK => ?_)
  refine Kd.R_lit_step (Kd.int .u8) _ 5 ?hg (N := 30) ?hd (xs := ([(a0_2) % 256, (a0_3) % 256] : List Int)) (inner := [.int .u8 ((a0_2) % 256), .int .u8 ((a0_3) % 256)]) (ok := fun _ => True) (okp := fun _ => True) ?hr ?hp (fun _ hk => hk) trivial (Below.refl _ _) (Nat.le_refl _) (by simp) ?_; (case hd => rfl); (case hg => rfl); (case hr => first | (go_simp; done) | (go_simp; rfl)); (case hp => exact (Reps.one (show Kd.M (Kd.int .u8) _ _ _ ((a0_2) % 256) [.int .u8 ((a0_2) % 256)] from rfl) (Reps.one (show Kd.M (Kd.int .u8) _ _ _ ((a0_3) % 256) [.int .u8 ((a0_3) % 256)] from rfl) (Reps.none _ _))))
  intro v145 w31 ho32 hb hg_ hnew_
  clear hg_ hnew_
  (first | rw [← Ny144.out] at ho32 | (simp only [Int.reduceToNat] at ho32; rw [← Ny144.out] at ho32))
  have n0_ := YL (Kd.R_elder' (by (with_reducible repeat (first | apply YS | apply YT | apply YU)); exact HO140.out) (Kd.R_base ho32) hb)
  have n1_ := YL (Kd.R_elder' (by (with_reducible repeat (first | apply YS | apply YT | apply YU)); exact HO143.out) (Kd.R_base ho32) hb)
  have n2_ := YL (Kd.R_lower (Kd.R_new' (Kd.R_new' ho32 (Kd.R_lt (by (with_reducible repeat (first | apply YS | apply YT | apply YU)); exact HO140.out))) (Kd.R_lt (by (with_reducible repeat (first | apply YS | apply YT | apply YU)); exact HO143.out))) (YE (by repeat (first | (with_reducible first | exact HB.out | apply YA | apply YB | apply YC | refine below_set ?_ GE127.out) | exact HB.out))))
  have n3_ := YL (YK (g := gb127) (o := .cells #[.bool false, .int .i64 a0_1, .int .i64 a0_2, .int .i64 a0_3, .int .i64 a0_4, .int .i64 a0_5] 23 (0, 0)) (by (with_reducible repeat (first | refine YF ?_ _ | refine YG ?_ | refine YH ?_ _)); exact BK127.out) hb)
  have n4_ := YL (YD (by repeat (first | (with_reducible first | exact HB.out | apply YA | apply YB | apply YC | refine below_set ?_ GE127.out) | exact HB.out)) hb)
  clear HO140; clear HO143; clear BK127; clear HB; have HO140 := n0_; have HO143 := n1_; have HO146 := n2_; have BK127 := n3_; have HB := n4_; clear n0_ n1_ n2_ n3_ n4_; clear hb ho32
  obtain ⟨Ao34, co34, eo34⟩ := Kd.R_slice HO146.out
  (first | subst eo34 | (injection eo34 with f1_ f2_ f3_; have f4_ := f1_.symm; have f5_ := f3_.symm; clear f1_ f2_ f3_; subst f4_; subst f5_))
  refine hK.out _ _ ⟨(YI BK127.out 0).trans rfl, (YI BK127.out 1).trans rfl, (YI BK127.out 2).trans rfl, (YI BK127.out 3).trans rfl, (YI BK127.out 4).trans rfl, (YI BK127.out 5).trans rfl⟩ (fun hHeld => ?_)
  clear hK K
  refine norm_ (a' := ?_) ?_ ?_
  rotate_left
  ·show Act.put _ (some 30) _ = _
   simp only [Act.put, YM, YN, YO, i64_w, i32_w]
   rfl
  refine one_ (i := 8) (N := some 31) #[true, true, true, true, true, true, true, true, true, true, true, false, false, false] rfl rfl (one_of HT_.out (by kernel_rfl)) (by decide) (fun K hK => ?_)
  refine Kd.R_append_rows_step (Kd.int .u8) (w0 := w) w.heap.size (by rfl) (.tmp 23) (.tmp 30) 28 5 (.int .u8 0) 1 rfl Try.underlying28 info5 rfl (by decide) (by omega) v142 y141 y144 _ _ _ (fun k_ => some k_ ≠ (.slice Ao29 t138.length co29 : Value).ownBlock ∧ some k_ ≠ (.slice Ao34 y144.length co34 : Value).ownBlock) (fun _ => False) rfl rfl ?aO ?aR (fun _ _ h => h) (fun _ h => h.elim) ?aF ?aB ?aS ?aL ?_
  (case aR => repeat (first | exact (Kd.R_reads' HO146.out).2.2 | (with_reducible refine Kd.C_alloc ?_ _) | (with_reducible refine Kd.C_drewN ?_ _) | (with_reducible refine Kd.C_drew ?_)))
  (case aB => exact (by repeat (first | (with_reducible first | exact HB.out | apply YA | apply YB | apply YC | refine below_set ?_ GE127.out) | exact HB.out)))
  (case aF => exact (fun k_ hk => ⟨Kd.fresh' (Kd.R_lt (by (with_reducible repeat (first | apply YS | apply YT | apply YU)); exact HO140.out)) k_ hk, Kd.fresh' (Kd.R_lt (by (with_reducible repeat (first | apply YS | apply YT | apply YU)); exact HO146.out)) k_ hk⟩))
  (case aO => exact (by (with_reducible repeat (first | apply YS | apply YT | apply YU)); exact HO143.out))
  (case aS => exact (YE (by repeat (first | (with_reducible first | exact HB.out | apply YA | apply YB | apply YC | refine below_set ?_ GE127.out) | exact HB.out))))
  (case aL => have := LMc17.out; omega)
  intro v148 w33 ho hb hg hat
  rw [← Ny147.out] at ho
  have n0_ := YL (blk_grown (g := gb127) (o := .cells #[.bool false, .int .i64 a0_1, .int .i64 a0_2, .int .i64 a0_3, .int .i64 a0_4, .int .i64 a0_5] 23 (0, 0)) (by (with_reducible repeat (first | refine YF ?_ _ | refine YG ?_ | refine YH ?_ _)); exact BK127.out) hg (Kd.R_ne HO143.out BK127.out (by decide)))
  have n1_ := YL (Kd.R_after (ok := (fun k_ => some k_ ≠ (.slice Ao34 y144.length co34 : Value).ownBlock)) (by (with_reducible repeat (first | apply YS | apply YT | apply YU)); exact Kd.R_mono HO140.out (fun _ hk => by first | exact ⟨hk.2, hk.1.2⟩ | exact trivial | (simp [hk]; done) | simp_all)) hg hat)
  have n2_ := YL (Kd.R_after (ok := (fun k_ => some k_ ≠ (.slice Ao29 t138.length co29 : Value).ownBlock)) (by (with_reducible repeat (first | apply YS | apply YT | apply YU)); exact Kd.R_mono HO146.out (fun _ hk => by first | exact ⟨hk.1.2, hk.2⟩ | exact trivial | (simp [hk]; done) | simp_all)) hg hat)
  have n3_ := YL (hb)
  have n4_ := YL (ho)
  clear BK127; clear HO140; clear HO146; clear HB; clear HO143; have BK127 := n0_; have HO140 := n1_; have HO146 := n2_; have HB := n3_; have HO149 := n4_; clear n0_ n1_ n2_ n3_ n4_; clear ho hb hg hat
  refine hK.out _ _ ⟨(YI BK127.out 0).trans rfl, (YI BK127.out 1).trans rfl, (YI BK127.out 2).trans rfl, (YI BK127.out 3).trans rfl, (YI BK127.out 4).trans rfl, (YI BK127.out 5).trans rfl⟩ (fun hHeld => ?_)
  clear hK K
  refine norm_ (a' := ?_) ?_ ?_
  rotate_left
  ·show Act.put _ (some 31) _ = _
   simp only [Act.put, YM, YN, YO, i64_w, i32_w]
   rfl
  refine one_ (i := 11) (N := some 34) #[true, true, true, true, true, true, true, true, true, true, true, true, false, false] rfl rfl (one_of HT_.out (by kernel_rfl)) (by decide) (fun K hK => ?_)
  refine goes_ Try.func16 (by kernel_rfl) rfl #[.int .i64 a0_4] (by rfl) rfl rfl (by (try simp only [YP, List.map_cons, List.map_nil]); first | done | rfl | (simp only [YR, YQ]; rfl)) ?_
  with_reducible refine (wire_Int.calls a0_4 t150 _ A18.out).mono ?_
  rintro e w35 ⟨v151, rfl, ho0, hb⟩
  refine ⟨_, rfl, ?_⟩
  have n0_ := YL (Kd.R_elder' (by (with_reducible repeat (first | apply YS | apply YT | apply YU)); exact HO140.out) (Kd.R_base ho0) hb)
  have n1_ := YL (Kd.R_elder' (by (with_reducible repeat (first | apply YS | apply YT | apply YU)); exact HO146.out) (Kd.R_base ho0) hb)
  have n2_ := YL (Kd.R_elder' (by (with_reducible repeat (first | apply YS | apply YT | apply YU)); exact HO149.out) (Kd.R_base ho0) hb)
  have n3_ := YL (Kd.R_lower (Kd.R_new' (Kd.R_new' (Kd.R_new' ho0 (Kd.R_lt (by (with_reducible repeat (first | apply YS | apply YT | apply YU)); exact HO140.out))) (Kd.R_lt (by (with_reducible repeat (first | apply YS | apply YT | apply YU)); exact HO146.out))) (Kd.R_lt (by (with_reducible repeat (first | apply YS | apply YT | apply YU)); exact HO149.out))) (YE (by repeat (first | (with_reducible first | exact HB.out | apply YA | apply YB | apply YC | refine below_set ?_ GE127.out) | exact HB.out))))
  have n4_ := YL (YK (g := gb127) (o := .cells #[.bool false, .int .i64 a0_1, .int .i64 a0_2, .int .i64 a0_3, .int .i64 a0_4, .int .i64 a0_5] 23 (0, 0)) (by (with_reducible repeat (first | refine YF ?_ _ | refine YG ?_ | refine YH ?_ _)); exact BK127.out) hb)
  have n5_ := YL (YD (by repeat (first | (with_reducible first | exact HB.out | apply YA | apply YB | apply YC | refine below_set ?_ GE127.out) | exact HB.out)) hb)
  clear HO140; clear HO146; clear HO149; clear BK127; clear HB; have HO140 := n0_; have HO146 := n1_; have HO149 := n2_; have HO152 := n3_; have BK127 := n4_; have HB := n5_; clear n0_ n1_ n2_ n3_ n4_ n5_; (try clear hb); (try clear hb2); (try clear hk); (try clear hi); (try clear ho0)
  obtain ⟨Ao37, co37, eo37⟩ := Kd.R_slice HO152.out
  (first | subst eo37 | (injection eo37 with f1_ f2_ f3_; have f4_ := f1_.symm; have f5_ := f3_.symm; clear f1_ f2_ f3_; subst f4_; subst f5_))
  refine hK.out _ _ ⟨(YI BK127.out 0).trans rfl, (YI BK127.out 1).trans rfl, (YI BK127.out 2).trans rfl, (YI BK127.out 3).trans rfl, (YI BK127.out 4).trans rfl, (YI BK127.out 5).trans rfl⟩ (fun hHeld => ?_)
  clear hK K
  refine norm_ (a' := ?_) ?_ ?_
  rotate_left
  ·show Act.put _ (some 34) _ = _
   simp only [Act.put, YM, YN, YO, i64_w, i32_w]
   rfl
  refine one_ (i := 12) (N := some 35) #[true, true, true, true, true, true, true, true, true, true, true, true, true, false] rfl rfl (one_of HT_.out (by kernel_rfl)) (by decide) (fun K hK => ?_)
  refine Kd.R_append_rows_step (Kd.int .u8) (w0 := w) w.heap.size (by rfl) (.tmp 31) (.tmp 34) 28 5 (.int .u8 0) 1 rfl Try.underlying28 info5 rfl (by decide) (by omega) v148 y147 t150 _ _ _ (fun k_ => some k_ ≠ (.slice Ao29 t138.length co29 : Value).ownBlock ∧ some k_ ≠ (.slice Ao34 y144.length co34 : Value).ownBlock ∧ some k_ ≠ (.slice Ao37 t150.length co37 : Value).ownBlock) (fun _ => False) rfl rfl ?aO ?aR (fun _ _ h => h) (fun _ h => h.elim) ?aF ?aB ?aS ?aL ?_
  (case aR => repeat (first | exact (Kd.R_reads' HO152.out).2.2 | (with_reducible refine Kd.C_alloc ?_ _) | (with_reducible refine Kd.C_drewN ?_ _) | (with_reducible refine Kd.C_drew ?_)))
  (case aB => exact (by repeat (first | (with_reducible first | exact HB.out | apply YA | apply YB | apply YC | refine below_set ?_ GE127.out) | exact HB.out)))
  (case aF => exact (fun k_ hk => ⟨Kd.fresh' (Kd.R_lt (by (with_reducible repeat (first | apply YS | apply YT | apply YU)); exact HO140.out)) k_ hk, Kd.fresh' (Kd.R_lt (by (with_reducible repeat (first | apply YS | apply YT | apply YU)); exact HO146.out)) k_ hk, Kd.fresh' (Kd.R_lt (by (with_reducible repeat (first | apply YS | apply YT | apply YU)); exact HO152.out)) k_ hk⟩))
  (case aO => exact (by (with_reducible repeat (first | apply YS | apply YT | apply YU)); exact Kd.R_mono HO149.out (fun _ hk => by first | exact ⟨hk.1.1, ⟨hk.1.2, hk.2⟩⟩ | exact trivial | (simp [hk]; done) | simp_all)))
  (case aS => exact (YE (by repeat (first | (with_reducible first | exact HB.out | apply YA | apply YB | apply YC | refine below_set ?_ GE127.out) | exact HB.out))))
  (case aL => have := LMc19.out; omega)
  intro v154 w36 ho hb hg hat
  rw [← Ny153.out] at ho
  have n0_ := YL (blk_grown (g := gb127) (o := .cells #[.bool false, .int .i64 a0_1, .int .i64 a0_2, .int .i64 a0_3, .int .i64 a0_4, .int .i64 a0_5] 23 (0, 0)) (by (with_reducible repeat (first | refine YF ?_ _ | refine YG ?_ | refine YH ?_ _)); exact BK127.out) hg (Kd.R_ne HO149.out BK127.out (by decide)))
  have n1_ := YL (Kd.R_after (ok := (fun k_ => some k_ ≠ (.slice Ao34 y144.length co34 : Value).ownBlock ∧ some k_ ≠ (.slice Ao37 t150.length co37 : Value).ownBlock)) (by (with_reducible repeat (first | apply YS | apply YT | apply YU)); exact Kd.R_mono HO140.out (fun _ hk => by first | exact ⟨⟨hk.1.1, hk.2⟩, hk.1.2⟩ | exact trivial | (simp [hk]; done) | simp_all)) hg hat)
  have n2_ := YL (Kd.R_after (ok := (fun k_ => some k_ ≠ (.slice Ao29 t138.length co29 : Value).ownBlock ∧ some k_ ≠ (.slice Ao37 t150.length co37 : Value).ownBlock)) (by (with_reducible repeat (first | apply YS | apply YT | apply YU)); exact Kd.R_mono HO146.out (fun _ hk => by first | exact ⟨⟨hk.1.1, hk.2⟩, hk.1.2⟩ | exact trivial | (simp [hk]; done) | simp_all)) hg hat)
  have n3_ := YL (Kd.R_after (ok := (fun k_ => some k_ ≠ (.slice Ao29 t138.length co29 : Value).ownBlock ∧ some k_ ≠ (.slice Ao34 y144.length co34 : Value).ownBlock)) (by (with_reducible repeat (first | apply YS | apply YT | apply YU)); exact Kd.R_mono HO152.out (fun _ hk => by first | exact ⟨⟨hk.1.1.2, hk.1.2⟩, hk.2⟩ | exact trivial | (simp [hk]; done) | simp_all)) hg hat)
  have n4_ := YL (hb)
  have n5_ := YL (ho)
  clear BK127; clear HO140; clear HO146; clear HO152; clear HB; clear HO149; have BK127 := n0_; have HO140 := n1_; have HO146 := n2_; have HO152 := n3_; have HB := n4_; have HO155 := n5_; clear n0_ n1_ n2_ n3_ n4_ n5_; clear ho hb hg hat
  refine hK.out _ _ ⟨(YI BK127.out 0).trans rfl, (YI BK127.out 1).trans rfl, (YI BK127.out 2).trans rfl, (YI BK127.out 3).trans rfl, (YI BK127.out 4).trans rfl, (YI BK127.out 5).trans rfl⟩ (fun hHeld => ?_)
  clear hK K
  refine norm_ (a' := ?_) ?_ ?_
  rotate_left
  ·show Act.put _ (some 35) _ = _
   simp only [Act.put, YM, YN, YO, i64_w, i32_w]
   rfl
  refine pure_ (i := 13) (N := some 5) (v := ?_) (a' := ?_) #[true, true, true, true, true, true, true, true, true, true, true, true, true, true] rfl rfl (any_of HT_.out (by kernel_rfl)) (fun _ _ _ h => h) (Or.inl ⟨by rfl, ?_⟩) ?_ ?_
  rotate_left
  ·intro w'
   go_simp; with_reducible rfl
  rotate_left
  ·simp only [Act.put, YM, YN, YO, i64_w, i32_w]
   rfl
  refine done_ (done_of HT_.out (by kernel_rfl)) ?_
  have q38_0 : w36.cell? ⟨gb127, 0, none⟩ = some (.bool false) := (YI BK127.out 0).trans rfl
  have q38_1 : w36.cell? ⟨gb127, 1, none⟩ = some (.int .i64 a0_1) := (YI BK127.out 1).trans rfl
  have q38_2 : w36.cell? ⟨gb127, 2, none⟩ = some (.int .i64 a0_2) := (YI BK127.out 2).trans rfl
  have q38_3 : w36.cell? ⟨gb127, 3, none⟩ = some (.int .i64 a0_3) := (YI BK127.out 3).trans rfl
  have q38_4 : w36.cell? ⟨gb127, 4, none⟩ = some (.int .i64 a0_4) := (YI BK127.out 4).trans rfl
  have q38_5 : w36.cell? ⟨gb127, 5, none⟩ = some (.int .i64 a0_5) := (YI BK127.out 5).trans rfl
  have f38_0 := YJ BK127.out 0
  have f38_1 := YJ BK127.out 1
  have f38_2 := YJ BK127.out 2
  have f38_3 := YJ BK127.out 3
  have f38_4 := YJ BK127.out 4
  have f38_5 := YJ BK127.out 5
  try go_wp2_with (first | ((with_reducible refine gate_builtin (b := .append) (xs := #[.tmp 36, .tmp 40]) rfl ?_); at_builtin; refine Kd.R_append (Kd.int .u8) (w0 := w) w.heap.size rfl (.tmp 36) (.tmp 40) 28 5 (.int .u8 0) 1 rfl Try.underlying28 info5 rfl (by decide) (by omega) v154 y153 ((a0_5) % 256) [.int .u8 ((a0_5) % 256)] (fun k_ => some k_ ≠ (.slice Ao29 t138.length co29 : Value).ownBlock ∧ some k_ ≠ (.slice Ao34 y144.length co34 : Value).ownBlock ∧ some k_ ≠ (.slice Ao37 t150.length co37 : Value).ownBlock) (fun _ => False) rfl rfl ?aP (fun _ hk => hk.elim) ?aF ?aO ?aB ?aS ?aL ?_; (case aP => exact rfl); (case aB => exact (by repeat (first | (with_reducible first | exact HB.out | apply YA | apply YB | apply YC | refine below_set ?_ GE127.out) | exact HB.out))); (case aF => exact (fun k_ hk => ⟨Kd.fresh' (Kd.R_lt (by (with_reducible repeat (first | apply YS | apply YT | apply YU)); exact HO140.out)) k_ hk, Kd.fresh' (Kd.R_lt (by (with_reducible repeat (first | apply YS | apply YT | apply YU)); exact HO146.out)) k_ hk, Kd.fresh' (Kd.R_lt (by (with_reducible repeat (first | apply YS | apply YT | apply YU)); exact HO152.out)) k_ hk⟩)); (case aO => exact (by (with_reducible repeat (first | apply YS | apply YT | apply YU)); exact HO155.out)); (case aS => exact (YE (by repeat (first | (with_reducible first | exact HB.out | apply YA | apply YB | apply YC | refine below_set ?_ GE127.out) | exact HB.out)))); (case aL => have := LMc20.out; omega); intro v157 w39 ho hb hg hat; rw [← Ny156.out] at ho; have n0_ := YL (blk_grown (g := gb127) (o := .cells #[.bool false, .int .i64 a0_1, .int .i64 a0_2, .int .i64 a0_3, .int .i64 a0_4, .int .i64 a0_5] 23 (0, 0)) (by (with_reducible repeat (first | refine YF ?_ _ | refine YG ?_ | refine YH ?_ _)); exact BK127.out) hg (Kd.R_ne HO155.out BK127.out (by decide))); have n1_ := YL (Kd.R_after (ok := (fun k_ => some k_ ≠ (.slice Ao34 y144.length co34 : Value).ownBlock ∧ some k_ ≠ (.slice Ao37 t150.length co37 : Value).ownBlock)) (by (with_reducible repeat (first | apply YS | apply YT | apply YU)); exact HO140.out) hg hat); have n2_ := YL (Kd.R_after (ok := (fun k_ => some k_ ≠ (.slice Ao29 t138.length co29 : Value).ownBlock ∧ some k_ ≠ (.slice Ao37 t150.length co37 : Value).ownBlock)) (by (with_reducible repeat (first | apply YS | apply YT | apply YU)); exact HO146.out) hg hat); have n3_ := YL (Kd.R_after (ok := (fun k_ => some k_ ≠ (.slice Ao29 t138.length co29 : Value).ownBlock ∧ some k_ ≠ (.slice Ao34 y144.length co34 : Value).ownBlock)) (by (with_reducible repeat (first | apply YS | apply YT | apply YU)); exact HO152.out) hg hat); have n4_ := YL (hb); have n5_ := YL (ho); clear BK127; clear HO140; clear HO146; clear HO152; clear HB; clear HO155; have BK127 := n0_; have HO140 := n1_; have HO146 := n2_; have HO152 := n3_; have HB := n4_; have HO158 := n5_; clear n0_ n1_ n2_ n3_ n4_ n5_; clear ho hb hg hat))
  go_ret2
  exact ⟨_, by first | rfl | (simp [errW_none, errW_some] <;> rfl) | (simp [*, errW_none, errW_some] <;> rfl), by (with_reducible repeat (first | apply YS | apply YT | apply YU)); exact Kd.R_mono HO158.out (fun _ hk => trivial), by repeat (first | (with_reducible first | exact HB.out | apply YA | apply YB | apply YC | refine below_set ?_ GE127.out) | exact HB.out)⟩
 rw [if_neg c3] at H
 have c3b0 : (t128 == 0) = false := beq_eq_false_iff_ne.mpr c3
 have c3b1 : (t128 != 0) = true := bne_iff_ne.mpr c3
 simp only [Option.some.injEq, Prod.mk.injEq] at H
 obtain ⟨rfl, rfl⟩ := H
 go_enter Try.func15, Try.ntmps15
 go_wp2_with (first | ((with_reducible refine gate_dst (N := 1) rfl ?_); refine box_event ?hg (N := 1) ?hd (cs := #[.bool a0_0, .int .i64 a0_1, .int .i64 a0_2, .int .i64 a0_3, .int .i64 a0_4, .int .i64 a0_5]) (t := 23) ?hr ?_; (case hd => rfl); (case hg => rfl); (case hr => first | (go_simp; done) | (go_simp; rfl)); intro gb127 hg w40 hbox hb; have n0_ := YL (YD (by repeat (first | (with_reducible first | exact HB.out | apply YA | apply YB | apply YC) | exact HB.out)) hb); have n1_ := YL (hbox); have n2_ := YL ((by rw [hg]; exact (YE (by repeat (first | (with_reducible first | exact HB.out | apply YA | apply YB | apply YC) | exact HB.out))) : w.heap.size ≤ gb127)); have n3_ := YL ((by rw [hg]; exact (YE (by repeat (first | (with_reducible first | exact HB.out | apply YA | apply YB | apply YC) | exact HB.out))) : w.heap.size ≤ gb127)); clear HB; have HB := n0_; have BK127 := n1_; have GW127 := n2_; have GE127 := n3_; clear n0_ n1_ n2_ n3_; clear hb hbox hg; have q41_0 : w40.cell? ⟨gb127, 0, none⟩ = some (.bool a0_0) := (YI BK127.out 0).trans rfl; have q41_1 : w40.cell? ⟨gb127, 1, none⟩ = some (.int .i64 a0_1) := (YI BK127.out 1).trans rfl; have q41_2 : w40.cell? ⟨gb127, 2, none⟩ = some (.int .i64 a0_2) := (YI BK127.out 2).trans rfl; have q41_3 : w40.cell? ⟨gb127, 3, none⟩ = some (.int .i64 a0_3) := (YI BK127.out 3).trans rfl; have q41_4 : w40.cell? ⟨gb127, 4, none⟩ = some (.int .i64 a0_4) := (YI BK127.out 4).trans rfl; have q41_5 : w40.cell? ⟨gb127, 5, none⟩ = some (.int .i64 a0_5) := (YI BK127.out 5).trans rfl; have f41_0 := YJ BK127.out 0; have f41_1 := YJ BK127.out 1; have f41_2 := YJ BK127.out 2; have f41_3 := YJ BK127.out 3; have f41_4 := YJ BK127.out 4; have f41_5 := YJ BK127.out 5) | ((with_reducible refine gate_callee (f := 19) rfl ?_); refine goesL_ (some 7) rfl rfl Try.func19 (by kernel_rfl) rfl #[.agg #[.bool a0_0, .int .i64 a0_1, .int .i64 a0_2, .int .i64 a0_3, .int .i64 a0_4, .int .i64 a0_5]] rfl (by (try simp only [YP, List.map_cons, List.map_nil]); first | done | rfl | (simp only [YR, YQ]; rfl)) ?_; (with_reducible refine (height_Check.calls k a0_0 a0_1 a0_2 a0_3 a0_4 a0_5 t128 _ A2.out).mono ?_); rintro e w42 ⟨rfl, hb⟩; refine ⟨_, rfl, ?_⟩; have n0_ := YL (YK (g := gb127) (o := .cells #[.bool a0_0, .int .i64 a0_1, .int .i64 a0_2, .int .i64 a0_3, .int .i64 a0_4, .int .i64 a0_5] 23 (0, 0)) (by (with_reducible repeat (first | refine YF ?_ _ | refine YG ?_ | refine YH ?_ _)); exact BK127.out) hb); have n1_ := YL (YD (by repeat (first | (with_reducible first | exact HB.out | apply YA | apply YB | apply YC | refine below_set ?_ GE127.out) | exact HB.out)) hb); clear BK127; clear HB; have BK127 := n0_; have HB := n1_; clear n0_ n1_; (try clear hb); (try clear hb2); (try clear hk); (try clear hi)))
 go_ret2
 exact ⟨_, by first | rfl | (simp [errW_none, errW_some] <;> rfl) | (simp [*, errW_none, errW_some] <;> rfl), by first | exact Kd.R_nil _ _ _ _ _ | exact Kd.N_nil _ _ _ _ _ | exact Kd.V_nil _ _ _ _ _ | exact Kd.Q_nil _ _ _ _ _ | exact Kd.S_nil _ _ _ _ _, by repeat (first | (with_reducible first | exact HB.out | apply YA | apply YB | apply YC | refine below_set ?_ GE127.out) | exact HB.out)⟩
def object_Bytes.j0 : Nat → List Int → Int → Bool → Int → Int → Bool → Int → Int → Int → Int → Int → Int → Int → Int → Int → Option (List Int × Int)
 | 0, _, _, _, _, _, _, _, _, _, _, _, _, _, _, _ => none
 | k + 1, x5, x21, x22, x160000, x160001, x160002, x160003, x160004, x160005, x160006, x160007, x160008, x160009, x160010, x160011 => if x22 = true then ((height_Bytes.f k x160002 x160003 x160004 x160005 x160006 x160007).bind fun bt164 => (if bt164.2 = 0 then (if x5.length + bt164.1.length < 140737488355328 then ((some (x5 ++ bt164.1 : List Int)).bind fun y168 => (if x160000 = 4 then ((some (([(x160011 / 256) % 256, (x160011) % 256] : List Int) : List Int)).bind fun y171 => (if y168.length + y171.length < 140737488355328 then (some ((y168 ++ y171), 0)) else (none))) else (some (y168, 0)))) else (none)) else (some (([] : List Int), bt164.2)))) else (if x21 = 3 then ((wire_Int.f x160008).bind fun t177 => (if x5.length + t177.length < 140737488355328 then ((some (x5 ++ t177 : List Int)).bind fun y180 => ((some (([(x160009) % 256, (x160010) % 256] : List Int) : List Int)).bind fun y183 => (if y180.length + y183.length < 140737488355328 then ((some (y180 ++ y183 : List Int)).bind fun y186 => (if x160000 = 4 then ((some (([(x160011 / 256) % 256, (x160011) % 256] : List Int) : List Int)).bind fun y189 => (if y186.length + y189.length < 140737488355328 then (some ((y186 ++ y189), 0)) else (none))) else (some (y186, 0)))) else (none)))) else (none))) else (if x160000 = 4 then ((some (([(x160011 / 256) % 256, (x160011) % 256] : List Int) : List Int)).bind fun y195 => (if x5.length + y195.length < 140737488355328 then (some ((x5 ++ y195), 0)) else (none))) else (some (x5, 0))))
def object_Bytes.f (k : Nat) (a0_0 : Int) (a0_1 : Int) (a0_2 : Bool) (a0_3 : Int) (a0_4 : Int) (a0_5 : Int) (a0_6 : Int) (a0_7 : Int) (a0_8 : Int) (a0_9 : Int) (a0_10 : Int) (a0_11 : Int) : Option (List Int × Int) := (object_Check.f k a0_0 a0_1 a0_2 a0_3 a0_4 a0_5 a0_6 a0_7 a0_8 a0_9 a0_10 a0_11).bind fun t160 => (if t160 = 0 then ((some (([(a0_0) % 256, (a0_1) % 256] : List Int) : List Int)).bind fun y161 => (if a0_0 = 2 then (object_Bytes.j0 k y161 a0_0 (a0_0 == 2) a0_0 a0_1 a0_2 a0_3 a0_4 a0_5 a0_6 a0_7 a0_8 a0_9 a0_10 a0_11) else (object_Bytes.j0 k y161 a0_0 (a0_0 == 4) a0_0 a0_1 a0_2 a0_3 a0_4 a0_5 a0_6 a0_7 a0_8 a0_9 a0_10 a0_11))) else (some (([] : List Int), t160)))
theorem object_Bytes.mono_l : ∀ k, (∀ y0 y1 y2 y3 y4 y5 y6 y7 y8 y9 y10 y11 y12 y13 y14, LeO (object_Bytes.j0 k y0 y1 y2 y3 y4 y5 y6 y7 y8 y9 y10 y11 y12 y13 y14) (object_Bytes.j0 (k + 1) y0 y1 y2 y3 y4 y5 y6 y7 y8 y9 y10 y11 y12 y13 y14))
 | 0 => fun _ _ _ _ _ _ _ _ _ _ _ _ _ _ _ r h => by simp [object_Bytes.j0] at h
 | k + 1 => by
  have ih0 := object_Bytes.mono_l k
  ·intro y0 y1 y2 y3 y4 y5 y6 y7 y8 y9 y10 y11 y12 y13 y14
   unfold object_Bytes.j0
   repeat' first
   | (with_reducible exact ih0 _ _ _ _ _ _ _ _ _ _ _ _ _ _ _)
   | (with_reducible exact height_Bytes.mono _ _ _ _ _ _ _)
   | (with_reducible exact object_Check.mono _ _ _ _ _ _ _ _ _ _ _ _ _)
   | (with_reducible exact LeO.refl _)
   | (with_reducible exact LeO.none _)
   | (with_reducible refine LeO.ite ?_ ?_)
   | (with_reducible refine LeO.bind ?_ (fun _ => ?_))
   | exact ih0 _ _ _ _ _ _ _ _ _ _ _ _ _ _ _
   | exact height_Bytes.mono _ _ _ _ _ _ _
   | exact object_Check.mono _ _ _ _ _ _ _ _ _ _ _ _ _
   | exact LeO.none _
   | refine LeO.ite ?_ ?_
   | refine LeO.bind ?_ (fun _ => ?_)
theorem object_Bytes.mono : ∀ a0 a1 a2 a3 a4 a5 a6 a7 a8 a9 a10 a11 k, LeO (object_Bytes.f k a0 a1 a2 a3 a4 a5 a6 a7 a8 a9 a10 a11) (object_Bytes.f (k + 1) a0 a1 a2 a3 a4 a5 a6 a7 a8 a9 a10 a11) := by
 intro a0 a1 a2 a3 a4 a5 a6 a7 a8 a9 a10 a11 k
 have ih0 := object_Bytes.mono_l k
 unfold object_Bytes.f
 repeat' first
   | (with_reducible exact ih0 _ _ _ _ _ _ _ _ _ _ _ _ _ _ _)
   | (with_reducible exact height_Bytes.mono _ _ _ _ _ _ _)
   | (with_reducible exact object_Check.mono _ _ _ _ _ _ _ _ _ _ _ _ _)
   | (with_reducible exact LeO.refl _)
   | (with_reducible exact LeO.none _)
   | (with_reducible refine LeO.ite ?_ ?_)
   | (with_reducible refine LeO.bind ?_ (fun _ => ?_))
   | exact ih0 _ _ _ _ _ _ _ _ _ _ _ _ _ _ _
   | exact height_Bytes.mono _ _ _ _ _ _ _
   | exact object_Check.mono _ _ _ _ _ _ _ _ _ _ _ _ _
   | exact LeO.none _
   | refine LeO.ite ?_ ?_
   | refine LeO.bind ?_ (fun _ => ?_)
def object_Bytes.T13 : Bool × List (List Nat × List Nat) := (true, [([], []), ([], []), ([1], [1]), ([2], [2]), ([3], [3]), ([0, 4, 4], [0, 4]), ([], []), ([6], [6]), ([7], [7]), ([8], [8]), ([], []), ([10], [10]), ([11], [11]), ([12], [12]), ([9, 13], [9, 13]), ([5, 14, 5], [5, 14]), ([15, 15, 0, 1, 2, 3, 4, 5, 6, 7, 8, 9, 10, 11, 12, 13, 14, 15], [0, 15])])
def object_Bytes.B13 : List Nat := [0, 0, 2, 6, 14, 31, 0, 64, 192, 448, 0, 1024, 3072, 7168, 16320, 32767, 65535]
theorem object_Bytes.tab13 : rtab .any (opsOf Try.f7 13) = object_Bytes.T13 := by kernel_rfl
theorem object_Bytes.bits13 : waitsOk object_Bytes.T13.2 object_Bytes.B13 = true := by kernel_rfl
theorem object_Bytes.calls (k : Nat) (a0_0 : Int) (a0_1 : Int) (a0_2 : Bool) (a0_3 : Int) (a0_4 : Int) (a0_5 : Int) (a0_6 : Int) (a0_7 : Int) (a0_8 : Int) (a0_9 : Int) (a0_10 : Int) (a0_11 : Int) (r1 : List Int) (r2 : Int) (w : World) (h : object_Bytes.f k a0_0 a0_1 a0_2 a0_3 a0_4 a0_5 a0_6 a0_7 a0_8 a0_9 a0_10 a0_11 = some (r1, r2)) :
  Calls Try.prog 7 #[.agg #[.int .i64 a0_0, .int .i64 a0_1, .bool a0_2, .int .i64 a0_3, .int .i64 a0_4, .int .i64 a0_5, .int .i64 a0_6, .int .i64 a0_7, .int .i64 a0_8, .int .i64 a0_9, .int .i64 a0_10, .int .i64 a0_11]] w fun e w' => ∃ v0_ : Value, e = .returned (.tuple #[v0_, .int .i64 r2]) ∧ Kd.R (Kd.int .u8) 5 w' w.heap.size (fun _ => True) v0_ r1 ∧ Below w.heap.size w w' := by
 have hu27 := Try.underlying27
 have hu23 := Try.underlying23
 have HB := YL (Below.refl w.heap.size w)
 have H : ((object_Check.f k a0_0 a0_1 a0_2 a0_3 a0_4 a0_5 a0_6 a0_7 a0_8 a0_9 a0_10 a0_11).bind fun t160 => (if t160 = 0 then ((some (([(a0_0) % 256, (a0_1) % 256] : List Int) : List Int)).bind fun y161 => (if a0_0 = 2 then (object_Bytes.j0 k y161 a0_0 (a0_0 == 2) a0_0 a0_1 a0_2 a0_3 a0_4 a0_5 a0_6 a0_7 a0_8 a0_9 a0_10 a0_11) else (object_Bytes.j0 k y161 a0_0 (a0_0 == 4) a0_0 a0_1 a0_2 a0_3 a0_4 a0_5 a0_6 a0_7 a0_8 a0_9 a0_10 a0_11))) else (some (([] : List Int), t160)))) = some (r1, r2) := h
 clear h; replace H := Option.bind_eq_some_iff.mp H; obtain ⟨t160, A20, H⟩ := H
 replace H : (if t160 = 0 then ((some (([(a0_0) % 256, (a0_1) % 256] : List Int) : List Int)).bind fun y161 => (if a0_0 = 2 then (object_Bytes.j0 k y161 a0_0 (a0_0 == 2) a0_0 a0_1 a0_2 a0_3 a0_4 a0_5 a0_6 a0_7 a0_8 a0_9 a0_10 a0_11) else (object_Bytes.j0 k y161 a0_0 (a0_0 == 4) a0_0 a0_1 a0_2 a0_3 a0_4 a0_5 a0_6 a0_7 a0_8 a0_9 a0_10 a0_11))) else (some (([] : List Int), t160))) = some (r1, r2) := H
 have A2 := YL A20; clear A20
 by_cases c3 : t160 = 0
 ·rw [if_pos c3] at H
  have c3b0 : (t160 == 0) = true := beq_iff_eq.mpr c3
  have c3b1 : (t160 != 0) = false := bne_eq_false_iff_eq.mpr c3
  clear c3
  obtain ⟨y161, hy161⟩ : ∃ y_ : List Int, y_ = (([(a0_0) % 256, (a0_1) % 256] : List Int)) := ⟨_, rfl⟩
  replace H : (if a0_0 = 2 then (object_Bytes.j0 k y161 a0_0 (a0_0 == 2) a0_0 a0_1 a0_2 a0_3 a0_4 a0_5 a0_6 a0_7 a0_8 a0_9 a0_10 a0_11) else (object_Bytes.j0 k y161 a0_0 (a0_0 == 4) a0_0 a0_1 a0_2 a0_3 a0_4 a0_5 a0_6 a0_7 a0_8 a0_9 a0_10 a0_11)) = some (r1, r2) := by first | (rw [hy161]; with_reducible exact H) | (have H2_ := (Option.bind_some _ _).symm.trans H; rw [hy161]; with_reducible exact H2_) | (have H2_ := (Option.bind_some _ _).symm.trans H; with_reducible exact H2_) | with_reducible exact H | (rw [hy161]; exact H) | exact H
  have Ny161 := YL hy161; clear hy161; have HC4 := YL H; clear H
  go_enter Try.func7, Try.ntmps7
  go_upto_if 22 with (first | ((with_reducible refine gate_dst (N := 1) rfl ?_); refine box_event ?hg (N := 1) ?hd (cs := #[.int .i64 a0_0, .int .i64 a0_1, .bool a0_2, .int .i64 a0_3, .int .i64 a0_4, .int .i64 a0_5, .int .i64 a0_6, .int .i64 a0_7, .int .i64 a0_8, .int .i64 a0_9, .int .i64 a0_10, .int .i64 a0_11]) (t := 27) ?hr ?_; (case hd => rfl); (case hg => rfl); (case hr => first | (go_simp; done) | (go_simp; rfl)); intro gb159 hg w5 hbox hb; have n0_ := YL (YD (by repeat (first | (with_reducible first | exact HB.out | apply YA | apply YB | apply YC) | exact HB.out)) hb); have n1_ := YL (hbox); have n2_ := YL ((by rw [hg]; exact (YE (by repeat (first | (with_reducible first | exact HB.out | apply YA | apply YB | apply YC) | exact HB.out))) : w.heap.size ≤ gb159)); have n3_ := YL ((by rw [hg]; exact (YE (by repeat (first | (with_reducible first | exact HB.out | apply YA | apply YB | apply YC) | exact HB.out))) : w.heap.size ≤ gb159)); clear HB; have HB := n0_; have BK159 := n1_; have GW159 := n2_; have GE159 := n3_; clear n0_ n1_ n2_ n3_; clear hb hbox hg; have q6_0 : w5.cell? ⟨gb159, 0, none⟩ = some (.int .i64 a0_0) := (YI BK159.out 0).trans rfl; have q6_1 : w5.cell? ⟨gb159, 1, none⟩ = some (.int .i64 a0_1) := (YI BK159.out 1).trans rfl; have q6_2 : w5.cell? ⟨gb159, 2, none⟩ = some (.bool a0_2) := (YI BK159.out 2).trans rfl; have q6_3 : w5.cell? ⟨gb159, 3, none⟩ = some (.int .i64 a0_3) := (YI BK159.out 3).trans rfl; have q6_4 : w5.cell? ⟨gb159, 4, none⟩ = some (.int .i64 a0_4) := (YI BK159.out 4).trans rfl; have q6_5 : w5.cell? ⟨gb159, 5, none⟩ = some (.int .i64 a0_5) := (YI BK159.out 5).trans rfl; have q6_6 : w5.cell? ⟨gb159, 6, none⟩ = some (.int .i64 a0_6) := (YI BK159.out 6).trans rfl; have q6_7 : w5.cell? ⟨gb159, 7, none⟩ = some (.int .i64 a0_7) := (YI BK159.out 7).trans rfl; have q6_8 : w5.cell? ⟨gb159, 8, none⟩ = some (.int .i64 a0_8) := (YI BK159.out 8).trans rfl; have q6_9 : w5.cell? ⟨gb159, 9, none⟩ = some (.int .i64 a0_9) := (YI BK159.out 9).trans rfl; have q6_10 : w5.cell? ⟨gb159, 10, none⟩ = some (.int .i64 a0_10) := (YI BK159.out 10).trans rfl; have q6_11 : w5.cell? ⟨gb159, 11, none⟩ = some (.int .i64 a0_11) := (YI BK159.out 11).trans rfl; have f6_0 := YJ BK159.out 0; have f6_1 := YJ BK159.out 1; have f6_2 := YJ BK159.out 2; have f6_3 := YJ BK159.out 3; have f6_4 := YJ BK159.out 4; have f6_5 := YJ BK159.out 5; have f6_6 := YJ BK159.out 6; have f6_7 := YJ BK159.out 7; have f6_8 := YJ BK159.out 8; have f6_9 := YJ BK159.out 9; have f6_10 := YJ BK159.out 10; have f6_11 := YJ BK159.out 11) | ((with_reducible refine gate_callee (f := 10) rfl ?_); refine goesL_ (some 9) rfl rfl Try.func10 (by kernel_rfl) rfl #[.agg #[.int .i64 a0_0, .int .i64 a0_1, .bool a0_2, .int .i64 a0_3, .int .i64 a0_4, .int .i64 a0_5, .int .i64 a0_6, .int .i64 a0_7, .int .i64 a0_8, .int .i64 a0_9, .int .i64 a0_10, .int .i64 a0_11]] rfl (by (try simp only [YP, List.map_cons, List.map_nil]); first | done | rfl | (simp only [YR, YQ]; rfl)) ?_; (with_reducible refine (object_Check.calls k a0_0 a0_1 a0_2 a0_3 a0_4 a0_5 a0_6 a0_7 a0_8 a0_9 a0_10 a0_11 t160 _ A2.out).mono ?_); rintro e w7 ⟨rfl, hb⟩; refine ⟨_, rfl, ?_⟩; have n0_ := YL (YK (g := gb159) (o := .cells #[.int .i64 a0_0, .int .i64 a0_1, .bool a0_2, .int .i64 a0_3, .int .i64 a0_4, .int .i64 a0_5, .int .i64 a0_6, .int .i64 a0_7, .int .i64 a0_8, .int .i64 a0_9, .int .i64 a0_10, .int .i64 a0_11] 27 (0, 0)) (by (with_reducible repeat (first | refine YF ?_ _ | refine YG ?_ | refine YH ?_ _)); exact BK159.out) hb); have n1_ := YL (YD (by repeat (first | (with_reducible first | exact HB.out | apply YA | apply YB | apply YC | refine below_set ?_ GE159.out) | exact HB.out)) hb); clear BK159; clear HB; have BK159 := n0_; have HB := n1_; clear n0_ n1_; (try clear hb); (try clear hb2); (try clear hk); (try clear hi); have q8_0 : w7.cell? ⟨gb159, 0, none⟩ = some (.int .i64 a0_0) := (YI BK159.out 0).trans rfl; have q8_1 : w7.cell? ⟨gb159, 1, none⟩ = some (.int .i64 a0_1) := (YI BK159.out 1).trans rfl; have q8_2 : w7.cell? ⟨gb159, 2, none⟩ = some (.bool a0_2) := (YI BK159.out 2).trans rfl; have q8_3 : w7.cell? ⟨gb159, 3, none⟩ = some (.int .i64 a0_3) := (YI BK159.out 3).trans rfl; have q8_4 : w7.cell? ⟨gb159, 4, none⟩ = some (.int .i64 a0_4) := (YI BK159.out 4).trans rfl; have q8_5 : w7.cell? ⟨gb159, 5, none⟩ = some (.int .i64 a0_5) := (YI BK159.out 5).trans rfl; have q8_6 : w7.cell? ⟨gb159, 6, none⟩ = some (.int .i64 a0_6) := (YI BK159.out 6).trans rfl; have q8_7 : w7.cell? ⟨gb159, 7, none⟩ = some (.int .i64 a0_7) := (YI BK159.out 7).trans rfl; have q8_8 : w7.cell? ⟨gb159, 8, none⟩ = some (.int .i64 a0_8) := (YI BK159.out 8).trans rfl; have q8_9 : w7.cell? ⟨gb159, 9, none⟩ = some (.int .i64 a0_9) := (YI BK159.out 9).trans rfl; have q8_10 : w7.cell? ⟨gb159, 10, none⟩ = some (.int .i64 a0_10) := (YI BK159.out 10).trans rfl; have q8_11 : w7.cell? ⟨gb159, 11, none⟩ = some (.int .i64 a0_11) := (YI BK159.out 11).trans rfl; have f8_0 := YJ BK159.out 0; have f8_1 := YJ BK159.out 1; have f8_2 := YJ BK159.out 2; have f8_3 := YJ BK159.out 3; have f8_4 := YJ BK159.out 4; have f8_5 := YJ BK159.out 5; have f8_6 := YJ BK159.out 6; have f8_7 := YJ BK159.out 7; have f8_8 := YJ BK159.out 8; have f8_9 := YJ BK159.out 9; have f8_10 := YJ BK159.out 10; have f8_11 := YJ BK159.out 11) | ((with_reducible refine gate_dst (N := 19) rfl ?_); refine Kd.R_lit (Kd.int .u8) _ 5 ?hg (N := 19) ?hd (xs := ([(a0_0) % 256, (a0_1) % 256] : List Int)) (inner := [.int .u8 ((a0_0) % 256), .int .u8 ((a0_1) % 256)]) (ok := fun _ => True) (okp := fun _ => True) ?hr ?hp (fun _ hk => hk) trivial (Below.refl _ _) (Nat.le_refl _) (by simp) ?_; (case hd => rfl); (case hg => rfl); (case hr => first | (go_simp; done) | (go_simp; rfl)); (case hp => exact (Reps.one (show Kd.M (Kd.int .u8) _ _ _ ((a0_0) % 256) [.int .u8 ((a0_0) % 256)] from rfl) (Reps.one (show Kd.M (Kd.int .u8) _ _ _ ((a0_1) % 256) [.int .u8 ((a0_1) % 256)] from rfl) (Reps.none _ _)))); intro v162 w9 ho10 hb hg_ hnew_; clear hg_ hnew_; (first | rw [← Ny161.out] at ho10 | (simp only [Int.reduceToNat] at ho10; rw [← Ny161.out] at ho10)); have n0_ := YL (Kd.R_lower ho10 (YE (by repeat (first | (with_reducible first | exact HB.out | apply YA | apply YB | apply YC | refine below_set ?_ GE159.out) | exact HB.out)))); have n1_ := YL (YK (g := gb159) (o := .cells #[.int .i64 a0_0, .int .i64 a0_1, .bool a0_2, .int .i64 a0_3, .int .i64 a0_4, .int .i64 a0_5, .int .i64 a0_6, .int .i64 a0_7, .int .i64 a0_8, .int .i64 a0_9, .int .i64 a0_10, .int .i64 a0_11] 27 (0, 0)) (by (with_reducible repeat (first | refine YF ?_ _ | refine YG ?_ | refine YH ?_ _)); exact BK159.out) hb); have n2_ := YL (YD (by repeat (first | (with_reducible first | exact HB.out | apply YA | apply YB | apply YC | refine below_set ?_ GE159.out) | exact HB.out)) hb); clear BK159; clear HB; have HO163 := n0_; have BK159 := n1_; have HB := n2_; clear n0_ n1_ n2_; clear hb ho10; have q11_0 : w9.cell? ⟨gb159, 0, none⟩ = some (.int .i64 a0_0) := (YI BK159.out 0).trans rfl; have q11_1 : w9.cell? ⟨gb159, 1, none⟩ = some (.int .i64 a0_1) := (YI BK159.out 1).trans rfl; have q11_2 : w9.cell? ⟨gb159, 2, none⟩ = some (.bool a0_2) := (YI BK159.out 2).trans rfl; have q11_3 : w9.cell? ⟨gb159, 3, none⟩ = some (.int .i64 a0_3) := (YI BK159.out 3).trans rfl; have q11_4 : w9.cell? ⟨gb159, 4, none⟩ = some (.int .i64 a0_4) := (YI BK159.out 4).trans rfl; have q11_5 : w9.cell? ⟨gb159, 5, none⟩ = some (.int .i64 a0_5) := (YI BK159.out 5).trans rfl; have q11_6 : w9.cell? ⟨gb159, 6, none⟩ = some (.int .i64 a0_6) := (YI BK159.out 6).trans rfl; have q11_7 : w9.cell? ⟨gb159, 7, none⟩ = some (.int .i64 a0_7) := (YI BK159.out 7).trans rfl; have q11_8 : w9.cell? ⟨gb159, 8, none⟩ = some (.int .i64 a0_8) := (YI BK159.out 8).trans rfl; have q11_9 : w9.cell? ⟨gb159, 9, none⟩ = some (.int .i64 a0_9) := (YI BK159.out 9).trans rfl; have q11_10 : w9.cell? ⟨gb159, 10, none⟩ = some (.int .i64 a0_10) := (YI BK159.out 10).trans rfl; have q11_11 : w9.cell? ⟨gb159, 11, none⟩ = some (.int .i64 a0_11) := (YI BK159.out 11).trans rfl; have f11_0 := YJ BK159.out 0; have f11_1 := YJ BK159.out 1; have f11_2 := YJ BK159.out 2; have f11_3 := YJ BK159.out 3; have f11_4 := YJ BK159.out 4; have f11_5 := YJ BK159.out 5; have f11_6 := YJ BK159.out 6; have f11_7 := YJ BK159.out 7; have f11_8 := YJ BK159.out 8; have f11_9 := YJ BK159.out 9; have f11_10 := YJ BK159.out 10; have f11_11 := YJ BK159.out 11))
  (try simp only [Act.put, YM, YN, YO])
  go_cut [22] (fun v22 wc => ∃ (kq : Nat) (x22_3 : Bool), v22 = .bool x22_3 ∧ Aside0 (object_Bytes.j0 kq y161 a0_0 x22_3 a0_0 a0_1 a0_2 a0_3 a0_4 a0_5 a0_6 a0_7 a0_8 a0_9 a0_10 a0_11 = some (r1, r2)) ∧ Aside0 (kq ≤ k) ∧ Aside0 (Kd.R (Kd.int .u8) 5 wc w.heap.size (fun _ => True) v162 y161) ∧ Aside0 (wc.heap[gb159]? = some (.cells #[.int .i64 a0_0, .int .i64 a0_1, .bool a0_2, .int .i64 a0_3, .int .i64 a0_4, .int .i64 a0_5, .int .i64 a0_6, .int .i64 a0_7, .int .i64 a0_8, .int .i64 a0_9, .int .i64 a0_10, .int .i64 a0_11] 27 (0, 0))) ∧ Aside0 (Below w.heap.size w wc))
  case first =>
   have H := HC4.out
   clear HC4
   by_cases c12 : a0_0 = 2
   ·rw [if_pos c12] at H
    have c12b0 : (a0_0 == 2) = true := beq_iff_eq.mpr c12
    have c12b1 : (a0_0 != 2) = false := bne_eq_false_iff_eq.mpr c12
    clear c12
    (first | rw [c12b0] | (simp only [i64_w, i32_w]; rw [c12b0]) | rw [c12b1] | skip)
    have H' := YL H
    clear H
    go_wp2
    go_meet
    case rel => exact ⟨_, ((a0_0 == 2)), (by first | rfl | (simp; done) | (simp [*]; done)), H', ⟨by first | omega | exact Nat.le_refl _⟩, ⟨by (with_reducible repeat (first | apply YS | apply YT | apply YU)); exact HO163.out⟩, ⟨by (with_reducible repeat (first | refine YF ?_ _ | refine YG ?_ | refine YH ?_ _)); exact BK159.out⟩, ⟨by repeat (first | (with_reducible first | exact HB.out | apply YA | apply YB | apply YC | refine below_set ?_ GE159.out) | exact HB.out)⟩⟩
   rw [if_neg c12] at H
   have c12b0 : (a0_0 == 2) = false := beq_eq_false_iff_ne.mpr c12
   have c12b1 : (a0_0 != 2) = true := bne_iff_ne.mpr c12
   (first | rw [c12b0] | (simp only [i64_w, i32_w]; rw [c12b0]) | rw [c12b1] | skip)
   have H' := YL H
   clear H
   go_wp2
   go_meet
   case rel => exact ⟨_, ((a0_0 == 4)), (by first | rfl | (simp; done) | (simp [*]; done)), H', ⟨by first | omega | exact Nat.le_refl _⟩, ⟨by (with_reducible repeat (first | apply YS | apply YT | apply YU)); exact HO163.out⟩, ⟨by (with_reducible repeat (first | refine YF ?_ _ | refine YG ?_ | refine YH ?_ _)); exact BK159.out⟩, ⟨by repeat (first | (with_reducible first | exact HB.out | apply YA | apply YB | apply YC | refine below_set ?_ GE159.out) | exact HB.out)⟩⟩
  case rest =>
   clear HC4
   try clear c1; try clear p2
   try clear c3; try clear c3b0
   try clear c3b1; try clear c7
   try clear c10; try clear c12
   try clear c12b0; try clear c12b1
   try clear q11_0; try clear q11_1
   try clear q11_10; try clear q11_11
   try clear q11_2; try clear q11_3
   try clear q11_4; try clear q11_5
   try clear q11_6; try clear q11_7
   try clear q11_8; try clear q11_9
   try clear q6_0; try clear q6_1
   try clear q6_10; try clear q6_11
   try clear q6_2; try clear q6_3
   try clear q6_4; try clear q6_5
   try clear q6_6; try clear q6_7
   try clear q6_8; try clear q6_9
   try clear q8_0; try clear q8_1
   try clear q8_10; try clear q8_11
   try clear q8_2; try clear q8_3
   try clear q8_4; try clear q8_5
   try clear q8_6; try clear q8_7
   try clear q8_8; try clear q8_9
   try clear f11_0; try clear f11_1
   try clear f11_10; try clear f11_11
   try clear f11_2; try clear f11_3
   try clear f11_4; try clear f11_5
   try clear f11_6; try clear f11_7
   try clear f11_8; try clear f11_9
   try clear f6_0; try clear f6_1
   try clear f6_10; try clear f6_11
   try clear f6_2; try clear f6_3
   try clear f6_4; try clear f6_5
   try clear f6_6; try clear f6_7
   try clear f6_8; try clear f6_9
   try clear f8_0; try clear f8_1
   try clear f8_10; try clear f8_11
   try clear f8_2; try clear f8_3
   try clear f8_4; try clear f8_5
   try clear f8_6; try clear f8_7
   try clear f8_8; try clear f8_9
   obtain ⟨kq, x22_3, rfl, HA, HJ3, HO_5, BK159, HB⟩ := hcut
   cases kq with
   | zero => exact absurd HA.out (by simp [object_Bytes.j0])
   | succ kj3 =>
    have H := HA.out
    clear HA
    simp only [object_Bytes.j0] at H
    by_cases c13 : x22_3 = true
    ·subst c13
     have H1 : ((height_Bytes.f kj3 a0_2 a0_3 a0_4 a0_5 a0_6 a0_7).bind fun bt164 => (if bt164.2 = 0 then (if y161.length + bt164.1.length < 140737488355328 then ((some (y161 ++ bt164.1 : List Int)).bind fun y168 => (if a0_0 = 4 then ((some (([(a0_11 / 256) % 256, (a0_11) % 256] : List Int) : List Int)).bind fun y171 => (if y168.length + y171.length < 140737488355328 then (some ((y168 ++ y171), 0)) else (none))) else (some (y168, 0)))) else (none)) else (some (([] : List Int), bt164.2)))) = some (r1, r2) := by rw [if_pos rfl] at H; exact H
     clear H
     have H := H1
     clear H1; replace H := Option.bind_eq_some_iff.mp H
     obtain ⟨⟨t164, t167⟩, A140, H⟩ := H
     replace H : (if t167 = 0 then (if y161.length + t164.length < 140737488355328 then ((some (y161 ++ t164 : List Int)).bind fun y168 => (if a0_0 = 4 then ((some (([(a0_11 / 256) % 256, (a0_11) % 256] : List Int) : List Int)).bind fun y171 => (if y168.length + y171.length < 140737488355328 then (some ((y168 ++ y171), 0)) else (none))) else (some (y168, 0)))) else (none)) else (some (([] : List Int), t167))) = some (r1, r2) := H
     have A14 := YL A140; clear A140
     by_cases c15 : t167 = 0
     ·rw [if_pos c15] at H
      have c15b0 : (t167 == 0) = true := beq_iff_eq.mpr c15
      have c15b1 : (t167 != 0) = false := bne_eq_false_iff_eq.mpr c15
      clear c15
      by_cases c16 : y161.length + t164.length < 140737488355328
      rotate_left
      ·rw [if_neg c16] at H
       exact absurd H (by simp)
      rw [if_pos c16] at H; have LMc16 := YL c16; clear c16
      obtain ⟨y168, hy168⟩ : ∃ y_ : List Int, y_ = (y161 ++ t164) := ⟨_, rfl⟩
      replace H : (if a0_0 = 4 then ((some (([(a0_11 / 256) % 256, (a0_11) % 256] : List Int) : List Int)).bind fun y171 => (if y168.length + y171.length < 140737488355328 then (some ((y168 ++ y171), 0)) else (none))) else (some (y168, 0))) = some (r1, r2) := by first | (rw [hy168]; with_reducible exact H) | (have H2_ := (Option.bind_some _ _).symm.trans H; rw [hy168]; with_reducible exact H2_) | (have H2_ := (Option.bind_some _ _).symm.trans H; with_reducible exact H2_) | with_reducible exact H | (rw [hy168]; exact H) | exact H
      have Ny168 := YL hy168; clear hy168
      by_cases c17 : a0_0 = 4
      ·rw [if_pos c17] at H
       have c17b0 : (a0_0 == 4) = true := beq_iff_eq.mpr c17
       have c17b1 : (a0_0 != 4) = false := bne_eq_false_iff_eq.mpr c17
       clear c17
       obtain ⟨y171, hy171⟩ : ∃ y_ : List Int, y_ = (([(a0_11 / 256) % 256, (a0_11) % 256] : List Int)) := ⟨_, rfl⟩
       replace H : (if y168.length + y171.length < 140737488355328 then (some ((y168 ++ y171), 0)) else (none)) = some (r1, r2) := by first | (rw [hy171]; with_reducible exact H) | (have H2_ := (Option.bind_some _ _).symm.trans H; rw [hy171]; with_reducible exact H2_) | (have H2_ := (Option.bind_some _ _).symm.trans H; with_reducible exact H2_) | with_reducible exact H | (rw [hy171]; exact H) | exact H
       have Ny171 := YL hy171; clear hy171
       by_cases c18 : y168.length + y171.length < 140737488355328
       rotate_left
       ·rw [if_neg c18] at H
        exact absurd H (by simp)
       rw [if_pos c18] at H; have LMc18 := YL c18; clear c18
       obtain ⟨y174, hy174⟩ : ∃ y_ : List Int, y_ = (y168 ++ y171) := ⟨_, rfl⟩
       replace H : (some (y174, 0)) = some (r1, r2) := by first | (rw [hy174]; with_reducible exact H) | (have H2_ := (Option.bind_some _ _).symm.trans H; rw [hy174]; with_reducible exact H2_) | (have H2_ := (Option.bind_some _ _).symm.trans H; with_reducible exact H2_) | with_reducible exact H | (rw [hy174]; exact H) | exact H
       have Ny174 := YL hy174; clear hy174
       simp only [Option.some.injEq, Prod.mk.injEq] at H
       obtain ⟨rfl, rfl⟩ := H
       have q19_0 : wc.cell? ⟨gb159, 0, none⟩ = some (.int .i64 a0_0) := (YI BK159.out 0).trans rfl
       have q19_1 : wc.cell? ⟨gb159, 1, none⟩ = some (.int .i64 a0_1) := (YI BK159.out 1).trans rfl
       have q19_2 : wc.cell? ⟨gb159, 2, none⟩ = some (.bool a0_2) := (YI BK159.out 2).trans rfl
       have q19_3 : wc.cell? ⟨gb159, 3, none⟩ = some (.int .i64 a0_3) := (YI BK159.out 3).trans rfl
       have q19_4 : wc.cell? ⟨gb159, 4, none⟩ = some (.int .i64 a0_4) := (YI BK159.out 4).trans rfl
       have q19_5 : wc.cell? ⟨gb159, 5, none⟩ = some (.int .i64 a0_5) := (YI BK159.out 5).trans rfl
       have q19_6 : wc.cell? ⟨gb159, 6, none⟩ = some (.int .i64 a0_6) := (YI BK159.out 6).trans rfl
       have q19_7 : wc.cell? ⟨gb159, 7, none⟩ = some (.int .i64 a0_7) := (YI BK159.out 7).trans rfl
       have q19_8 : wc.cell? ⟨gb159, 8, none⟩ = some (.int .i64 a0_8) := (YI BK159.out 8).trans rfl
       have q19_9 : wc.cell? ⟨gb159, 9, none⟩ = some (.int .i64 a0_9) := (YI BK159.out 9).trans rfl
       have q19_10 : wc.cell? ⟨gb159, 10, none⟩ = some (.int .i64 a0_10) := (YI BK159.out 10).trans rfl
       have q19_11 : wc.cell? ⟨gb159, 11, none⟩ = some (.int .i64 a0_11) := (YI BK159.out 11).trans rfl
       have f19_0 := YJ BK159.out 0
       have f19_1 := YJ BK159.out 1
       have f19_2 := YJ BK159.out 2
       have f19_3 := YJ BK159.out 3
       have f19_4 := YJ BK159.out 4
       have f19_5 := YJ BK159.out 5
       have f19_6 := YJ BK159.out 6
       have f19_7 := YJ BK159.out 7
       have f19_8 := YJ BK159.out 8
       have f19_9 := YJ BK159.out 9
       have f19_10 := YJ BK159.out 10
       have f19_11 := YJ BK159.out 11
       go_wp2_with (first | ((with_reducible refine gate_callee (f := 15) rfl ?_); refine goesL_ (some 28) rfl rfl Try.func15 (by kernel_rfl) rfl #[.agg #[.bool a0_2, .int .i64 a0_3, .int .i64 a0_4, .int .i64 a0_5, .int .i64 a0_6, .int .i64 a0_7]] rfl (by (try simp only [YP, List.map_cons, List.map_nil]); first | done | rfl | (simp only [YR, YQ]; rfl)) ?_; (with_reducible refine (height_Bytes.calls kj3 a0_2 a0_3 a0_4 a0_5 a0_6 a0_7 t164 t167 _ A14.out).mono ?_); rintro e w20 ⟨v165, rfl, ho0, hb⟩; refine ⟨_, rfl, ?_⟩; have n0_ := YL (Kd.R_elder' (by (with_reducible repeat (first | apply YS | apply YT | apply YU)); exact HO_5.out) (Kd.R_base ho0) hb); have n1_ := YL (Kd.R_lower (Kd.R_new' ho0 (Kd.R_lt (by (with_reducible repeat (first | apply YS | apply YT | apply YU)); exact HO_5.out))) (YE (by repeat (first | (with_reducible first | exact HB.out | apply YA | apply YB | apply YC | refine below_set ?_ GE159.out) | exact HB.out)))); have n2_ := YL (YK (g := gb159) (o := .cells #[.int .i64 a0_0, .int .i64 a0_1, .bool a0_2, .int .i64 a0_3, .int .i64 a0_4, .int .i64 a0_5, .int .i64 a0_6, .int .i64 a0_7, .int .i64 a0_8, .int .i64 a0_9, .int .i64 a0_10, .int .i64 a0_11] 27 (0, 0)) (by (with_reducible repeat (first | refine YF ?_ _ | refine YG ?_ | refine YH ?_ _)); exact BK159.out) hb); have n3_ := YL (YD (by repeat (first | (with_reducible first | exact HB.out | apply YA | apply YB | apply YC | refine below_set ?_ GE159.out) | exact HB.out)) hb); clear HO_5; clear BK159; clear HB; have HO_5 := n0_; have HO166 := n1_; have BK159 := n2_; have HB := n3_; clear n0_ n1_ n2_ n3_; (try clear hb); (try clear hb2); (try clear hk); (try clear hi); (try clear ho0); obtain ⟨Ao22, co22, eo22⟩ := Kd.R_slice HO166.out; subst eo22) | ((with_reducible refine gate_builtin (b := .append) (xs := #[.tmp 34, .tmp 35]) rfl ?_); at_builtin; refine Kd.R_append_rows (Kd.int .u8) (w0 := w) w.heap.size rfl (.tmp 34) (.tmp 35) 28 5 (.int .u8 0) 1 rfl Try.underlying28 info5 rfl (by decide) (by omega) v162 y161 t164 _ _ _ (fun k_ => some k_ ≠ (.slice Ao22 t164.length co22 : Value).ownBlock) (fun _ => False) rfl rfl ?aO ?aR (fun _ _ h => h) (fun _ h => h.elim) ?aF ?aB ?aS ?aL ?_; (case aR => repeat (first | exact (Kd.R_reads' HO166.out).2.2 | (with_reducible refine Kd.C_alloc ?_ _) | (with_reducible refine Kd.C_drewN ?_ _) | (with_reducible refine Kd.C_drew ?_))); (case aB => exact (by repeat (first | (with_reducible first | exact HB.out | apply YA | apply YB | apply YC | refine below_set ?_ GE159.out) | exact HB.out))); (case aF => exact (fun k_ hk => Kd.fresh' (Kd.R_lt (by (with_reducible repeat (first | apply YS | apply YT | apply YU)); exact HO166.out)) k_ hk)); (case aO => exact (by (with_reducible repeat (first | apply YS | apply YT | apply YU)); exact Kd.R_mono HO_5.out (fun _ hk => by first | exact hk.2 | exact trivial | (simp [hk]; done) | simp_all))); (case aS => exact (YE (by repeat (first | (with_reducible first | exact HB.out | apply YA | apply YB | apply YC | refine below_set ?_ GE159.out) | exact HB.out)))); (case aL => have := LMc16.out; omega); intro v169 w21 ho hb hg hat; rw [← Ny168.out] at ho; have n0_ := YL (blk_grown (g := gb159) (o := .cells #[.int .i64 a0_0, .int .i64 a0_1, .bool a0_2, .int .i64 a0_3, .int .i64 a0_4, .int .i64 a0_5, .int .i64 a0_6, .int .i64 a0_7, .int .i64 a0_8, .int .i64 a0_9, .int .i64 a0_10, .int .i64 a0_11] 27 (0, 0)) (by (with_reducible repeat (first | refine YF ?_ _ | refine YG ?_ | refine YH ?_ _)); exact BK159.out) hg (Kd.R_ne HO_5.out BK159.out (by decide))); have n1_ := YL (Kd.R_after (ok := (fun _ => True)) (by (with_reducible repeat (first | apply YS | apply YT | apply YU)); exact HO166.out) hg hat); have n2_ := YL (hb); have n3_ := YL (ho); clear BK159; clear HO166; clear HB; clear HO_5; have BK159 := n0_; have HO166 := n1_; have HB := n2_; have HO170 := n3_; clear n0_ n1_ n2_ n3_; clear ho hb hg hat; have q23_0 : w21.cell? ⟨gb159, 0, none⟩ = some (.int .i64 a0_0) := (YI BK159.out 0).trans rfl; have q23_1 : w21.cell? ⟨gb159, 1, none⟩ = some (.int .i64 a0_1) := (YI BK159.out 1).trans rfl; have q23_2 : w21.cell? ⟨gb159, 2, none⟩ = some (.bool a0_2) := (YI BK159.out 2).trans rfl; have q23_3 : w21.cell? ⟨gb159, 3, none⟩ = some (.int .i64 a0_3) := (YI BK159.out 3).trans rfl; have q23_4 : w21.cell? ⟨gb159, 4, none⟩ = some (.int .i64 a0_4) := (YI BK159.out 4).trans rfl; have q23_5 : w21.cell? ⟨gb159, 5, none⟩ = some (.int .i64 a0_5) := (YI BK159.out 5).trans rfl; have q23_6 : w21.cell? ⟨gb159, 6, none⟩ = some (.int .i64 a0_6) := (YI BK159.out 6).trans rfl; have q23_7 : w21.cell? ⟨gb159, 7, none⟩ = some (.int .i64 a0_7) := (YI BK159.out 7).trans rfl; have q23_8 : w21.cell? ⟨gb159, 8, none⟩ = some (.int .i64 a0_8) := (YI BK159.out 8).trans rfl; have q23_9 : w21.cell? ⟨gb159, 9, none⟩ = some (.int .i64 a0_9) := (YI BK159.out 9).trans rfl; have q23_10 : w21.cell? ⟨gb159, 10, none⟩ = some (.int .i64 a0_10) := (YI BK159.out 10).trans rfl; have q23_11 : w21.cell? ⟨gb159, 11, none⟩ = some (.int .i64 a0_11) := (YI BK159.out 11).trans rfl; have f23_0 := YJ BK159.out 0; have f23_1 := YJ BK159.out 1; have f23_2 := YJ BK159.out 2; have f23_3 := YJ BK159.out 3; have f23_4 := YJ BK159.out 4; have f23_5 := YJ BK159.out 5; have f23_6 := YJ BK159.out 6; have f23_7 := YJ BK159.out 7; have f23_8 := YJ BK159.out 8; have f23_9 := YJ BK159.out 9; have f23_10 := YJ BK159.out 10; have f23_11 := YJ BK159.out 11) | ((with_reducible refine gate_dst (N := 66) rfl ?_); refine Kd.R_lit (Kd.int .u8) _ 5 ?hg (N := 66) ?hd (xs := ([(a0_11 / 256) % 256, (a0_11) % 256] : List Int)) (inner := [.int .u8 ((a0_11 / 256) % 256), .int .u8 ((a0_11) % 256)]) (ok := fun _ => True) (okp := fun _ => True) ?hr ?hp (fun _ hk => hk) trivial (Below.refl _ _) (Nat.le_refl _) (by simp) ?_; (case hd => rfl); (case hg => rfl); (case hr => first | (go_simp; done) | (go_simp; rfl)); (case hp => exact (Reps.one (show Kd.M (Kd.int .u8) _ _ _ ((a0_11 / 256) % 256) [.int .u8 ((a0_11 / 256) % 256)] from rfl) (Reps.one (show Kd.M (Kd.int .u8) _ _ _ ((a0_11) % 256) [.int .u8 ((a0_11) % 256)] from rfl) (Reps.none _ _)))); intro v172 w24 ho25 hb hg_ hnew_; clear hg_ hnew_; (first | rw [← Ny171.out] at ho25 | (simp only [Int.reduceToNat] at ho25; rw [← Ny171.out] at ho25)); have n0_ := YL (Kd.R_elder' (by (with_reducible repeat (first | apply YS | apply YT | apply YU)); exact HO166.out) (Kd.R_base ho25) hb); have n1_ := YL (Kd.R_elder' (by (with_reducible repeat (first | apply YS | apply YT | apply YU)); exact HO170.out) (Kd.R_base ho25) hb); have n2_ := YL (Kd.R_lower (Kd.R_new' (Kd.R_new' ho25 (Kd.R_lt (by (with_reducible repeat (first | apply YS | apply YT | apply YU)); exact HO166.out))) (Kd.R_lt (by (with_reducible repeat (first | apply YS | apply YT | apply YU)); exact HO170.out))) (YE (by repeat (first | (with_reducible first | exact HB.out | apply YA | apply YB | apply YC | refine below_set ?_ GE159.out) | exact HB.out)))); have n3_ := YL (YK (g := gb159) (o := .cells #[.int .i64 a0_0, .int .i64 a0_1, .bool a0_2, .int .i64 a0_3, .int .i64 a0_4, .int .i64 a0_5, .int .i64 a0_6, .int .i64 a0_7, .int .i64 a0_8, .int .i64 a0_9, .int .i64 a0_10, .int .i64 a0_11] 27 (0, 0)) (by (with_reducible repeat (first | refine YF ?_ _ | refine YG ?_ | refine YH ?_ _)); exact BK159.out) hb); have n4_ := YL (YD (by repeat (first | (with_reducible first | exact HB.out | apply YA | apply YB | apply YC | refine below_set ?_ GE159.out) | exact HB.out)) hb); clear HO166; clear HO170; clear BK159; clear HB; have HO166 := n0_; have HO170 := n1_; have HO173 := n2_; have BK159 := n3_; have HB := n4_; clear n0_ n1_ n2_ n3_ n4_; clear hb ho25; obtain ⟨Ao27, co27, eo27⟩ := Kd.R_slice HO173.out; subst eo27) | ((with_reducible refine gate_builtin (b := .append) (xs := #[.tmp 58, .tmp 66]) rfl ?_); at_builtin; refine Kd.R_append_rows (Kd.int .u8) (w0 := w) w.heap.size rfl (.tmp 58) (.tmp 66) 28 5 (.int .u8 0) 1 rfl Try.underlying28 info5 rfl (by decide) (by omega) v169 y168 y171 _ _ _ (fun k_ => some k_ ≠ (.slice Ao22 t164.length co22 : Value).ownBlock ∧ some k_ ≠ (.slice Ao27 y171.length co27 : Value).ownBlock) (fun _ => False) rfl rfl ?aO ?aR (fun _ _ h => h) (fun _ h => h.elim) ?aF ?aB ?aS ?aL ?_; (case aR => repeat (first | exact (Kd.R_reads' HO173.out).2.2 | (with_reducible refine Kd.C_alloc ?_ _) | (with_reducible refine Kd.C_drewN ?_ _) | (with_reducible refine Kd.C_drew ?_))); (case aB => exact (by repeat (first | (with_reducible first | exact HB.out | apply YA | apply YB | apply YC | refine below_set ?_ GE159.out) | exact HB.out))); (case aF => exact (fun k_ hk => ⟨Kd.fresh' (Kd.R_lt (by (with_reducible repeat (first | apply YS | apply YT | apply YU)); exact HO166.out)) k_ hk, Kd.fresh' (Kd.R_lt (by (with_reducible repeat (first | apply YS | apply YT | apply YU)); exact HO173.out)) k_ hk⟩)); (case aO => exact (by (with_reducible repeat (first | apply YS | apply YT | apply YU)); exact HO170.out)); (case aS => exact (YE (by repeat (first | (with_reducible first | exact HB.out | apply YA | apply YB | apply YC | refine below_set ?_ GE159.out) | exact HB.out)))); (case aL => have := LMc18.out; omega); intro v175 w26 ho hb hg hat; rw [← Ny174.out] at ho; have n0_ := YL (blk_grown (g := gb159) (o := .cells #[.int .i64 a0_0, .int .i64 a0_1, .bool a0_2, .int .i64 a0_3, .int .i64 a0_4, .int .i64 a0_5, .int .i64 a0_6, .int .i64 a0_7, .int .i64 a0_8, .int .i64 a0_9, .int .i64 a0_10, .int .i64 a0_11] 27 (0, 0)) (by (with_reducible repeat (first | refine YF ?_ _ | refine YG ?_ | refine YH ?_ _)); exact BK159.out) hg (Kd.R_ne HO170.out BK159.out (by decide))); have n1_ := YL (Kd.R_after (ok := (fun k_ => some k_ ≠ (.slice Ao27 y171.length co27 : Value).ownBlock)) (by (with_reducible repeat (first | apply YS | apply YT | apply YU)); exact Kd.R_mono HO166.out (fun _ hk => by first | exact ⟨hk.2, hk.1.2⟩ | exact trivial | (simp [hk]; done) | simp_all)) hg hat); have n2_ := YL (Kd.R_after (ok := (fun k_ => some k_ ≠ (.slice Ao22 t164.length co22 : Value).ownBlock)) (by (with_reducible repeat (first | apply YS | apply YT | apply YU)); exact Kd.R_mono HO173.out (fun _ hk => by first | exact ⟨hk.1.2, hk.2⟩ | exact trivial | (simp [hk]; done) | simp_all)) hg hat); have n3_ := YL (hb); have n4_ := YL (ho); clear BK159; clear HO166; clear HO173; clear HB; clear HO170; have BK159 := n0_; have HO166 := n1_; have HO173 := n2_; have HB := n3_; have HO176 := n4_; clear n0_ n1_ n2_ n3_ n4_; clear ho hb hg hat))
       go_ret2
       exact ⟨_, by first | rfl | (simp [errW_none, errW_some] <;> rfl) | (simp [*, errW_none, errW_some] <;> rfl), by (with_reducible repeat (first | apply YS | apply YT | apply YU)); exact Kd.R_mono HO176.out (fun _ hk => trivial), by repeat (first | (with_reducible first | exact HB.out | apply YA | apply YB | apply YC | refine below_set ?_ GE159.out) | exact HB.out)⟩
      rw [if_neg c17] at H
      have c17b0 : (a0_0 == 4) = false := beq_eq_false_iff_ne.mpr c17
      have c17b1 : (a0_0 != 4) = true := bne_iff_ne.mpr c17
      simp only [Option.some.injEq, Prod.mk.injEq] at H
      obtain ⟨rfl, rfl⟩ := H
      have q28_0 : wc.cell? ⟨gb159, 0, none⟩ = some (.int .i64 a0_0) := (YI BK159.out 0).trans rfl
      have q28_1 : wc.cell? ⟨gb159, 1, none⟩ = some (.int .i64 a0_1) := (YI BK159.out 1).trans rfl
      have q28_2 : wc.cell? ⟨gb159, 2, none⟩ = some (.bool a0_2) := (YI BK159.out 2).trans rfl
      have q28_3 : wc.cell? ⟨gb159, 3, none⟩ = some (.int .i64 a0_3) := (YI BK159.out 3).trans rfl
      have q28_4 : wc.cell? ⟨gb159, 4, none⟩ = some (.int .i64 a0_4) := (YI BK159.out 4).trans rfl
      have q28_5 : wc.cell? ⟨gb159, 5, none⟩ = some (.int .i64 a0_5) := (YI BK159.out 5).trans rfl
      have q28_6 : wc.cell? ⟨gb159, 6, none⟩ = some (.int .i64 a0_6) := (YI BK159.out 6).trans rfl
      have q28_7 : wc.cell? ⟨gb159, 7, none⟩ = some (.int .i64 a0_7) := (YI BK159.out 7).trans rfl
      have q28_8 : wc.cell? ⟨gb159, 8, none⟩ = some (.int .i64 a0_8) := (YI BK159.out 8).trans rfl
      have q28_9 : wc.cell? ⟨gb159, 9, none⟩ = some (.int .i64 a0_9) := (YI BK159.out 9).trans rfl
      have q28_10 : wc.cell? ⟨gb159, 10, none⟩ = some (.int .i64 a0_10) := (YI BK159.out 10).trans rfl
      have q28_11 : wc.cell? ⟨gb159, 11, none⟩ = some (.int .i64 a0_11) := (YI BK159.out 11).trans rfl
      have f28_0 := YJ BK159.out 0
      have f28_1 := YJ BK159.out 1
      have f28_2 := YJ BK159.out 2
      have f28_3 := YJ BK159.out 3
      have f28_4 := YJ BK159.out 4
      have f28_5 := YJ BK159.out 5
      have f28_6 := YJ BK159.out 6
      have f28_7 := YJ BK159.out 7
      have f28_8 := YJ BK159.out 8
      have f28_9 := YJ BK159.out 9
      have f28_10 := YJ BK159.out 10
      have f28_11 := YJ BK159.out 11
      go_wp2_with (first | ((with_reducible refine gate_callee (f := 15) rfl ?_); refine goesL_ (some 28) rfl rfl Try.func15 (by kernel_rfl) rfl #[.agg #[.bool a0_2, .int .i64 a0_3, .int .i64 a0_4, .int .i64 a0_5, .int .i64 a0_6, .int .i64 a0_7]] rfl (by (try simp only [YP, List.map_cons, List.map_nil]); first | done | rfl | (simp only [YR, YQ]; rfl)) ?_; (with_reducible refine (height_Bytes.calls kj3 a0_2 a0_3 a0_4 a0_5 a0_6 a0_7 t164 t167 _ A14.out).mono ?_); rintro e w29 ⟨v165, rfl, ho0, hb⟩; refine ⟨_, rfl, ?_⟩; have n0_ := YL (Kd.R_elder' (by (with_reducible repeat (first | apply YS | apply YT | apply YU)); exact HO_5.out) (Kd.R_base ho0) hb); have n1_ := YL (Kd.R_lower (Kd.R_new' ho0 (Kd.R_lt (by (with_reducible repeat (first | apply YS | apply YT | apply YU)); exact HO_5.out))) (YE (by repeat (first | (with_reducible first | exact HB.out | apply YA | apply YB | apply YC | refine below_set ?_ GE159.out) | exact HB.out)))); have n2_ := YL (YK (g := gb159) (o := .cells #[.int .i64 a0_0, .int .i64 a0_1, .bool a0_2, .int .i64 a0_3, .int .i64 a0_4, .int .i64 a0_5, .int .i64 a0_6, .int .i64 a0_7, .int .i64 a0_8, .int .i64 a0_9, .int .i64 a0_10, .int .i64 a0_11] 27 (0, 0)) (by (with_reducible repeat (first | refine YF ?_ _ | refine YG ?_ | refine YH ?_ _)); exact BK159.out) hb); have n3_ := YL (YD (by repeat (first | (with_reducible first | exact HB.out | apply YA | apply YB | apply YC | refine below_set ?_ GE159.out) | exact HB.out)) hb); clear HO_5; clear BK159; clear HB; have HO_5 := n0_; have HO166 := n1_; have BK159 := n2_; have HB := n3_; clear n0_ n1_ n2_ n3_; (try clear hb); (try clear hb2); (try clear hk); (try clear hi); (try clear ho0); obtain ⟨Ao31, co31, eo31⟩ := Kd.R_slice HO166.out; subst eo31) | ((with_reducible refine gate_builtin (b := .append) (xs := #[.tmp 34, .tmp 35]) rfl ?_); at_builtin; refine Kd.R_append_rows (Kd.int .u8) (w0 := w) w.heap.size rfl (.tmp 34) (.tmp 35) 28 5 (.int .u8 0) 1 rfl Try.underlying28 info5 rfl (by decide) (by omega) v162 y161 t164 _ _ _ (fun k_ => some k_ ≠ (.slice Ao31 t164.length co31 : Value).ownBlock) (fun _ => False) rfl rfl ?aO ?aR (fun _ _ h => h) (fun _ h => h.elim) ?aF ?aB ?aS ?aL ?_; (case aR => repeat (first | exact (Kd.R_reads' HO166.out).2.2 | (with_reducible refine Kd.C_alloc ?_ _) | (with_reducible refine Kd.C_drewN ?_ _) | (with_reducible refine Kd.C_drew ?_))); (case aB => exact (by repeat (first | (with_reducible first | exact HB.out | apply YA | apply YB | apply YC | refine below_set ?_ GE159.out) | exact HB.out))); (case aF => exact (fun k_ hk => Kd.fresh' (Kd.R_lt (by (with_reducible repeat (first | apply YS | apply YT | apply YU)); exact HO166.out)) k_ hk)); (case aO => exact (by (with_reducible repeat (first | apply YS | apply YT | apply YU)); exact Kd.R_mono HO_5.out (fun _ hk => by first | exact hk.2 | exact trivial | (simp [hk]; done) | simp_all))); (case aS => exact (YE (by repeat (first | (with_reducible first | exact HB.out | apply YA | apply YB | apply YC | refine below_set ?_ GE159.out) | exact HB.out)))); (case aL => have := LMc16.out; omega); intro v169 w30 ho hb hg hat; rw [← Ny168.out] at ho; have n0_ := YL (blk_grown (g := gb159) (o := .cells #[.int .i64 a0_0, .int .i64 a0_1, .bool a0_2, .int .i64 a0_3, .int .i64 a0_4, .int .i64 a0_5, .int .i64 a0_6, .int .i64 a0_7, .int .i64 a0_8, .int .i64 a0_9, .int .i64 a0_10, .int .i64 a0_11] 27 (0, 0)) (by (with_reducible repeat (first | refine YF ?_ _ | refine YG ?_ | refine YH ?_ _)); exact BK159.out) hg (Kd.R_ne HO_5.out BK159.out (by decide))); have n1_ := YL (Kd.R_after (ok := (fun _ => True)) (by (with_reducible repeat (first | apply YS | apply YT | apply YU)); exact HO166.out) hg hat); have n2_ := YL (hb); have n3_ := YL (ho); clear BK159; clear HO166; clear HB; clear HO_5; have BK159 := n0_; have HO166 := n1_; have HB := n2_; have HO170 := n3_; clear n0_ n1_ n2_ n3_; clear ho hb hg hat; have q32_0 : w30.cell? ⟨gb159, 0, none⟩ = some (.int .i64 a0_0) := (YI BK159.out 0).trans rfl; have q32_1 : w30.cell? ⟨gb159, 1, none⟩ = some (.int .i64 a0_1) := (YI BK159.out 1).trans rfl; have q32_2 : w30.cell? ⟨gb159, 2, none⟩ = some (.bool a0_2) := (YI BK159.out 2).trans rfl; have q32_3 : w30.cell? ⟨gb159, 3, none⟩ = some (.int .i64 a0_3) := (YI BK159.out 3).trans rfl; have q32_4 : w30.cell? ⟨gb159, 4, none⟩ = some (.int .i64 a0_4) := (YI BK159.out 4).trans rfl; have q32_5 : w30.cell? ⟨gb159, 5, none⟩ = some (.int .i64 a0_5) := (YI BK159.out 5).trans rfl; have q32_6 : w30.cell? ⟨gb159, 6, none⟩ = some (.int .i64 a0_6) := (YI BK159.out 6).trans rfl; have q32_7 : w30.cell? ⟨gb159, 7, none⟩ = some (.int .i64 a0_7) := (YI BK159.out 7).trans rfl; have q32_8 : w30.cell? ⟨gb159, 8, none⟩ = some (.int .i64 a0_8) := (YI BK159.out 8).trans rfl; have q32_9 : w30.cell? ⟨gb159, 9, none⟩ = some (.int .i64 a0_9) := (YI BK159.out 9).trans rfl; have q32_10 : w30.cell? ⟨gb159, 10, none⟩ = some (.int .i64 a0_10) := (YI BK159.out 10).trans rfl; have q32_11 : w30.cell? ⟨gb159, 11, none⟩ = some (.int .i64 a0_11) := (YI BK159.out 11).trans rfl; have f32_0 := YJ BK159.out 0; have f32_1 := YJ BK159.out 1; have f32_2 := YJ BK159.out 2; have f32_3 := YJ BK159.out 3; have f32_4 := YJ BK159.out 4; have f32_5 := YJ BK159.out 5; have f32_6 := YJ BK159.out 6; have f32_7 := YJ BK159.out 7; have f32_8 := YJ BK159.out 8; have f32_9 := YJ BK159.out 9; have f32_10 := YJ BK159.out 10; have f32_11 := YJ BK159.out 11))
      go_ret2
      exact ⟨_, by first | rfl | (simp [errW_none, errW_some] <;> rfl) | (simp [*, errW_none, errW_some] <;> rfl), by (with_reducible repeat (first | apply YS | apply YT | apply YU)); exact Kd.R_mono HO170.out (fun _ hk => trivial), by repeat (first | (with_reducible first | exact HB.out | apply YA | apply YB | apply YC | refine below_set ?_ GE159.out) | exact HB.out)⟩
     rw [if_neg c15] at H
     have c15b0 : (t167 == 0) = false := beq_eq_false_iff_ne.mpr c15
     have c15b1 : (t167 != 0) = true := bne_iff_ne.mpr c15
     simp only [Option.some.injEq, Prod.mk.injEq] at H
     obtain ⟨rfl, rfl⟩ := H
     have q33_0 : wc.cell? ⟨gb159, 0, none⟩ = some (.int .i64 a0_0) := (YI BK159.out 0).trans rfl
     have q33_1 : wc.cell? ⟨gb159, 1, none⟩ = some (.int .i64 a0_1) := (YI BK159.out 1).trans rfl
     have q33_2 : wc.cell? ⟨gb159, 2, none⟩ = some (.bool a0_2) := (YI BK159.out 2).trans rfl
     have q33_3 : wc.cell? ⟨gb159, 3, none⟩ = some (.int .i64 a0_3) := (YI BK159.out 3).trans rfl
     have q33_4 : wc.cell? ⟨gb159, 4, none⟩ = some (.int .i64 a0_4) := (YI BK159.out 4).trans rfl
     have q33_5 : wc.cell? ⟨gb159, 5, none⟩ = some (.int .i64 a0_5) := (YI BK159.out 5).trans rfl
     have q33_6 : wc.cell? ⟨gb159, 6, none⟩ = some (.int .i64 a0_6) := (YI BK159.out 6).trans rfl
     have q33_7 : wc.cell? ⟨gb159, 7, none⟩ = some (.int .i64 a0_7) := (YI BK159.out 7).trans rfl
     have q33_8 : wc.cell? ⟨gb159, 8, none⟩ = some (.int .i64 a0_8) := (YI BK159.out 8).trans rfl
     have q33_9 : wc.cell? ⟨gb159, 9, none⟩ = some (.int .i64 a0_9) := (YI BK159.out 9).trans rfl
     have q33_10 : wc.cell? ⟨gb159, 10, none⟩ = some (.int .i64 a0_10) := (YI BK159.out 10).trans rfl
     have q33_11 : wc.cell? ⟨gb159, 11, none⟩ = some (.int .i64 a0_11) := (YI BK159.out 11).trans rfl
     have f33_0 := YJ BK159.out 0
     have f33_1 := YJ BK159.out 1
     have f33_2 := YJ BK159.out 2
     have f33_3 := YJ BK159.out 3
     have f33_4 := YJ BK159.out 4
     have f33_5 := YJ BK159.out 5
     have f33_6 := YJ BK159.out 6
     have f33_7 := YJ BK159.out 7
     have f33_8 := YJ BK159.out 8
     have f33_9 := YJ BK159.out 9
     have f33_10 := YJ BK159.out 10
     have f33_11 := YJ BK159.out 11
     go_wp2_with (first | ((with_reducible refine gate_callee (f := 15) rfl ?_); refine goesL_ (some 28) rfl rfl Try.func15 (by kernel_rfl) rfl #[.agg #[.bool a0_2, .int .i64 a0_3, .int .i64 a0_4, .int .i64 a0_5, .int .i64 a0_6, .int .i64 a0_7]] rfl (by (try simp only [YP, List.map_cons, List.map_nil]); first | done | rfl | (simp only [YR, YQ]; rfl)) ?_; (with_reducible refine (height_Bytes.calls kj3 a0_2 a0_3 a0_4 a0_5 a0_6 a0_7 t164 t167 _ A14.out).mono ?_); rintro e w34 ⟨v165, rfl, ho0, hb⟩; refine ⟨_, rfl, ?_⟩; have n0_ := YL (Kd.R_elder' (by (with_reducible repeat (first | apply YS | apply YT | apply YU)); exact HO_5.out) (Kd.R_base ho0) hb); have n1_ := YL (Kd.R_lower (Kd.R_new' ho0 (Kd.R_lt (by (with_reducible repeat (first | apply YS | apply YT | apply YU)); exact HO_5.out))) (YE (by repeat (first | (with_reducible first | exact HB.out | apply YA | apply YB | apply YC | refine below_set ?_ GE159.out) | exact HB.out)))); have n2_ := YL (YK (g := gb159) (o := .cells #[.int .i64 a0_0, .int .i64 a0_1, .bool a0_2, .int .i64 a0_3, .int .i64 a0_4, .int .i64 a0_5, .int .i64 a0_6, .int .i64 a0_7, .int .i64 a0_8, .int .i64 a0_9, .int .i64 a0_10, .int .i64 a0_11] 27 (0, 0)) (by (with_reducible repeat (first | refine YF ?_ _ | refine YG ?_ | refine YH ?_ _)); exact BK159.out) hb); have n3_ := YL (YD (by repeat (first | (with_reducible first | exact HB.out | apply YA | apply YB | apply YC | refine below_set ?_ GE159.out) | exact HB.out)) hb); clear HO_5; clear BK159; clear HB; have HO_5 := n0_; have HO166 := n1_; have BK159 := n2_; have HB := n3_; clear n0_ n1_ n2_ n3_; (try clear hb); (try clear hb2); (try clear hk); (try clear hi); (try clear ho0)))
     go_ret2
     exact ⟨_, by first | rfl | (simp [errW_none, errW_some] <;> rfl) | (simp [*, errW_none, errW_some] <;> rfl), by first | exact Kd.R_nil _ _ _ _ _ | exact Kd.N_nil _ _ _ _ _ | exact Kd.V_nil _ _ _ _ _ | exact Kd.Q_nil _ _ _ _ _ | exact Kd.S_nil _ _ _ _ _, by repeat (first | (with_reducible first | exact HB.out | apply YA | apply YB | apply YC | refine below_set ?_ GE159.out) | exact HB.out)⟩
    replace c13 := Bool.eq_false_iff.mpr c13
    subst c13
    have H1 : (if a0_0 = 3 then ((wire_Int.f a0_8).bind fun t177 => (if y161.length + t177.length < 140737488355328 then ((some (y161 ++ t177 : List Int)).bind fun y180 => ((some (([(a0_9) % 256, (a0_10) % 256] : List Int) : List Int)).bind fun y183 => (if y180.length + y183.length < 140737488355328 then ((some (y180 ++ y183 : List Int)).bind fun y186 => (if a0_0 = 4 then ((some (([(a0_11 / 256) % 256, (a0_11) % 256] : List Int) : List Int)).bind fun y189 => (if y186.length + y189.length < 140737488355328 then (some ((y186 ++ y189), 0)) else (none))) else (some (y186, 0)))) else (none)))) else (none))) else (if a0_0 = 4 then ((some (([(a0_11 / 256) % 256, (a0_11) % 256] : List Int) : List Int)).bind fun y195 => (if y161.length + y195.length < 140737488355328 then (some ((y161 ++ y195), 0)) else (none))) else (some (y161, 0)))) = some (r1, r2) := by rw [if_neg (show ¬ (false = true) by decide)] at H; exact H
    clear H
    have H := H1
    clear H1
    by_cases c35 : a0_0 = 3
    ·rw [if_pos c35] at H
     have c35b0 : (a0_0 == 3) = true := beq_iff_eq.mpr c35
     have c35b1 : (a0_0 != 3) = false := bne_eq_false_iff_eq.mpr c35
     clear c35; replace H := Option.bind_eq_some_iff.mp H; obtain ⟨t177, A360, H⟩ := H
     replace H : (if y161.length + t177.length < 140737488355328 then ((some (y161 ++ t177 : List Int)).bind fun y180 => ((some (([(a0_9) % 256, (a0_10) % 256] : List Int) : List Int)).bind fun y183 => (if y180.length + y183.length < 140737488355328 then ((some (y180 ++ y183 : List Int)).bind fun y186 => (if a0_0 = 4 then ((some (([(a0_11 / 256) % 256, (a0_11) % 256] : List Int) : List Int)).bind fun y189 => (if y186.length + y189.length < 140737488355328 then (some ((y186 ++ y189), 0)) else (none))) else (some (y186, 0)))) else (none)))) else (none)) = some (r1, r2) := H
     have A36 := YL A360; clear A360
     by_cases c37 : y161.length + t177.length < 140737488355328
     rotate_left
     ·rw [if_neg c37] at H
      exact absurd H (by simp)
     rw [if_pos c37] at H; have LMc37 := YL c37; clear c37
     obtain ⟨y180, hy180⟩ : ∃ y_ : List Int, y_ = (y161 ++ t177) := ⟨_, rfl⟩
     replace H : ((some (([(a0_9) % 256, (a0_10) % 256] : List Int) : List Int)).bind fun y183 => (if y180.length + y183.length < 140737488355328 then ((some (y180 ++ y183 : List Int)).bind fun y186 => (if a0_0 = 4 then ((some (([(a0_11 / 256) % 256, (a0_11) % 256] : List Int) : List Int)).bind fun y189 => (if y186.length + y189.length < 140737488355328 then (some ((y186 ++ y189), 0)) else (none))) else (some (y186, 0)))) else (none))) = some (r1, r2) := by first | (rw [hy180]; with_reducible exact H) | (have H2_ := (Option.bind_some _ _).symm.trans H; rw [hy180]; with_reducible exact H2_) | (have H2_ := (Option.bind_some _ _).symm.trans H; with_reducible exact H2_) | with_reducible exact H | (rw [hy180]; exact H) | exact H
     have Ny180 := YL hy180; clear hy180
     obtain ⟨y183, hy183⟩ : ∃ y_ : List Int, y_ = (([(a0_9) % 256, (a0_10) % 256] : List Int)) := ⟨_, rfl⟩
     replace H : (if y180.length + y183.length < 140737488355328 then ((some (y180 ++ y183 : List Int)).bind fun y186 => (if a0_0 = 4 then ((some (([(a0_11 / 256) % 256, (a0_11) % 256] : List Int) : List Int)).bind fun y189 => (if y186.length + y189.length < 140737488355328 then (some ((y186 ++ y189), 0)) else (none))) else (some (y186, 0)))) else (none)) = some (r1, r2) := by first | (rw [hy183]; with_reducible exact H) | (have H2_ := (Option.bind_some _ _).symm.trans H; rw [hy183]; with_reducible exact H2_) | (have H2_ := (Option.bind_some _ _).symm.trans H; with_reducible exact H2_) | with_reducible exact H | (rw [hy183]; exact H) | exact H
     have Ny183 := YL hy183; clear hy183
     by_cases c38 : y180.length + y183.length < 140737488355328
     rotate_left
     ·rw [if_neg c38] at H
      exact absurd H (by simp)
     rw [if_pos c38] at H; have LMc38 := YL c38; clear c38
     obtain ⟨y186, hy186⟩ : ∃ y_ : List Int, y_ = (y180 ++ y183) := ⟨_, rfl⟩
     replace H : (if a0_0 = 4 then ((some (([(a0_11 / 256) % 256, (a0_11) % 256] : List Int) : List Int)).bind fun y189 => (if y186.length + y189.length < 140737488355328 then (some ((y186 ++ y189), 0)) else (none))) else (some (y186, 0))) = some (r1, r2) := by first | (rw [hy186]; with_reducible exact H) | (have H2_ := (Option.bind_some _ _).symm.trans H; rw [hy186]; with_reducible exact H2_) | (have H2_ := (Option.bind_some _ _).symm.trans H; with_reducible exact H2_) | with_reducible exact H | (rw [hy186]; exact H) | exact H
     have Ny186 := YL hy186; clear hy186
     by_cases c39 : a0_0 = 4
     ·rw [if_pos c39] at H
      have c39b0 : (a0_0 == 4) = true := beq_iff_eq.mpr c39
      have c39b1 : (a0_0 != 4) = false := bne_eq_false_iff_eq.mpr c39
      clear c39
      obtain ⟨y189, hy189⟩ : ∃ y_ : List Int, y_ = (([(a0_11 / 256) % 256, (a0_11) % 256] : List Int)) := ⟨_, rfl⟩
      replace H : (if y186.length + y189.length < 140737488355328 then (some ((y186 ++ y189), 0)) else (none)) = some (r1, r2) := by first | (rw [hy189]; with_reducible exact H) | (have H2_ := (Option.bind_some _ _).symm.trans H; rw [hy189]; with_reducible exact H2_) | (have H2_ := (Option.bind_some _ _).symm.trans H; with_reducible exact H2_) | with_reducible exact H | (rw [hy189]; exact H) | exact H
      have Ny189 := YL hy189; clear hy189
      by_cases c40 : y186.length + y189.length < 140737488355328
      rotate_left
      ·rw [if_neg c40] at H
       exact absurd H (by simp)
      rw [if_pos c40] at H; have LMc40 := YL c40; clear c40
      obtain ⟨y192, hy192⟩ : ∃ y_ : List Int, y_ = (y186 ++ y189) := ⟨_, rfl⟩
      replace H : (some (y192, 0)) = some (r1, r2) := by first | (rw [hy192]; with_reducible exact H) | (have H2_ := (Option.bind_some _ _).symm.trans H; rw [hy192]; with_reducible exact H2_) | (have H2_ := (Option.bind_some _ _).symm.trans H; with_reducible exact H2_) | with_reducible exact H | (rw [hy192]; exact H) | exact H
      have Ny192 := YL hy192; clear hy192
      simp only [Option.some.injEq, Prod.mk.injEq] at H
      obtain ⟨rfl, rfl⟩ := H
      obtain ⟨Ao41, co41, eo41⟩ := Kd.R_slice HO_5.out
      subst eo41
      try go_wp2
      have n0_ := YL (YU HO_5.out)
      have n1_ := YL (YG BK159.out)
      have n2_ := YL (YC HB.out)
      clear HO_5; clear BK159; clear HB; have HO_5 := n0_; have BK159 := n1_; have HB := n2_; clear n0_ n1_ n2_
      refine start_ (n := 17) (S := fun w' => w'.cell? ⟨gb159, 0, none⟩ = some (.int .i64 a0_0) ∧ w'.cell? ⟨gb159, 1, none⟩ = some (.int .i64 a0_1) ∧ w'.cell? ⟨gb159, 2, none⟩ = some (.bool a0_2) ∧ w'.cell? ⟨gb159, 3, none⟩ = some (.int .i64 a0_3) ∧ w'.cell? ⟨gb159, 4, none⟩ = some (.int .i64 a0_4) ∧ w'.cell? ⟨gb159, 5, none⟩ = some (.int .i64 a0_5) ∧ w'.cell? ⟨gb159, 6, none⟩ = some (.int .i64 a0_6) ∧ w'.cell? ⟨gb159, 7, none⟩ = some (.int .i64 a0_7) ∧ w'.cell? ⟨gb159, 8, none⟩ = some (.int .i64 a0_8) ∧ w'.cell? ⟨gb159, 9, none⟩ = some (.int .i64 a0_9) ∧ w'.cell? ⟨gb159, 10, none⟩ = some (.int .i64 a0_10) ∧ w'.cell? ⟨gb159, 11, none⟩ = some (.int .i64 a0_11)) (ds := []) #[false, false, false, false, false, false, false, false, false, false, false, false, false, false, false, false, false] (by kernel_rfl) rfl rfl ⟨(YI BK159.out 0).trans rfl, (YI BK159.out 1).trans rfl, (YI BK159.out 2).trans rfl, (YI BK159.out 3).trans rfl, (YI BK159.out 4).trans rfl, (YI BK159.out 5).trans rfl, (YI BK159.out 6).trans rfl, (YI BK159.out 7).trans rfl, (YI BK159.out 8).trans rfl, (YI BK159.out 9).trans rfl, (YI BK159.out 10).trans rfl, (YI BK159.out 11).trans rfl⟩ (fun hHeld => ?_); refine with_tabW object_Bytes.tab13 object_Bytes.bits13 (fun HT_ HW_ => ?_)
      generalize wc.drew = w42 at HO_5 BK159 HB hHeld ⊢
      refine pure_ (i := 0) (N := some 39) (v := ?_) (a' := ?_) #[true, false, false, false, false, false, false, false, false, false, false, false, false, false, false, false, false] rfl rfl (any_of HT_.out (by kernel_rfl)) (fun _ _ _ h => h) (Or.inl ⟨by rfl, ?_⟩) ?_ ?_
      rotate_left
      ·intro w'
       go_simp; with_reducible rfl
      rotate_left
      ·simp only [Act.put, YM, YN, YO, i64_w, i32_w]
       rfl
      refine pure_ (i := 1) (N := some 40) (v := ?_) (a' := ?_) #[true, true, false, false, false, false, false, false, false, false, false, false, false, false, false, false, false] rfl rfl (any_of HT_.out (by kernel_rfl)) (fun _ _ _ h => h) (Or.inl ⟨by rfl, ?_⟩) ?_ ?_
      rotate_left
      ·intro w'
       go_simp; with_reducible rfl
      rotate_left
      ·simp only [Act.put, YM, YN, YO, i64_w, i32_w]
       rfl
      refine pure_ (i := 2) (N := some 41) (v := ?_) (a' := ?_) #[true, true, true, false, false, false, false, false, false, false, false, false, false, false, false, false, false] rfl rfl (any_of HT_.out (by kernel_rfl)) (fun _ _ _ h => h) (Or.inl ⟨by rfl, ?_⟩) ?_ ?_
      rotate_left
      ·intro w'
       go_simp; with_reducible rfl
      rotate_left
      ·simp only [Act.put, YM, YN, YO, i64_w, i32_w]
       rfl
      refine pure_ (i := 6) (N := some 45) (v := ?_) (a' := ?_) #[true, true, true, false, false, false, true, false, false, false, false, false, false, false, false, false, false] rfl rfl (any_of HT_.out (by kernel_rfl)) (fun _ _ _ h => h) (Or.inl ⟨by rfl, ?_⟩) ?_ ?_
      rotate_left
      ·intro w'
       go_simp; with_reducible rfl
      rotate_left
      ·simp only [Act.put, YM, YN, YO, i64_w, i32_w]
       rfl
      refine pure_ (i := 7) (N := some 46) (v := ?_) (a' := ?_) #[true, true, true, false, false, false, true, true, false, false, false, false, false, false, false, false, false] rfl rfl (any_of HT_.out (by kernel_rfl)) (fun _ _ _ h => h) (Or.inl ⟨by rfl, ?_⟩) ?_ ?_
      rotate_left
      ·intro w'
       go_simp; with_reducible rfl
      rotate_left
      ·simp only [Act.put, YM, YN, YO, i64_w, i32_w]
       rfl
      refine pure_ (i := 10) (N := some 49) (v := ?_) (a' := ?_) #[true, true, true, false, false, false, true, true, false, false, true, false, false, false, false, false, false] rfl rfl (any_of HT_.out (by kernel_rfl)) (fun _ _ _ h => h) (Or.inl ⟨by rfl, ?_⟩) ?_ ?_
      rotate_left
      ·intro w'
       go_simp; with_reducible rfl
      rotate_left
      ·simp only [Act.put, YM, YN, YO, i64_w, i32_w]
       rfl
      refine pure_ (i := 11) (N := some 50) (v := ?_) (a' := ?_) #[true, true, true, false, false, false, true, true, false, false, true, true, false, false, false, false, false] rfl rfl (any_of HT_.out (by kernel_rfl)) (fun _ _ _ h => h) (Or.inl ⟨by rfl, ?_⟩) ?_ ?_
      rotate_left
      ·intro w'
       go_simp; with_reducible rfl
      rotate_left
      ·simp only [Act.put, YM, YN, YO, i64_w, i32_w]
       rfl
      refine take_ (i := 3) (N := some 42) (v := ?_) (a' := ?_) #[true, true, true, true, false, false, true, true, false, false, true, true, false, false, false, false, false] rfl rfl (take_ofW HT_.out HW_.out (by kernel_rfl)) (fun _ _ _ h => h) (Or.inl ⟨by rfl, ?_⟩) hHeld ?_ ?_
      rotate_left
      ·rintro w' ⟨s0, s1, s2, s3, s4, s5, s6, s7, s8, s9, s10, s11⟩
       go_simp; with_reducible rfl
      rotate_left
      ·simp only [Act.put, YM, YN, YO, i64_w, i32_w]
       rfl
      refine take_ (i := 8) (N := some 47) (v := ?_) (a' := ?_) #[true, true, true, true, false, false, true, true, true, false, true, true, false, false, false, false, false] rfl rfl (take_ofW HT_.out HW_.out (by kernel_rfl)) (fun _ _ _ h => h) (Or.inl ⟨by rfl, ?_⟩) hHeld ?_ ?_
      rotate_left
      ·rintro w' ⟨s0, s1, s2, s3, s4, s5, s6, s7, s8, s9, s10, s11⟩
       go_simp; with_reducible rfl
      rotate_left
      ·simp only [Act.put, YM, YN, YO, i64_w, i32_w]
       rfl
      refine pure_ (i := 9) (N := some 48) (v := ?_) (a' := ?_) #[true, true, true, true, false, false, true, true, true, true, true, true, false, false, false, false, false] rfl rfl (any_of HT_.out (by kernel_rfl)) (fun _ _ _ h => h) (Or.inl ⟨by rfl, ?_⟩) ?_ ?_
      rotate_left
      ·intro w'
       go_simp; with_reducible rfl
      rotate_left
      ·simp only [Act.put, YM, YN, YO, i64_w, i32_w]
       rfl
      refine take_ (i := 12) (N := some 51) (v := ?_) (a' := ?_) #[true, true, true, true, false, false, true, true, true, true, true, true, true, false, false, false, false] rfl rfl (take_ofW HT_.out HW_.out (by kernel_rfl)) (fun _ _ _ h => h) (Or.inl ⟨by rfl, ?_⟩) hHeld ?_ ?_
      rotate_left
      ·rintro w' ⟨s0, s1, s2, s3, s4, s5, s6, s7, s8, s9, s10, s11⟩
       go_simp; with_reducible rfl
      rotate_left
      ·simp only [Act.put, YM, YN, YO, i64_w, i32_w]
       rfl
      refine pure_ (i := 13) (N := some 52) (v := ?_) (a' := ?_) #[true, true, true, true, false, false, true, true, true, true, true, true, true, true, false, false, false] rfl rfl (any_of HT_.out (by kernel_rfl)) (fun _ _ _ h => h) (Or.inl ⟨by rfl, ?_⟩) ?_ ?_
      rotate_left
      ·intro w'
       go_simp; with_reducible rfl
      rotate_left
      ·simp only [Act.put, YM, YN, YO, i64_w, i32_w]
       rfl
      refine join_ (σ := Value × Value × Value) 2 #[true, true, true, true, true, true, true, true, true, true, true, true, true, true, true, false, false] (fun s_ => [(43, s_.1), (44, s_.2.1), (53, s_.2.2)]) (fun s_ w' => (w'.cell? ⟨gb159, 0, none⟩ = some (.int .i64 a0_0) ∧ w'.cell? ⟨gb159, 1, none⟩ = some (.int .i64 a0_1) ∧ w'.cell? ⟨gb159, 2, none⟩ = some (.bool a0_2) ∧ w'.cell? ⟨gb159, 3, none⟩ = some (.int .i64 a0_3) ∧ w'.cell? ⟨gb159, 4, none⟩ = some (.int .i64 a0_4) ∧ w'.cell? ⟨gb159, 5, none⟩ = some (.int .i64 a0_5) ∧ w'.cell? ⟨gb159, 6, none⟩ = some (.int .i64 a0_6) ∧ w'.cell? ⟨gb159, 7, none⟩ = some (.int .i64 a0_7) ∧ w'.cell? ⟨gb159, 8, none⟩ = some (.int .i64 a0_8) ∧ w'.cell? ⟨gb159, 9, none⟩ = some (.int .i64 a0_9) ∧ w'.cell? ⟨gb159, 10, none⟩ = some (.int .i64 a0_10) ∧ w'.cell? ⟨gb159, 11, none⟩ = some (.int .i64 a0_11)) ∧ (Kd.R (Kd.int .u8) 5 w' w.heap.size (fun k_ => some k_ ≠ (s_.2.1 : Value).ownBlock ∧ some k_ ≠ (s_.2.2 : Value).ownBlock) s_.1 t177) ∧ (Kd.R (Kd.int .u8) 5 w' w.heap.size (fun k_ => some k_ ≠ (s_.1 : Value).ownBlock ∧ some k_ ≠ (s_.2.2 : Value).ownBlock) s_.2.1 y180) ∧ (Kd.R (Kd.int .u8) 5 w' w.heap.size (fun k_ => some k_ ≠ (s_.1 : Value).ownBlock ∧ some k_ ≠ (s_.2.1 : Value).ownBlock) s_.2.2 y183) ∧ (w'.heap[gb159]? = some (.cells #[.int .i64 a0_0, .int .i64 a0_1, .bool a0_2, .int .i64 a0_3, .int .i64 a0_4, .int .i64 a0_5, .int .i64 a0_6, .int .i64 a0_7, .int .i64 a0_8, .int .i64 a0_9, .int .i64 a0_10, .int .i64 a0_11] 27 (0, 0))) ∧ (Below w.heap.size w w')) ?_ ?_
      rotate_left
      ·intro hCont
       refine two_ (i := 4) (j := 14) (Ni := some 43) (Nj := some 53) #[true, true, true, true, true, false, true, true, true, true, true, true, true, true, false, false, false] #[true, true, true, true, false, false, true, true, true, true, true, true, true, true, true, false, false] rfl rfl rfl rfl (two_of HT_.out (by kernel_rfl)) (by decide) (by decide) (fun K hK => ?_) (fun K hK => ?_)
       ·skip
        refine goes_ Try.func16 (by kernel_rfl) rfl #[.int .i64 a0_8] (by rfl) rfl rfl (by (try simp only [YP, List.map_cons, List.map_nil]); first | done | rfl | (simp only [YR, YQ]; rfl)) ?_
        with_reducible refine (wire_Int.calls a0_8 t177 _ A36.out).mono ?_
        rintro e w43 ⟨v178, rfl, ho0, hb⟩
        refine ⟨_, rfl, ?_⟩
        have n0_ := YL (Kd.R_elder' (by (with_reducible repeat (first | apply YS | apply YT | apply YU)); exact HO_5.out) (Kd.R_base ho0) hb)
        have n1_ := YL (Kd.R_lower (Kd.R_new' ho0 (Kd.R_lt (by (with_reducible repeat (first | apply YS | apply YT | apply YU)); exact HO_5.out))) (YE (by repeat (first | (with_reducible first | exact HB.out | apply YA | apply YB | apply YC | refine below_set ?_ GE159.out) | exact HB.out))))
        have n2_ := YL (YK (g := gb159) (o := .cells #[.int .i64 a0_0, .int .i64 a0_1, .bool a0_2, .int .i64 a0_3, .int .i64 a0_4, .int .i64 a0_5, .int .i64 a0_6, .int .i64 a0_7, .int .i64 a0_8, .int .i64 a0_9, .int .i64 a0_10, .int .i64 a0_11] 27 (0, 0)) (by (with_reducible repeat (first | refine YF ?_ _ | refine YG ?_ | refine YH ?_ _)); exact BK159.out) hb)
        have n3_ := YL (YD (by repeat (first | (with_reducible first | exact HB.out | apply YA | apply YB | apply YC | refine below_set ?_ GE159.out) | exact HB.out)) hb)
        clear HO_5; clear BK159; clear HB; have HO_5 := n0_; have HO179 := n1_; have BK159 := n2_; have HB := n3_; clear n0_ n1_ n2_ n3_; (try clear hb); (try clear hb2); (try clear hk); (try clear hi); (try clear ho0)
        obtain ⟨Ao45, co45, eo45⟩ := Kd.R_slice HO179.out
        (first | subst eo45 | (injection eo45 with f1_ f2_ f3_; have f4_ := f1_.symm; have f5_ := f3_.symm; clear f1_ f2_ f3_; subst f4_; subst f5_))
        refine hK.out _ _ ⟨(YI BK159.out 0).trans rfl, (YI BK159.out 1).trans rfl, (YI BK159.out 2).trans rfl, (YI BK159.out 3).trans rfl, (YI BK159.out 4).trans rfl, (YI BK159.out 5).trans rfl, (YI BK159.out 6).trans rfl, (YI BK159.out 7).trans rfl, (YI BK159.out 8).trans rfl, (YI BK159.out 9).trans rfl, (YI BK159.out 10).trans rfl, (YI BK159.out 11).trans rfl⟩ (fun hHeld => ?_)
        clear hK K
        refine norm_ (a' := ?_) ?_ ?_
        rotate_left
        ·show Act.put _ (some 43) _ = _
         simp only [Act.put, YM, YN, YO, i64_w, i32_w]
         rfl
        refine two_ (i := 5) (j := 14) (Ni := some 44) (Nj := some 53) #[true, true, true, true, true, true, true, true, true, true, true, true, true, true, false, false, false] #[true, true, true, true, true, false, true, true, true, true, true, true, true, true, true, false, false] rfl rfl rfl rfl (two_of HT_.out (by kernel_rfl)) (by decide) (by decide) (fun K hK => ?_) (fun K hK => ?_)
        ·skip
         refine Kd.R_append_rows_step (Kd.int .u8) (w0 := w) w.heap.size (by rfl) (.tmp 39) (.tmp 43) 28 5 (.int .u8 0) 1 rfl Try.underlying28 info5 rfl (by decide) (by omega) (.slice Ao41 y161.length co41) y161 t177 _ _ _ (fun k_ => some k_ ≠ (.slice Ao45 t177.length co45 : Value).ownBlock) (fun _ => False) rfl rfl ?aO ?aR (fun _ _ h => h) (fun _ h => h.elim) ?aF ?aB ?aS ?aL ?_
         (case aR => repeat (first | exact (Kd.R_reads' HO179.out).2.2 | (with_reducible refine Kd.C_alloc ?_ _) | (with_reducible refine Kd.C_drewN ?_ _) | (with_reducible refine Kd.C_drew ?_)))
         (case aB => exact (by repeat (first | (with_reducible first | exact HB.out | apply YA | apply YB | apply YC | refine below_set ?_ GE159.out) | exact HB.out)))
         (case aF => exact (fun k_ hk => Kd.fresh' (Kd.R_lt (by (with_reducible repeat (first | apply YS | apply YT | apply YU)); exact HO179.out)) k_ hk))
         (case aO => exact (by (with_reducible repeat (first | apply YS | apply YT | apply YU)); exact Kd.R_mono HO_5.out (fun _ hk => by first | exact hk.2 | exact trivial | (simp [hk]; done) | simp_all)))
         (case aS => exact (YE (by repeat (first | (with_reducible first | exact HB.out | apply YA | apply YB | apply YC | refine below_set ?_ GE159.out) | exact HB.out))))
         (case aL => have := LMc37.out; omega)
         intro v181 w44 ho hb hg hat
         rw [← Ny180.out] at ho
         have n0_ := YL (blk_grown (g := gb159) (o := .cells #[.int .i64 a0_0, .int .i64 a0_1, .bool a0_2, .int .i64 a0_3, .int .i64 a0_4, .int .i64 a0_5, .int .i64 a0_6, .int .i64 a0_7, .int .i64 a0_8, .int .i64 a0_9, .int .i64 a0_10, .int .i64 a0_11] 27 (0, 0)) (by (with_reducible repeat (first | refine YF ?_ _ | refine YG ?_ | refine YH ?_ _)); exact BK159.out) hg (Kd.R_ne HO_5.out BK159.out (by decide)))
         have n1_ := YL (Kd.R_after (ok := (fun _ => True)) (by (with_reducible repeat (first | apply YS | apply YT | apply YU)); exact HO179.out) hg hat)
         have n2_ := YL (hb)
         have n3_ := YL (ho)
         clear BK159; clear HO179; clear HB; clear HO_5; have BK159 := n0_; have HO179 := n1_; have HB := n2_; have HO182 := n3_; clear n0_ n1_ n2_ n3_; clear ho hb hg hat
         refine hK.out _ _ ⟨(YI BK159.out 0).trans rfl, (YI BK159.out 1).trans rfl, (YI BK159.out 2).trans rfl, (YI BK159.out 3).trans rfl, (YI BK159.out 4).trans rfl, (YI BK159.out 5).trans rfl, (YI BK159.out 6).trans rfl, (YI BK159.out 7).trans rfl, (YI BK159.out 8).trans rfl, (YI BK159.out 9).trans rfl, (YI BK159.out 10).trans rfl, (YI BK159.out 11).trans rfl⟩ (fun hHeld => ?_)
         clear hK K
         refine norm_ (a' := ?_) ?_ ?_
         rotate_left
         ·show Act.put _ (some 44) _ = _
          simp only [Act.put, YM, YN, YO, i64_w, i32_w]
          rfl
         refine one_ (i := 14) (N := some 53) #[true, true, true, true, true, true, true, true, true, true, true, true, true, true, true, false, false] rfl rfl (one_of HT_.out (by kernel_rfl)) (by decide) (fun K hK => ?_)
         refine Kd.R_lit_step (Kd.int .u8) _ 5 ?hg (N := 53) ?hd (xs := ([(a0_9) % 256, (a0_10) % 256] : List Int)) (inner := [.int .u8 ((a0_9) % 256), .int .u8 ((a0_10) % 256)]) (ok := fun _ => True) (okp := fun _ => True) ?hr ?hp (fun _ hk => hk) trivial (Below.refl _ _) (Nat.le_refl _) (by simp) ?_; (case hd => rfl); (case hg => rfl); (case hr => first | (go_simp; done) | (go_simp; rfl)); (case hp => exact (Reps.one (show Kd.M (Kd.int .u8) _ _ _ ((a0_9) % 256) [.int .u8 ((a0_9) % 256)] from rfl) (Reps.one (show Kd.M (Kd.int .u8) _ _ _ ((a0_10) % 256) [.int .u8 ((a0_10) % 256)] from rfl) (Reps.none _ _))))
         intro v184 w46 ho47 hb hg_ hnew_
         clear hg_ hnew_
         (first | rw [← Ny183.out] at ho47 | (simp only [Int.reduceToNat] at ho47; rw [← Ny183.out] at ho47))
         have n0_ := YL (Kd.R_elder' (by (with_reducible repeat (first | apply YS | apply YT | apply YU)); exact HO179.out) (Kd.R_base ho47) hb)
         have n1_ := YL (Kd.R_elder' (by (with_reducible repeat (first | apply YS | apply YT | apply YU)); exact HO182.out) (Kd.R_base ho47) hb)
         have n2_ := YL (Kd.R_lower (Kd.R_new' (Kd.R_new' ho47 (Kd.R_lt (by (with_reducible repeat (first | apply YS | apply YT | apply YU)); exact HO179.out))) (Kd.R_lt (by (with_reducible repeat (first | apply YS | apply YT | apply YU)); exact HO182.out))) (YE (by repeat (first | (with_reducible first | exact HB.out | apply YA | apply YB | apply YC | refine below_set ?_ GE159.out) | exact HB.out))))
         have n3_ := YL (YK (g := gb159) (o := .cells #[.int .i64 a0_0, .int .i64 a0_1, .bool a0_2, .int .i64 a0_3, .int .i64 a0_4, .int .i64 a0_5, .int .i64 a0_6, .int .i64 a0_7, .int .i64 a0_8, .int .i64 a0_9, .int .i64 a0_10, .int .i64 a0_11] 27 (0, 0)) (by (with_reducible repeat (first | refine YF ?_ _ | refine YG ?_ | refine YH ?_ _)); exact BK159.out) hb)
         have n4_ := YL (YD (by repeat (first | (with_reducible first | exact HB.out | apply YA | apply YB | apply YC | refine below_set ?_ GE159.out) | exact HB.out)) hb)
         clear HO179; clear HO182; clear BK159; clear HB; have HO179 := n0_; have HO182 := n1_; have HO185 := n2_; have BK159 := n3_; have HB := n4_; clear n0_ n1_ n2_ n3_ n4_; clear hb ho47
         refine hK.out _ _ ⟨(YI BK159.out 0).trans rfl, (YI BK159.out 1).trans rfl, (YI BK159.out 2).trans rfl, (YI BK159.out 3).trans rfl, (YI BK159.out 4).trans rfl, (YI BK159.out 5).trans rfl, (YI BK159.out 6).trans rfl, (YI BK159.out 7).trans rfl, (YI BK159.out 8).trans rfl, (YI BK159.out 9).trans rfl, (YI BK159.out 10).trans rfl, (YI BK159.out 11).trans rfl⟩ (fun hHeld => ?_)
         clear hK K
         refine norm_ (a' := ?_) ?_ ?_
         rotate_left
         ·show Act.put _ (some 53) _ = _
          simp only [Act.put, YM, YN, YO, i64_w, i32_w]
          rfl
         exact norm_ (by simp only [putAll, Act.put, YM, YN, YO]) (hCont (.slice Ao45 t177.length co45, v181, v184) _ ⟨hHeld, (by (with_reducible repeat (first | apply YS | apply YT | apply YU)); exact Kd.R_mono HO179.out (fun _ hk => by first | exact ⟨hk.1.2, hk.2⟩ | exact trivial | (simp [hk]; done) | simp_all)), (by (with_reducible repeat (first | apply YS | apply YT | apply YU)); exact HO182.out), (by (with_reducible repeat (first | apply YS | apply YT | apply YU)); exact Kd.R_mono HO185.out (fun _ hk => by first | exact ⟨hk.1.2, hk.2⟩ | exact trivial | (simp [hk]; done) | simp_all)), (by (with_reducible repeat (first | refine YF ?_ _ | refine YG ?_ | refine YH ?_ _)); exact BK159.out), (by repeat (first | (with_reducible first | exact HB.out | apply YA | apply YB | apply YC | refine below_set ?_ GE159.out) | exact HB.out))⟩)
        skip
        refine Kd.R_lit_step (Kd.int .u8) _ 5 ?hg (N := 53) ?hd (xs := ([(a0_9) % 256, (a0_10) % 256] : List Int)) (inner := [.int .u8 ((a0_9) % 256), .int .u8 ((a0_10) % 256)]) (ok := fun _ => True) (okp := fun _ => True) ?hr ?hp (fun _ hk => hk) trivial (Below.refl _ _) (Nat.le_refl _) (by simp) ?_; (case hd => rfl); (case hg => rfl); (case hr => first | (go_simp; done) | (go_simp; rfl)); (case hp => exact (Reps.one (show Kd.M (Kd.int .u8) _ _ _ ((a0_9) % 256) [.int .u8 ((a0_9) % 256)] from rfl) (Reps.one (show Kd.M (Kd.int .u8) _ _ _ ((a0_10) % 256) [.int .u8 ((a0_10) % 256)] from rfl) (Reps.none _ _))))
        intro v184 w44 ho45 hb hg_ hnew_
        clear hg_ hnew_
        (first | rw [← Ny183.out] at ho45 | (simp only [Int.reduceToNat] at ho45; rw [← Ny183.out] at ho45))
        have n0_ := YL (Kd.R_elder' (by (with_reducible repeat (first | apply YS | apply YT | apply YU)); exact HO_5.out) (Kd.R_base ho45) hb)
        have n1_ := YL (Kd.R_elder' (by (with_reducible repeat (first | apply YS | apply YT | apply YU)); exact HO179.out) (Kd.R_base ho45) hb)
        have n2_ := YL (Kd.R_lower (Kd.R_new' (Kd.R_new' ho45 (Kd.R_lt (by (with_reducible repeat (first | apply YS | apply YT | apply YU)); exact HO_5.out))) (Kd.R_lt (by (with_reducible repeat (first | apply YS | apply YT | apply YU)); exact HO179.out))) (YE (by repeat (first | (with_reducible first | exact HB.out | apply YA | apply YB | apply YC | refine below_set ?_ GE159.out) | exact HB.out))))
        have n3_ := YL (YK (g := gb159) (o := .cells #[.int .i64 a0_0, .int .i64 a0_1, .bool a0_2, .int .i64 a0_3, .int .i64 a0_4, .int .i64 a0_5, .int .i64 a0_6, .int .i64 a0_7, .int .i64 a0_8, .int .i64 a0_9, .int .i64 a0_10, .int .i64 a0_11] 27 (0, 0)) (by (with_reducible repeat (first | refine YF ?_ _ | refine YG ?_ | refine YH ?_ _)); exact BK159.out) hb)
        have n4_ := YL (YD (by repeat (first | (with_reducible first | exact HB.out | apply YA | apply YB | apply YC | refine below_set ?_ GE159.out) | exact HB.out)) hb)
        clear HO_5; clear HO179; clear BK159; clear HB; have HO_5 := n0_; have HO179 := n1_; have HO185 := n2_; have BK159 := n3_; have HB := n4_; clear n0_ n1_ n2_ n3_ n4_; clear hb ho45
        obtain ⟨Ao47, co47, eo47⟩ := Kd.R_slice HO179.out
        (first | subst eo47 | (injection eo47 with f1_ f2_ f3_; have f4_ := f1_.symm; have f5_ := f3_.symm; clear f1_ f2_ f3_; subst f4_; subst f5_))
        refine hK.out _ _ ⟨(YI BK159.out 0).trans rfl, (YI BK159.out 1).trans rfl, (YI BK159.out 2).trans rfl, (YI BK159.out 3).trans rfl, (YI BK159.out 4).trans rfl, (YI BK159.out 5).trans rfl, (YI BK159.out 6).trans rfl, (YI BK159.out 7).trans rfl, (YI BK159.out 8).trans rfl, (YI BK159.out 9).trans rfl, (YI BK159.out 10).trans rfl, (YI BK159.out 11).trans rfl⟩ (fun hHeld => ?_)
        clear hK K
        refine norm_ (a' := ?_) ?_ ?_
        rotate_left
        ·show Act.put _ (some 53) _ = _
         simp only [Act.put, YM, YN, YO, i64_w, i32_w]
         rfl
        refine one_ (i := 5) (N := some 44) #[true, true, true, true, true, true, true, true, true, true, true, true, true, true, true, false, false] rfl rfl (one_of HT_.out (by kernel_rfl)) (by decide) (fun K hK => ?_)
        refine Kd.R_append_rows_step (Kd.int .u8) (w0 := w) w.heap.size (by rfl) (.tmp 39) (.tmp 43) 28 5 (.int .u8 0) 1 rfl Try.underlying28 info5 rfl (by decide) (by omega) (.slice Ao41 y161.length co41) y161 t177 _ _ _ (fun k_ => some k_ ≠ (.slice Ao47 t177.length co47 : Value).ownBlock ∧ some k_ ≠ (v184 : Value).ownBlock) (fun _ => False) rfl rfl ?aO ?aR (fun _ _ h => h) (fun _ h => h.elim) ?aF ?aB ?aS ?aL ?_
        (case aR => repeat (first | exact (Kd.R_reads' HO179.out).2.2 | (with_reducible refine Kd.C_alloc ?_ _) | (with_reducible refine Kd.C_drewN ?_ _) | (with_reducible refine Kd.C_drew ?_)))
        (case aB => exact (by repeat (first | (with_reducible first | exact HB.out | apply YA | apply YB | apply YC | refine below_set ?_ GE159.out) | exact HB.out)))
        (case aF => exact (fun k_ hk => ⟨Kd.fresh' (Kd.R_lt (by (with_reducible repeat (first | apply YS | apply YT | apply YU)); exact HO179.out)) k_ hk, Kd.fresh' (Kd.R_lt (by (with_reducible repeat (first | apply YS | apply YT | apply YU)); exact HO185.out)) k_ hk⟩))
        (case aO => exact (by (with_reducible repeat (first | apply YS | apply YT | apply YU)); exact Kd.R_mono HO_5.out (fun _ hk => by first | exact ⟨hk.1.2, hk.2⟩ | exact trivial | (simp [hk]; done) | simp_all)))
        (case aS => exact (YE (by repeat (first | (with_reducible first | exact HB.out | apply YA | apply YB | apply YC | refine below_set ?_ GE159.out) | exact HB.out))))
        (case aL => have := LMc37.out; omega)
        intro v181 w46 ho hb hg hat
        rw [← Ny180.out] at ho
        have n0_ := YL (blk_grown (g := gb159) (o := .cells #[.int .i64 a0_0, .int .i64 a0_1, .bool a0_2, .int .i64 a0_3, .int .i64 a0_4, .int .i64 a0_5, .int .i64 a0_6, .int .i64 a0_7, .int .i64 a0_8, .int .i64 a0_9, .int .i64 a0_10, .int .i64 a0_11] 27 (0, 0)) (by (with_reducible repeat (first | refine YF ?_ _ | refine YG ?_ | refine YH ?_ _)); exact BK159.out) hg (Kd.R_ne HO_5.out BK159.out (by decide)))
        have n1_ := YL (Kd.R_after (ok := (fun k_ => some k_ ≠ (v184 : Value).ownBlock)) (by (with_reducible repeat (first | apply YS | apply YT | apply YU)); exact Kd.R_mono HO179.out (fun _ hk => by first | exact ⟨hk.2, hk.1.2⟩ | exact trivial | (simp [hk]; done) | simp_all)) hg hat)
        have n2_ := YL (Kd.R_after (ok := (fun k_ => some k_ ≠ (.slice Ao47 t177.length co47 : Value).ownBlock)) (by (with_reducible repeat (first | apply YS | apply YT | apply YU)); exact Kd.R_mono HO185.out (fun _ hk => by first | exact ⟨hk.2, hk.1.2⟩ | exact trivial | (simp [hk]; done) | simp_all)) hg hat)
        have n3_ := YL (hb)
        have n4_ := YL (ho)
        clear BK159; clear HO179; clear HO185; clear HB; clear HO_5; have BK159 := n0_; have HO179 := n1_; have HO185 := n2_; have HB := n3_; have HO182 := n4_; clear n0_ n1_ n2_ n3_ n4_; clear ho hb hg hat
        refine hK.out _ _ ⟨(YI BK159.out 0).trans rfl, (YI BK159.out 1).trans rfl, (YI BK159.out 2).trans rfl, (YI BK159.out 3).trans rfl, (YI BK159.out 4).trans rfl, (YI BK159.out 5).trans rfl, (YI BK159.out 6).trans rfl, (YI BK159.out 7).trans rfl, (YI BK159.out 8).trans rfl, (YI BK159.out 9).trans rfl, (YI BK159.out 10).trans rfl, (YI BK159.out 11).trans rfl⟩ (fun hHeld => ?_)
        clear hK K
        refine norm_ (a' := ?_) ?_ ?_
        rotate_left
        ·show Act.put _ (some 44) _ = _
         simp only [Act.put, YM, YN, YO, i64_w, i32_w]
         rfl
        exact norm_ (by simp only [putAll, Act.put, YM, YN, YO]) (hCont (.slice Ao47 t177.length co47, v181, v184) _ ⟨hHeld, (by (with_reducible repeat (first | apply YS | apply YT | apply YU)); exact Kd.R_mono HO179.out (fun _ hk => by first | exact ⟨hk.2, hk.1⟩ | exact trivial | (simp [hk]; done) | simp_all)), (by (with_reducible repeat (first | apply YS | apply YT | apply YU)); exact HO182.out), (by (with_reducible repeat (first | apply YS | apply YT | apply YU)); exact HO185.out), (by (with_reducible repeat (first | refine YF ?_ _ | refine YG ?_ | refine YH ?_ _)); exact BK159.out), (by repeat (first | (with_reducible first | exact HB.out | apply YA | apply YB | apply YC | refine below_set ?_ GE159.out) | exact HB.out))⟩)
       skip
       refine Kd.R_lit_step (Kd.int .u8) _ 5 ?hg (N := 53) ?hd (xs := ([(a0_9) % 256, (a0_10) % 256] : List Int)) (inner := [.int .u8 ((a0_9) % 256), .int .u8 ((a0_10) % 256)]) (ok := fun _ => True) (okp := fun _ => True) ?hr ?hp (fun _ hk => hk) trivial (Below.refl _ _) (Nat.le_refl _) (by simp) ?_; (case hd => rfl); (case hg => rfl); (case hr => first | (go_simp; done) | (go_simp; rfl)); (case hp => exact (Reps.one (show Kd.M (Kd.int .u8) _ _ _ ((a0_9) % 256) [.int .u8 ((a0_9) % 256)] from rfl) (Reps.one (show Kd.M (Kd.int .u8) _ _ _ ((a0_10) % 256) [.int .u8 ((a0_10) % 256)] from rfl) (Reps.none _ _))))
       intro v184 w43 ho44 hb hg_ hnew_
       clear hg_ hnew_
       (first | rw [← Ny183.out] at ho44 | (simp only [Int.reduceToNat] at ho44; rw [← Ny183.out] at ho44))
       have n0_ := YL (Kd.R_elder' (by (with_reducible repeat (first | apply YS | apply YT | apply YU)); exact HO_5.out) (Kd.R_base ho44) hb)
       have n1_ := YL (Kd.R_lower (Kd.R_new' ho44 (Kd.R_lt (by (with_reducible repeat (first | apply YS | apply YT | apply YU)); exact HO_5.out))) (YE (by repeat (first | (with_reducible first | exact HB.out | apply YA | apply YB | apply YC | refine below_set ?_ GE159.out) | exact HB.out))))
       have n2_ := YL (YK (g := gb159) (o := .cells #[.int .i64 a0_0, .int .i64 a0_1, .bool a0_2, .int .i64 a0_3, .int .i64 a0_4, .int .i64 a0_5, .int .i64 a0_6, .int .i64 a0_7, .int .i64 a0_8, .int .i64 a0_9, .int .i64 a0_10, .int .i64 a0_11] 27 (0, 0)) (by (with_reducible repeat (first | refine YF ?_ _ | refine YG ?_ | refine YH ?_ _)); exact BK159.out) hb)
       have n3_ := YL (YD (by repeat (first | (with_reducible first | exact HB.out | apply YA | apply YB | apply YC | refine below_set ?_ GE159.out) | exact HB.out)) hb)
       clear HO_5; clear BK159; clear HB; have HO_5 := n0_; have HO185 := n1_; have BK159 := n2_; have HB := n3_; clear n0_ n1_ n2_ n3_; clear hb ho44
       refine hK.out _ _ ⟨(YI BK159.out 0).trans rfl, (YI BK159.out 1).trans rfl, (YI BK159.out 2).trans rfl, (YI BK159.out 3).trans rfl, (YI BK159.out 4).trans rfl, (YI BK159.out 5).trans rfl, (YI BK159.out 6).trans rfl, (YI BK159.out 7).trans rfl, (YI BK159.out 8).trans rfl, (YI BK159.out 9).trans rfl, (YI BK159.out 10).trans rfl, (YI BK159.out 11).trans rfl⟩ (fun hHeld => ?_)
       clear hK K
       refine norm_ (a' := ?_) ?_ ?_
       rotate_left
       ·show Act.put _ (some 53) _ = _
        simp only [Act.put, YM, YN, YO, i64_w, i32_w]
        rfl
       refine one_ (i := 4) (N := some 43) #[true, true, true, true, true, false, true, true, true, true, true, true, true, true, true, false, false] rfl rfl (one_of HT_.out (by kernel_rfl)) (by decide) (fun K hK => ?_)
       refine goes_ Try.func16 (by kernel_rfl) rfl #[.int .i64 a0_8] (by rfl) rfl rfl (by (try simp only [YP, List.map_cons, List.map_nil]); first | done | rfl | (simp only [YR, YQ]; rfl)) ?_
       with_reducible refine (wire_Int.calls a0_8 t177 _ A36.out).mono ?_
       rintro e w45 ⟨v178, rfl, ho0, hb⟩
       refine ⟨_, rfl, ?_⟩
       have n0_ := YL (Kd.R_elder' (by (with_reducible repeat (first | apply YS | apply YT | apply YU)); exact HO_5.out) (Kd.R_base ho0) hb)
       have n1_ := YL (Kd.R_elder' (by (with_reducible repeat (first | apply YS | apply YT | apply YU)); exact HO185.out) (Kd.R_base ho0) hb)
       have n2_ := YL (Kd.R_lower (Kd.R_new' (Kd.R_new' ho0 (Kd.R_lt (by (with_reducible repeat (first | apply YS | apply YT | apply YU)); exact HO_5.out))) (Kd.R_lt (by (with_reducible repeat (first | apply YS | apply YT | apply YU)); exact HO185.out))) (YE (by repeat (first | (with_reducible first | exact HB.out | apply YA | apply YB | apply YC | refine below_set ?_ GE159.out) | exact HB.out))))
       have n3_ := YL (YK (g := gb159) (o := .cells #[.int .i64 a0_0, .int .i64 a0_1, .bool a0_2, .int .i64 a0_3, .int .i64 a0_4, .int .i64 a0_5, .int .i64 a0_6, .int .i64 a0_7, .int .i64 a0_8, .int .i64 a0_9, .int .i64 a0_10, .int .i64 a0_11] 27 (0, 0)) (by (with_reducible repeat (first | refine YF ?_ _ | refine YG ?_ | refine YH ?_ _)); exact BK159.out) hb)
       have n4_ := YL (YD (by repeat (first | (with_reducible first | exact HB.out | apply YA | apply YB | apply YC | refine below_set ?_ GE159.out) | exact HB.out)) hb)
       clear HO_5; clear HO185; clear BK159; clear HB; have HO_5 := n0_; have HO185 := n1_; have HO179 := n2_; have BK159 := n3_; have HB := n4_; clear n0_ n1_ n2_ n3_ n4_; (try clear hb); (try clear hb2); (try clear hk); (try clear hi); (try clear ho0)
       obtain ⟨Ao47, co47, eo47⟩ := Kd.R_slice HO179.out
       (first | subst eo47 | (injection eo47 with f1_ f2_ f3_; have f4_ := f1_.symm; have f5_ := f3_.symm; clear f1_ f2_ f3_; subst f4_; subst f5_))
       refine hK.out _ _ ⟨(YI BK159.out 0).trans rfl, (YI BK159.out 1).trans rfl, (YI BK159.out 2).trans rfl, (YI BK159.out 3).trans rfl, (YI BK159.out 4).trans rfl, (YI BK159.out 5).trans rfl, (YI BK159.out 6).trans rfl, (YI BK159.out 7).trans rfl, (YI BK159.out 8).trans rfl, (YI BK159.out 9).trans rfl, (YI BK159.out 10).trans rfl, (YI BK159.out 11).trans rfl⟩ (fun hHeld => ?_)
       clear hK K
       refine norm_ (a' := ?_) ?_ ?_
       rotate_left
       ·show Act.put _ (some 43) _ = _
        simp only [Act.put, YM, YN, YO, i64_w, i32_w]
        rfl
       refine one_ (i := 5) (N := some 44) #[true, true, true, true, true, true, true, true, true, true, true, true, true, true, true, false, false] rfl rfl (one_of HT_.out (by kernel_rfl)) (by decide) (fun K hK => ?_)
       refine Kd.R_append_rows_step (Kd.int .u8) (w0 := w) w.heap.size (by rfl) (.tmp 39) (.tmp 43) 28 5 (.int .u8 0) 1 rfl Try.underlying28 info5 rfl (by decide) (by omega) (.slice Ao41 y161.length co41) y161 t177 _ _ _ (fun k_ => some k_ ≠ (v184 : Value).ownBlock ∧ some k_ ≠ (.slice Ao47 t177.length co47 : Value).ownBlock) (fun _ => False) rfl rfl ?aO ?aR (fun _ _ h => h) (fun _ h => h.elim) ?aF ?aB ?aS ?aL ?_
       (case aR => repeat (first | exact (Kd.R_reads' HO179.out).2.2 | (with_reducible refine Kd.C_alloc ?_ _) | (with_reducible refine Kd.C_drewN ?_ _) | (with_reducible refine Kd.C_drew ?_)))
       (case aB => exact (by repeat (first | (with_reducible first | exact HB.out | apply YA | apply YB | apply YC | refine below_set ?_ GE159.out) | exact HB.out)))
       (case aF => exact (fun k_ hk => ⟨Kd.fresh' (Kd.R_lt (by (with_reducible repeat (first | apply YS | apply YT | apply YU)); exact HO185.out)) k_ hk, Kd.fresh' (Kd.R_lt (by (with_reducible repeat (first | apply YS | apply YT | apply YU)); exact HO179.out)) k_ hk⟩))
       (case aO => exact (by (with_reducible repeat (first | apply YS | apply YT | apply YU)); exact Kd.R_mono HO_5.out (fun _ hk => by first | exact ⟨hk.1.2, hk.2⟩ | exact trivial | (simp [hk]; done) | simp_all)))
       (case aS => exact (YE (by repeat (first | (with_reducible first | exact HB.out | apply YA | apply YB | apply YC | refine below_set ?_ GE159.out) | exact HB.out))))
       (case aL => have := LMc37.out; omega)
       intro v181 w46 ho hb hg hat
       rw [← Ny180.out] at ho
       have n0_ := YL (blk_grown (g := gb159) (o := .cells #[.int .i64 a0_0, .int .i64 a0_1, .bool a0_2, .int .i64 a0_3, .int .i64 a0_4, .int .i64 a0_5, .int .i64 a0_6, .int .i64 a0_7, .int .i64 a0_8, .int .i64 a0_9, .int .i64 a0_10, .int .i64 a0_11] 27 (0, 0)) (by (with_reducible repeat (first | refine YF ?_ _ | refine YG ?_ | refine YH ?_ _)); exact BK159.out) hg (Kd.R_ne HO_5.out BK159.out (by decide)))
       have n1_ := YL (Kd.R_after (ok := (fun k_ => some k_ ≠ (.slice Ao47 t177.length co47 : Value).ownBlock)) (by (with_reducible repeat (first | apply YS | apply YT | apply YU)); exact Kd.R_mono HO185.out (fun _ hk => by first | exact ⟨hk.2, hk.1.2⟩ | exact trivial | (simp [hk]; done) | simp_all)) hg hat)
       have n2_ := YL (Kd.R_after (ok := (fun k_ => some k_ ≠ (v184 : Value).ownBlock)) (by (with_reducible repeat (first | apply YS | apply YT | apply YU)); exact Kd.R_mono HO179.out (fun _ hk => by first | exact ⟨hk.2, hk.1.2⟩ | exact trivial | (simp [hk]; done) | simp_all)) hg hat)
       have n3_ := YL (hb)
       have n4_ := YL (ho)
       clear BK159; clear HO185; clear HO179; clear HB; clear HO_5; have BK159 := n0_; have HO185 := n1_; have HO179 := n2_; have HB := n3_; have HO182 := n4_; clear n0_ n1_ n2_ n3_ n4_; clear ho hb hg hat
       refine hK.out _ _ ⟨(YI BK159.out 0).trans rfl, (YI BK159.out 1).trans rfl, (YI BK159.out 2).trans rfl, (YI BK159.out 3).trans rfl, (YI BK159.out 4).trans rfl, (YI BK159.out 5).trans rfl, (YI BK159.out 6).trans rfl, (YI BK159.out 7).trans rfl, (YI BK159.out 8).trans rfl, (YI BK159.out 9).trans rfl, (YI BK159.out 10).trans rfl, (YI BK159.out 11).trans rfl⟩ (fun hHeld => ?_)
       clear hK K
       refine norm_ (a' := ?_) ?_ ?_
       rotate_left
       ·show Act.put _ (some 44) _ = _
        simp only [Act.put, YM, YN, YO, i64_w, i32_w]
        rfl
       exact norm_ (by simp only [putAll, Act.put, YM, YN, YO]) (hCont (.slice Ao47 t177.length co47, v181, v184) _ ⟨hHeld, (by (with_reducible repeat (first | apply YS | apply YT | apply YU)); exact Kd.R_mono HO179.out (fun _ hk => by first | exact ⟨hk.2, hk.1⟩ | exact trivial | (simp [hk]; done) | simp_all)), (by (with_reducible repeat (first | apply YS | apply YT | apply YU)); exact Kd.R_mono HO182.out (fun _ hk => by first | exact ⟨hk.2, hk.1⟩ | exact trivial | (simp [hk]; done) | simp_all)), (by (with_reducible repeat (first | apply YS | apply YT | apply YU)); exact HO185.out), (by (with_reducible repeat (first | refine YF ?_ _ | refine YG ?_ | refine YH ?_ _)); exact BK159.out), (by repeat (first | (with_reducible first | exact HB.out | apply YA | apply YB | apply YC | refine below_set ?_ GE159.out) | exact HB.out))⟩)
      rintro ⟨v178, v181, v184⟩ w48 ⟨hS_, h0_, h1_, h2_, h3_, h4_⟩
      have n0_ : Aside0 (Kd.R (Kd.int .u8) 5 w48 w.heap.size (fun k_ => some k_ ≠ (v181 : Value).ownBlock ∧ some k_ ≠ (v184 : Value).ownBlock) v178 t177) := ⟨h0_⟩
      have n1_ : Aside0 (Kd.R (Kd.int .u8) 5 w48 w.heap.size (fun k_ => some k_ ≠ (v178 : Value).ownBlock ∧ some k_ ≠ (v184 : Value).ownBlock) v181 y180) := ⟨h1_⟩
      have n2_ : Aside0 (Kd.R (Kd.int .u8) 5 w48 w.heap.size (fun k_ => some k_ ≠ (v178 : Value).ownBlock ∧ some k_ ≠ (v181 : Value).ownBlock) v184 y183) := ⟨h2_⟩
      have n3_ : Aside0 (w48.heap[gb159]? = some (.cells #[.int .i64 a0_0, .int .i64 a0_1, .bool a0_2, .int .i64 a0_3, .int .i64 a0_4, .int .i64 a0_5, .int .i64 a0_6, .int .i64 a0_7, .int .i64 a0_8, .int .i64 a0_9, .int .i64 a0_10, .int .i64 a0_11] 27 (0, 0))) := ⟨h3_⟩
      have n4_ : Aside0 (Below w.heap.size w w48) := ⟨h4_⟩
      clear HO_5; clear BK159; clear HB; clear h0_ h1_ h2_ h3_ h4_; have HO179 := n0_; have HO182 := n1_; have HO185 := n2_; have BK159 := n3_; have HB := n4_; clear n0_ n1_ n2_ n3_ n4_
      have hHeld : w48.cell? ⟨gb159, 0, none⟩ = some (.int .i64 a0_0) ∧ w48.cell? ⟨gb159, 1, none⟩ = some (.int .i64 a0_1) ∧ w48.cell? ⟨gb159, 2, none⟩ = some (.bool a0_2) ∧ w48.cell? ⟨gb159, 3, none⟩ = some (.int .i64 a0_3) ∧ w48.cell? ⟨gb159, 4, none⟩ = some (.int .i64 a0_4) ∧ w48.cell? ⟨gb159, 5, none⟩ = some (.int .i64 a0_5) ∧ w48.cell? ⟨gb159, 6, none⟩ = some (.int .i64 a0_6) ∧ w48.cell? ⟨gb159, 7, none⟩ = some (.int .i64 a0_7) ∧ w48.cell? ⟨gb159, 8, none⟩ = some (.int .i64 a0_8) ∧ w48.cell? ⟨gb159, 9, none⟩ = some (.int .i64 a0_9) ∧ w48.cell? ⟨gb159, 10, none⟩ = some (.int .i64 a0_10) ∧ w48.cell? ⟨gb159, 11, none⟩ = some (.int .i64 a0_11) := hS_
      obtain ⟨Ao50, co50, eo50⟩ := Kd.R_slice HO185.out
      (first | subst eo50 | (injection eo50 with f1_ f2_ f3_; have f4_ := f1_.symm; have f5_ := f3_.symm; clear f1_ f2_ f3_; subst f4_; subst f5_))
      refine norm_ (a' := ?_) ?_ ?_
      rotate_left
      ·simp only [putAll, Act.put, YM, YN, YO]
       rfl
      refine one_ (i := 15) (N := some 54) #[true, true, true, true, true, true, true, true, true, true, true, true, true, true, true, true, false] rfl rfl (one_of HT_.out (by kernel_rfl)) (by decide) (fun K hK => ?_)
      refine Kd.R_append_rows_step (Kd.int .u8) (w0 := w) w.heap.size (by rfl) (.tmp 44) (.tmp 53) 28 5 (.int .u8 0) 1 rfl Try.underlying28 info5 rfl (by decide) (by omega) v181 y180 y183 _ _ _ (fun k_ => some k_ ≠ (v178 : Value).ownBlock ∧ some k_ ≠ (.slice Ao50 y183.length co50 : Value).ownBlock) (fun _ => False) rfl rfl ?aO ?aR (fun _ _ h => h) (fun _ h => h.elim) ?aF ?aB ?aS ?aL ?_
      (case aR => repeat (first | exact (Kd.R_reads' HO185.out).2.2 | (with_reducible refine Kd.C_alloc ?_ _) | (with_reducible refine Kd.C_drewN ?_ _) | (with_reducible refine Kd.C_drew ?_)))
      (case aB => exact (by repeat (first | (with_reducible first | exact HB.out | apply YA | apply YB | apply YC | refine below_set ?_ GE159.out) | exact HB.out)))
      (case aF => exact (fun k_ hk => ⟨Kd.fresh' (Kd.R_lt (by (with_reducible repeat (first | apply YS | apply YT | apply YU)); exact HO179.out)) k_ hk, Kd.fresh' (Kd.R_lt (by (with_reducible repeat (first | apply YS | apply YT | apply YU)); exact HO185.out)) k_ hk⟩))
      (case aO => exact (by (with_reducible repeat (first | apply YS | apply YT | apply YU)); exact HO182.out))
      (case aS => exact (YE (by repeat (first | (with_reducible first | exact HB.out | apply YA | apply YB | apply YC | refine below_set ?_ GE159.out) | exact HB.out))))
      (case aL => have := LMc38.out; omega)
      intro v187 w49 ho hb hg hat
      rw [← Ny186.out] at ho
      have n0_ := YL (blk_grown (g := gb159) (o := .cells #[.int .i64 a0_0, .int .i64 a0_1, .bool a0_2, .int .i64 a0_3, .int .i64 a0_4, .int .i64 a0_5, .int .i64 a0_6, .int .i64 a0_7, .int .i64 a0_8, .int .i64 a0_9, .int .i64 a0_10, .int .i64 a0_11] 27 (0, 0)) (by (with_reducible repeat (first | refine YF ?_ _ | refine YG ?_ | refine YH ?_ _)); exact BK159.out) hg (Kd.R_ne HO182.out BK159.out (by decide)))
      have n1_ := YL (Kd.R_after (ok := (fun k_ => some k_ ≠ (.slice Ao50 y183.length co50 : Value).ownBlock)) (by (with_reducible repeat (first | apply YS | apply YT | apply YU)); exact Kd.R_mono HO179.out (fun _ hk => by first | exact ⟨hk.2, hk.1⟩ | exact trivial | (simp [hk]; done) | simp_all)) hg hat)
      have n2_ := YL (Kd.R_after (ok := (fun k_ => some k_ ≠ (v178 : Value).ownBlock)) (by (with_reducible repeat (first | apply YS | apply YT | apply YU)); exact HO185.out) hg hat)
      have n3_ := YL (hb)
      have n4_ := YL (ho)
      clear BK159; clear HO179; clear HO185; clear HB; clear HO182; have BK159 := n0_; have HO179 := n1_; have HO185 := n2_; have HB := n3_; have HO188 := n4_; clear n0_ n1_ n2_ n3_ n4_; clear ho hb hg hat
      refine hK.out _ _ ⟨(YI BK159.out 0).trans rfl, (YI BK159.out 1).trans rfl, (YI BK159.out 2).trans rfl, (YI BK159.out 3).trans rfl, (YI BK159.out 4).trans rfl, (YI BK159.out 5).trans rfl, (YI BK159.out 6).trans rfl, (YI BK159.out 7).trans rfl, (YI BK159.out 8).trans rfl, (YI BK159.out 9).trans rfl, (YI BK159.out 10).trans rfl, (YI BK159.out 11).trans rfl⟩ (fun hHeld => ?_)
      clear hK K
      refine norm_ (a' := ?_) ?_ ?_
      rotate_left
      ·show Act.put _ (some 54) _ = _
       simp only [Act.put, YM, YN, YO, i64_w, i32_w]
       rfl
      refine pure_ (i := 16) (N := some 5) (v := ?_) (a' := ?_) #[true, true, true, true, true, true, true, true, true, true, true, true, true, true, true, true, true] rfl rfl (any_of HT_.out (by kernel_rfl)) (fun _ _ _ h => h) (Or.inl ⟨by rfl, ?_⟩) ?_ ?_
      rotate_left
      ·intro w'
       go_simp; with_reducible rfl
      rotate_left
      ·simp only [Act.put, YM, YN, YO, i64_w, i32_w]
       rfl
      refine done_ (done_of HT_.out (by kernel_rfl)) ?_
      have q51_0 : w49.cell? ⟨gb159, 0, none⟩ = some (.int .i64 a0_0) := (YI BK159.out 0).trans rfl
      have q51_1 : w49.cell? ⟨gb159, 1, none⟩ = some (.int .i64 a0_1) := (YI BK159.out 1).trans rfl
      have q51_2 : w49.cell? ⟨gb159, 2, none⟩ = some (.bool a0_2) := (YI BK159.out 2).trans rfl
      have q51_3 : w49.cell? ⟨gb159, 3, none⟩ = some (.int .i64 a0_3) := (YI BK159.out 3).trans rfl
      have q51_4 : w49.cell? ⟨gb159, 4, none⟩ = some (.int .i64 a0_4) := (YI BK159.out 4).trans rfl
      have q51_5 : w49.cell? ⟨gb159, 5, none⟩ = some (.int .i64 a0_5) := (YI BK159.out 5).trans rfl
      have q51_6 : w49.cell? ⟨gb159, 6, none⟩ = some (.int .i64 a0_6) := (YI BK159.out 6).trans rfl
      have q51_7 : w49.cell? ⟨gb159, 7, none⟩ = some (.int .i64 a0_7) := (YI BK159.out 7).trans rfl
      have q51_8 : w49.cell? ⟨gb159, 8, none⟩ = some (.int .i64 a0_8) := (YI BK159.out 8).trans rfl
      have q51_9 : w49.cell? ⟨gb159, 9, none⟩ = some (.int .i64 a0_9) := (YI BK159.out 9).trans rfl
      have q51_10 : w49.cell? ⟨gb159, 10, none⟩ = some (.int .i64 a0_10) := (YI BK159.out 10).trans rfl
      have q51_11 : w49.cell? ⟨gb159, 11, none⟩ = some (.int .i64 a0_11) := (YI BK159.out 11).trans rfl
      have f51_0 := YJ BK159.out 0
      have f51_1 := YJ BK159.out 1
      have f51_2 := YJ BK159.out 2
      have f51_3 := YJ BK159.out 3
      have f51_4 := YJ BK159.out 4
      have f51_5 := YJ BK159.out 5
      have f51_6 := YJ BK159.out 6
      have f51_7 := YJ BK159.out 7
      have f51_8 := YJ BK159.out 8
      have f51_9 := YJ BK159.out 9
      have f51_10 := YJ BK159.out 10
      have f51_11 := YJ BK159.out 11
      try go_wp2_with (first | ((with_reducible refine gate_dst (N := 66) rfl ?_); refine Kd.R_lit (Kd.int .u8) _ 5 ?hg (N := 66) ?hd (xs := ([(a0_11 / 256) % 256, (a0_11) % 256] : List Int)) (inner := [.int .u8 ((a0_11 / 256) % 256), .int .u8 ((a0_11) % 256)]) (ok := fun _ => True) (okp := fun _ => True) ?hr ?hp (fun _ hk => hk) trivial (Below.refl _ _) (Nat.le_refl _) (by simp) ?_; (case hd => rfl); (case hg => rfl); (case hr => first | (go_simp; done) | (go_simp; rfl)); (case hp => exact (Reps.one (show Kd.M (Kd.int .u8) _ _ _ ((a0_11 / 256) % 256) [.int .u8 ((a0_11 / 256) % 256)] from rfl) (Reps.one (show Kd.M (Kd.int .u8) _ _ _ ((a0_11) % 256) [.int .u8 ((a0_11) % 256)] from rfl) (Reps.none _ _)))); intro v190 w52 ho53 hb hg_ hnew_; clear hg_ hnew_; (first | rw [← Ny189.out] at ho53 | (simp only [Int.reduceToNat] at ho53; rw [← Ny189.out] at ho53)); have n0_ := YL (Kd.R_elder' (by (with_reducible repeat (first | apply YS | apply YT | apply YU)); exact HO179.out) (Kd.R_base ho53) hb); have n1_ := YL (Kd.R_elder' (by (with_reducible repeat (first | apply YS | apply YT | apply YU)); exact HO185.out) (Kd.R_base ho53) hb); have n2_ := YL (Kd.R_elder' (by (with_reducible repeat (first | apply YS | apply YT | apply YU)); exact HO188.out) (Kd.R_base ho53) hb); have n3_ := YL (Kd.R_lower (Kd.R_new' (Kd.R_new' (Kd.R_new' ho53 (Kd.R_lt (by (with_reducible repeat (first | apply YS | apply YT | apply YU)); exact HO179.out))) (Kd.R_lt (by (with_reducible repeat (first | apply YS | apply YT | apply YU)); exact HO185.out))) (Kd.R_lt (by (with_reducible repeat (first | apply YS | apply YT | apply YU)); exact HO188.out))) (YE (by repeat (first | (with_reducible first | exact HB.out | apply YA | apply YB | apply YC | refine below_set ?_ GE159.out) | exact HB.out)))); have n4_ := YL (YK (g := gb159) (o := .cells #[.int .i64 a0_0, .int .i64 a0_1, .bool a0_2, .int .i64 a0_3, .int .i64 a0_4, .int .i64 a0_5, .int .i64 a0_6, .int .i64 a0_7, .int .i64 a0_8, .int .i64 a0_9, .int .i64 a0_10, .int .i64 a0_11] 27 (0, 0)) (by (with_reducible repeat (first | refine YF ?_ _ | refine YG ?_ | refine YH ?_ _)); exact BK159.out) hb); have n5_ := YL (YD (by repeat (first | (with_reducible first | exact HB.out | apply YA | apply YB | apply YC | refine below_set ?_ GE159.out) | exact HB.out)) hb); clear HO179; clear HO185; clear HO188; clear BK159; clear HB; have HO179 := n0_; have HO185 := n1_; have HO188 := n2_; have HO191 := n3_; have BK159 := n4_; have HB := n5_; clear n0_ n1_ n2_ n3_ n4_ n5_; clear hb ho53; obtain ⟨Ao55, co55, eo55⟩ := Kd.R_slice HO191.out; subst eo55) | ((with_reducible refine gate_builtin (b := .append) (xs := #[.tmp 58, .tmp 66]) rfl ?_); at_builtin; refine Kd.R_append_rows (Kd.int .u8) (w0 := w) w.heap.size rfl (.tmp 58) (.tmp 66) 28 5 (.int .u8 0) 1 rfl Try.underlying28 info5 rfl (by decide) (by omega) v187 y186 y189 _ _ _ (fun k_ => some k_ ≠ (v178 : Value).ownBlock ∧ some k_ ≠ (.slice Ao50 y183.length co50 : Value).ownBlock ∧ some k_ ≠ (.slice Ao55 y189.length co55 : Value).ownBlock) (fun _ => False) rfl rfl ?aO ?aR (fun _ _ h => h) (fun _ h => h.elim) ?aF ?aB ?aS ?aL ?_; (case aR => repeat (first | exact (Kd.R_reads' HO191.out).2.2 | (with_reducible refine Kd.C_alloc ?_ _) | (with_reducible refine Kd.C_drewN ?_ _) | (with_reducible refine Kd.C_drew ?_))); (case aB => exact (by repeat (first | (with_reducible first | exact HB.out | apply YA | apply YB | apply YC | refine below_set ?_ GE159.out) | exact HB.out))); (case aF => exact (fun k_ hk => ⟨Kd.fresh' (Kd.R_lt (by (with_reducible repeat (first | apply YS | apply YT | apply YU)); exact HO179.out)) k_ hk, Kd.fresh' (Kd.R_lt (by (with_reducible repeat (first | apply YS | apply YT | apply YU)); exact HO185.out)) k_ hk, Kd.fresh' (Kd.R_lt (by (with_reducible repeat (first | apply YS | apply YT | apply YU)); exact HO191.out)) k_ hk⟩)); (case aO => exact (by (with_reducible repeat (first | apply YS | apply YT | apply YU)); exact Kd.R_mono HO188.out (fun _ hk => by first | exact ⟨hk.1.1, ⟨hk.1.2, hk.2⟩⟩ | exact trivial | (simp [hk]; done) | simp_all))); (case aS => exact (YE (by repeat (first | (with_reducible first | exact HB.out | apply YA | apply YB | apply YC | refine below_set ?_ GE159.out) | exact HB.out)))); (case aL => have := LMc40.out; omega); intro v193 w54 ho hb hg hat; rw [← Ny192.out] at ho; have n0_ := YL (blk_grown (g := gb159) (o := .cells #[.int .i64 a0_0, .int .i64 a0_1, .bool a0_2, .int .i64 a0_3, .int .i64 a0_4, .int .i64 a0_5, .int .i64 a0_6, .int .i64 a0_7, .int .i64 a0_8, .int .i64 a0_9, .int .i64 a0_10, .int .i64 a0_11] 27 (0, 0)) (by (with_reducible repeat (first | refine YF ?_ _ | refine YG ?_ | refine YH ?_ _)); exact BK159.out) hg (Kd.R_ne HO188.out BK159.out (by decide))); have n1_ := YL (Kd.R_after (ok := (fun k_ => some k_ ≠ (.slice Ao50 y183.length co50 : Value).ownBlock ∧ some k_ ≠ (.slice Ao55 y189.length co55 : Value).ownBlock)) (by (with_reducible repeat (first | apply YS | apply YT | apply YU)); exact Kd.R_mono HO179.out (fun _ hk => by first | exact ⟨⟨hk.1.1, hk.2⟩, hk.1.2⟩ | exact trivial | (simp [hk]; done) | simp_all)) hg hat); have n2_ := YL (Kd.R_after (ok := (fun k_ => some k_ ≠ (v178 : Value).ownBlock ∧ some k_ ≠ (.slice Ao55 y189.length co55 : Value).ownBlock)) (by (with_reducible repeat (first | apply YS | apply YT | apply YU)); exact Kd.R_mono HO185.out (fun _ hk => by first | exact ⟨⟨hk.1.1, hk.2⟩, hk.1.2⟩ | exact trivial | (simp [hk]; done) | simp_all)) hg hat); have n3_ := YL (Kd.R_after (ok := (fun k_ => some k_ ≠ (v178 : Value).ownBlock ∧ some k_ ≠ (.slice Ao50 y183.length co50 : Value).ownBlock)) (by (with_reducible repeat (first | apply YS | apply YT | apply YU)); exact Kd.R_mono HO191.out (fun _ hk => by first | exact ⟨⟨hk.1.1.2, hk.1.2⟩, hk.2⟩ | exact trivial | (simp [hk]; done) | simp_all)) hg hat); have n4_ := YL (hb); have n5_ := YL (ho); clear BK159; clear HO179; clear HO185; clear HO191; clear HB; clear HO188; have BK159 := n0_; have HO179 := n1_; have HO185 := n2_; have HO191 := n3_; have HB := n4_; have HO194 := n5_; clear n0_ n1_ n2_ n3_ n4_ n5_; clear ho hb hg hat))
      go_ret2
      exact ⟨_, by first | rfl | (simp [errW_none, errW_some] <;> rfl) | (simp [*, errW_none, errW_some] <;> rfl), by (with_reducible repeat (first | apply YS | apply YT | apply YU)); exact Kd.R_mono HO194.out (fun _ hk => trivial), by repeat (first | (with_reducible first | exact HB.out | apply YA | apply YB | apply YC | refine below_set ?_ GE159.out) | exact HB.out)⟩
     rw [if_neg c39] at H
     have c39b0 : (a0_0 == 4) = false := beq_eq_false_iff_ne.mpr c39
     have c39b1 : (a0_0 != 4) = true := bne_iff_ne.mpr c39
     simp only [Option.some.injEq, Prod.mk.injEq] at H
     obtain ⟨rfl, rfl⟩ := H
     obtain ⟨Ao56, co56, eo56⟩ := Kd.R_slice HO_5.out
     subst eo56
     try go_wp2
     have n0_ := YL (YU HO_5.out)
     have n1_ := YL (YG BK159.out)
     have n2_ := YL (YC HB.out)
     clear HO_5; clear BK159; clear HB; have HO_5 := n0_; have BK159 := n1_; have HB := n2_; clear n0_ n1_ n2_
     refine start_ (n := 17) (S := fun w' => w'.cell? ⟨gb159, 0, none⟩ = some (.int .i64 a0_0) ∧ w'.cell? ⟨gb159, 1, none⟩ = some (.int .i64 a0_1) ∧ w'.cell? ⟨gb159, 2, none⟩ = some (.bool a0_2) ∧ w'.cell? ⟨gb159, 3, none⟩ = some (.int .i64 a0_3) ∧ w'.cell? ⟨gb159, 4, none⟩ = some (.int .i64 a0_4) ∧ w'.cell? ⟨gb159, 5, none⟩ = some (.int .i64 a0_5) ∧ w'.cell? ⟨gb159, 6, none⟩ = some (.int .i64 a0_6) ∧ w'.cell? ⟨gb159, 7, none⟩ = some (.int .i64 a0_7) ∧ w'.cell? ⟨gb159, 8, none⟩ = some (.int .i64 a0_8) ∧ w'.cell? ⟨gb159, 9, none⟩ = some (.int .i64 a0_9) ∧ w'.cell? ⟨gb159, 10, none⟩ = some (.int .i64 a0_10) ∧ w'.cell? ⟨gb159, 11, none⟩ = some (.int .i64 a0_11)) (ds := []) #[false, false, false, false, false, false, false, false, false, false, false, false, false, false, false, false, false] (by kernel_rfl) rfl rfl ⟨(YI BK159.out 0).trans rfl, (YI BK159.out 1).trans rfl, (YI BK159.out 2).trans rfl, (YI BK159.out 3).trans rfl, (YI BK159.out 4).trans rfl, (YI BK159.out 5).trans rfl, (YI BK159.out 6).trans rfl, (YI BK159.out 7).trans rfl, (YI BK159.out 8).trans rfl, (YI BK159.out 9).trans rfl, (YI BK159.out 10).trans rfl, (YI BK159.out 11).trans rfl⟩ (fun hHeld => ?_); refine with_tabW object_Bytes.tab13 object_Bytes.bits13 (fun HT_ HW_ => ?_)
     generalize wc.drew = w57 at HO_5 BK159 HB hHeld ⊢
     refine pure_ (i := 0) (N := some 39) (v := ?_) (a' := ?_) #[true, false, false, false, false, false, false, false, false, false, false, false, false, false, false, false, false] rfl rfl (any_of HT_.out (by kernel_rfl)) (fun _ _ _ h => h) (Or.inl ⟨by rfl, ?_⟩) ?_ ?_
     rotate_left
     ·intro w'
      go_simp; with_reducible rfl
     rotate_left
     ·simp only [Act.put, YM, YN, YO, i64_w, i32_w]
      rfl
     refine pure_ (i := 1) (N := some 40) (v := ?_) (a' := ?_) #[true, true, false, false, false, false, false, false, false, false, false, false, false, false, false, false, false] rfl rfl (any_of HT_.out (by kernel_rfl)) (fun _ _ _ h => h) (Or.inl ⟨by rfl, ?_⟩) ?_ ?_
     rotate_left
     ·intro w'
      go_simp; with_reducible rfl
     rotate_left
     ·simp only [Act.put, YM, YN, YO, i64_w, i32_w]
      rfl
     refine pure_ (i := 2) (N := some 41) (v := ?_) (a' := ?_) #[true, true, true, false, false, false, false, false, false, false, false, false, false, false, false, false, false] rfl rfl (any_of HT_.out (by kernel_rfl)) (fun _ _ _ h => h) (Or.inl ⟨by rfl, ?_⟩) ?_ ?_
     rotate_left
     ·intro w'
      go_simp; with_reducible rfl
     rotate_left
     ·simp only [Act.put, YM, YN, YO, i64_w, i32_w]
      rfl
     refine pure_ (i := 6) (N := some 45) (v := ?_) (a' := ?_) #[true, true, true, false, false, false, true, false, false, false, false, false, false, false, false, false, false] rfl rfl (any_of HT_.out (by kernel_rfl)) (fun _ _ _ h => h) (Or.inl ⟨by rfl, ?_⟩) ?_ ?_
     rotate_left
     ·intro w'
      go_simp; with_reducible rfl
     rotate_left
     ·simp only [Act.put, YM, YN, YO, i64_w, i32_w]
      rfl
     refine pure_ (i := 7) (N := some 46) (v := ?_) (a' := ?_) #[true, true, true, false, false, false, true, true, false, false, false, false, false, false, false, false, false] rfl rfl (any_of HT_.out (by kernel_rfl)) (fun _ _ _ h => h) (Or.inl ⟨by rfl, ?_⟩) ?_ ?_
     rotate_left
     ·intro w'
      go_simp; with_reducible rfl
     rotate_left
     ·simp only [Act.put, YM, YN, YO, i64_w, i32_w]
      rfl
     refine pure_ (i := 10) (N := some 49) (v := ?_) (a' := ?_) #[true, true, true, false, false, false, true, true, false, false, true, false, false, false, false, false, false] rfl rfl (any_of HT_.out (by kernel_rfl)) (fun _ _ _ h => h) (Or.inl ⟨by rfl, ?_⟩) ?_ ?_
     rotate_left
     ·intro w'
      go_simp; with_reducible rfl
     rotate_left
     ·simp only [Act.put, YM, YN, YO, i64_w, i32_w]
      rfl
     refine pure_ (i := 11) (N := some 50) (v := ?_) (a' := ?_) #[true, true, true, false, false, false, true, true, false, false, true, true, false, false, false, false, false] rfl rfl (any_of HT_.out (by kernel_rfl)) (fun _ _ _ h => h) (Or.inl ⟨by rfl, ?_⟩) ?_ ?_
     rotate_left
     ·intro w'
      go_simp; with_reducible rfl
     rotate_left
     ·simp only [Act.put, YM, YN, YO, i64_w, i32_w]
      rfl
     refine take_ (i := 3) (N := some 42) (v := ?_) (a' := ?_) #[true, true, true, true, false, false, true, true, false, false, true, true, false, false, false, false, false] rfl rfl (take_ofW HT_.out HW_.out (by kernel_rfl)) (fun _ _ _ h => h) (Or.inl ⟨by rfl, ?_⟩) hHeld ?_ ?_
     rotate_left
     ·rintro w' ⟨s0, s1, s2, s3, s4, s5, s6, s7, s8, s9, s10, s11⟩
      go_simp; with_reducible rfl
     rotate_left
     ·simp only [Act.put, YM, YN, YO, i64_w, i32_w]
      rfl
     refine take_ (i := 8) (N := some 47) (v := ?_) (a' := ?_) #[true, true, true, true, false, false, true, true, true, false, true, true, false, false, false, false, false] rfl rfl (take_ofW HT_.out HW_.out (by kernel_rfl)) (fun _ _ _ h => h) (Or.inl ⟨by rfl, ?_⟩) hHeld ?_ ?_
     rotate_left
     ·rintro w' ⟨s0, s1, s2, s3, s4, s5, s6, s7, s8, s9, s10, s11⟩
      go_simp; with_reducible rfl
     rotate_left
     ·simp only [Act.put, YM, YN, YO, i64_w, i32_w]
      rfl
     refine pure_ (i := 9) (N := some 48) (v := ?_) (a' := ?_) #[true, true, true, true, false, false, true, true, true, true, true, true, false, false, false, false, false] rfl rfl (any_of HT_.out (by kernel_rfl)) (fun _ _ _ h => h) (Or.inl ⟨by rfl, ?_⟩) ?_ ?_
     rotate_left
     ·intro w'
      go_simp; with_reducible rfl
     rotate_left
     ·simp only [Act.put, YM, YN, YO, i64_w, i32_w]
      rfl
     refine take_ (i := 12) (N := some 51) (v := ?_) (a' := ?_) #[true, true, true, true, false, false, true, true, true, true, true, true, true, false, false, false, false] rfl rfl (take_ofW HT_.out HW_.out (by kernel_rfl)) (fun _ _ _ h => h) (Or.inl ⟨by rfl, ?_⟩) hHeld ?_ ?_
     rotate_left
     ·rintro w' ⟨s0, s1, s2, s3, s4, s5, s6, s7, s8, s9, s10, s11⟩
      go_simp; with_reducible rfl
     rotate_left
     ·simp only [Act.put, YM, YN, YO, i64_w, i32_w]
      rfl
     refine pure_ (i := 13) (N := some 52) (v := ?_) (a' := ?_) #[true, true, true, true, false, false, true, true, true, true, true, true, true, true, false, false, false] rfl rfl (any_of HT_.out (by kernel_rfl)) (fun _ _ _ h => h) (Or.inl ⟨by rfl, ?_⟩) ?_ ?_
     rotate_left
     ·intro w'
      go_simp; with_reducible rfl
     rotate_left
     ·simp only [Act.put, YM, YN, YO, i64_w, i32_w]
      rfl
     refine join_ (σ := Value × Value × Value) 2 #[true, true, true, true, true, true, true, true, true, true, true, true, true, true, true, false, false] (fun s_ => [(43, s_.1), (44, s_.2.1), (53, s_.2.2)]) (fun s_ w' => (w'.cell? ⟨gb159, 0, none⟩ = some (.int .i64 a0_0) ∧ w'.cell? ⟨gb159, 1, none⟩ = some (.int .i64 a0_1) ∧ w'.cell? ⟨gb159, 2, none⟩ = some (.bool a0_2) ∧ w'.cell? ⟨gb159, 3, none⟩ = some (.int .i64 a0_3) ∧ w'.cell? ⟨gb159, 4, none⟩ = some (.int .i64 a0_4) ∧ w'.cell? ⟨gb159, 5, none⟩ = some (.int .i64 a0_5) ∧ w'.cell? ⟨gb159, 6, none⟩ = some (.int .i64 a0_6) ∧ w'.cell? ⟨gb159, 7, none⟩ = some (.int .i64 a0_7) ∧ w'.cell? ⟨gb159, 8, none⟩ = some (.int .i64 a0_8) ∧ w'.cell? ⟨gb159, 9, none⟩ = some (.int .i64 a0_9) ∧ w'.cell? ⟨gb159, 10, none⟩ = some (.int .i64 a0_10) ∧ w'.cell? ⟨gb159, 11, none⟩ = some (.int .i64 a0_11)) ∧ (Kd.R (Kd.int .u8) 5 w' w.heap.size (fun k_ => some k_ ≠ (s_.2.1 : Value).ownBlock ∧ some k_ ≠ (s_.2.2 : Value).ownBlock) s_.1 t177) ∧ (Kd.R (Kd.int .u8) 5 w' w.heap.size (fun k_ => some k_ ≠ (s_.1 : Value).ownBlock ∧ some k_ ≠ (s_.2.2 : Value).ownBlock) s_.2.1 y180) ∧ (Kd.R (Kd.int .u8) 5 w' w.heap.size (fun k_ => some k_ ≠ (s_.1 : Value).ownBlock ∧ some k_ ≠ (s_.2.1 : Value).ownBlock) s_.2.2 y183) ∧ (w'.heap[gb159]? = some (.cells #[.int .i64 a0_0, .int .i64 a0_1, .bool a0_2, .int .i64 a0_3, .int .i64 a0_4, .int .i64 a0_5, .int .i64 a0_6, .int .i64 a0_7, .int .i64 a0_8, .int .i64 a0_9, .int .i64 a0_10, .int .i64 a0_11] 27 (0, 0))) ∧ (Below w.heap.size w w')) ?_ ?_
     rotate_left
     ·intro hCont
      refine two_ (i := 4) (j := 14) (Ni := some 43) (Nj := some 53) #[true, true, true, true, true, false, true, true, true, true, true, true, true, true, false, false, false] #[true, true, true, true, false, false, true, true, true, true, true, true, true, true, true, false, false] rfl rfl rfl rfl (two_of HT_.out (by kernel_rfl)) (by decide) (by decide) (fun K hK => ?_) (fun K hK => ?_)
      ·skip
       refine goes_ Try.func16 (by kernel_rfl) rfl #[.int .i64 a0_8] (by rfl) rfl rfl (by (try simp only [YP, List.map_cons, List.map_nil]); first | done | rfl | (simp only [YR, YQ]; rfl)) ?_
       with_reducible refine (wire_Int.calls a0_8 t177 _ A36.out).mono ?_
       rintro e w58 ⟨v178, rfl, ho0, hb⟩
       refine ⟨_, rfl, ?_⟩
       have n0_ := YL (Kd.R_elder' (by (with_reducible repeat (first | apply YS | apply YT | apply YU)); exact HO_5.out) (Kd.R_base ho0) hb)
       have n1_ := YL (Kd.R_lower (Kd.R_new' ho0 (Kd.R_lt (by (with_reducible repeat (first | apply YS | apply YT | apply YU)); exact HO_5.out))) (YE (by repeat (first | (with_reducible first | exact HB.out | apply YA | apply YB | apply YC | refine below_set ?_ GE159.out) | exact HB.out))))
       have n2_ := YL (YK (g := gb159) (o := .cells #[.int .i64 a0_0, .int .i64 a0_1, .bool a0_2, .int .i64 a0_3, .int .i64 a0_4, .int .i64 a0_5, .int .i64 a0_6, .int .i64 a0_7, .int .i64 a0_8, .int .i64 a0_9, .int .i64 a0_10, .int .i64 a0_11] 27 (0, 0)) (by (with_reducible repeat (first | refine YF ?_ _ | refine YG ?_ | refine YH ?_ _)); exact BK159.out) hb)
       have n3_ := YL (YD (by repeat (first | (with_reducible first | exact HB.out | apply YA | apply YB | apply YC | refine below_set ?_ GE159.out) | exact HB.out)) hb)
       clear HO_5; clear BK159; clear HB; have HO_5 := n0_; have HO179 := n1_; have BK159 := n2_; have HB := n3_; clear n0_ n1_ n2_ n3_; (try clear hb); (try clear hb2); (try clear hk); (try clear hi); (try clear ho0)
       obtain ⟨Ao60, co60, eo60⟩ := Kd.R_slice HO179.out
       (first | subst eo60 | (injection eo60 with f1_ f2_ f3_; have f4_ := f1_.symm; have f5_ := f3_.symm; clear f1_ f2_ f3_; subst f4_; subst f5_))
       refine hK.out _ _ ⟨(YI BK159.out 0).trans rfl, (YI BK159.out 1).trans rfl, (YI BK159.out 2).trans rfl, (YI BK159.out 3).trans rfl, (YI BK159.out 4).trans rfl, (YI BK159.out 5).trans rfl, (YI BK159.out 6).trans rfl, (YI BK159.out 7).trans rfl, (YI BK159.out 8).trans rfl, (YI BK159.out 9).trans rfl, (YI BK159.out 10).trans rfl, (YI BK159.out 11).trans rfl⟩ (fun hHeld => ?_)
       clear hK K
       refine norm_ (a' := ?_) ?_ ?_
       rotate_left
       ·show Act.put _ (some 43) _ = _
        simp only [Act.put, YM, YN, YO, i64_w, i32_w]
        rfl
       refine two_ (i := 5) (j := 14) (Ni := some 44) (Nj := some 53) #[true, true, true, true, true, true, true, true, true, true, true, true, true, true, false, false, false] #[true, true, true, true, true, false, true, true, true, true, true, true, true, true, true, false, false] rfl rfl rfl rfl (two_of HT_.out (by kernel_rfl)) (by decide) (by decide) (fun K hK => ?_) (fun K hK => ?_)
       ·skip
        refine Kd.R_append_rows_step (Kd.int .u8) (w0 := w) w.heap.size (by rfl) (.tmp 39) (.tmp 43) 28 5 (.int .u8 0) 1 rfl Try.underlying28 info5 rfl (by decide) (by omega) (.slice Ao56 y161.length co56) y161 t177 _ _ _ (fun k_ => some k_ ≠ (.slice Ao60 t177.length co60 : Value).ownBlock) (fun _ => False) rfl rfl ?aO ?aR (fun _ _ h => h) (fun _ h => h.elim) ?aF ?aB ?aS ?aL ?_
        (case aR => repeat (first | exact (Kd.R_reads' HO179.out).2.2 | (with_reducible refine Kd.C_alloc ?_ _) | (with_reducible refine Kd.C_drewN ?_ _) | (with_reducible refine Kd.C_drew ?_)))
        (case aB => exact (by repeat (first | (with_reducible first | exact HB.out | apply YA | apply YB | apply YC | refine below_set ?_ GE159.out) | exact HB.out)))
        (case aF => exact (fun k_ hk => Kd.fresh' (Kd.R_lt (by (with_reducible repeat (first | apply YS | apply YT | apply YU)); exact HO179.out)) k_ hk))
        (case aO => exact (by (with_reducible repeat (first | apply YS | apply YT | apply YU)); exact Kd.R_mono HO_5.out (fun _ hk => by first | exact hk.2 | exact trivial | (simp [hk]; done) | simp_all)))
        (case aS => exact (YE (by repeat (first | (with_reducible first | exact HB.out | apply YA | apply YB | apply YC | refine below_set ?_ GE159.out) | exact HB.out))))
        (case aL => have := LMc37.out; omega)
        intro v181 w59 ho hb hg hat
        rw [← Ny180.out] at ho
        have n0_ := YL (blk_grown (g := gb159) (o := .cells #[.int .i64 a0_0, .int .i64 a0_1, .bool a0_2, .int .i64 a0_3, .int .i64 a0_4, .int .i64 a0_5, .int .i64 a0_6, .int .i64 a0_7, .int .i64 a0_8, .int .i64 a0_9, .int .i64 a0_10, .int .i64 a0_11] 27 (0, 0)) (by (with_reducible repeat (first | refine YF ?_ _ | refine YG ?_ | refine YH ?_ _)); exact BK159.out) hg (Kd.R_ne HO_5.out BK159.out (by decide)))
        have n1_ := YL (Kd.R_after (ok := (fun _ => True)) (by (with_reducible repeat (first | apply YS | apply YT | apply YU)); exact HO179.out) hg hat)
        have n2_ := YL (hb)
        have n3_ := YL (ho)
        clear BK159; clear HO179; clear HB; clear HO_5; have BK159 := n0_; have HO179 := n1_; have HB := n2_; have HO182 := n3_; clear n0_ n1_ n2_ n3_; clear ho hb hg hat
        refine hK.out _ _ ⟨(YI BK159.out 0).trans rfl, (YI BK159.out 1).trans rfl, (YI BK159.out 2).trans rfl, (YI BK159.out 3).trans rfl, (YI BK159.out 4).trans rfl, (YI BK159.out 5).trans rfl, (YI BK159.out 6).trans rfl, (YI BK159.out 7).trans rfl, (YI BK159.out 8).trans rfl, (YI BK159.out 9).trans rfl, (YI BK159.out 10).trans rfl, (YI BK159.out 11).trans rfl⟩ (fun hHeld => ?_)
        clear hK K
        refine norm_ (a' := ?_) ?_ ?_
        rotate_left
        ·show Act.put _ (some 44) _ = _
         simp only [Act.put, YM, YN, YO, i64_w, i32_w]
         rfl
        refine one_ (i := 14) (N := some 53) #[true, true, true, true, true, true, true, true, true, true, true, true, true, true, true, false, false] rfl rfl (one_of HT_.out (by kernel_rfl)) (by decide) (fun K hK => ?_)
        refine Kd.R_lit_step (Kd.int .u8) _ 5 ?hg (N := 53) ?hd (xs := ([(a0_9) % 256, (a0_10) % 256] : List Int)) (inner := [.int .u8 ((a0_9) % 256), .int .u8 ((a0_10) % 256)]) (ok := fun _ => True) (okp := fun _ => True) ?hr ?hp (fun _ hk => hk) trivial (Below.refl _ _) (Nat.le_refl _) (by simp) ?_; (case hd => rfl); (case hg => rfl); (case hr => first | (go_simp; done) | (go_simp; rfl)); (case hp => exact (Reps.one (show Kd.M (Kd.int .u8) _ _ _ ((a0_9) % 256) [.int .u8 ((a0_9) % 256)] from rfl) (Reps.one (show Kd.M (Kd.int .u8) _ _ _ ((a0_10) % 256) [.int .u8 ((a0_10) % 256)] from rfl) (Reps.none _ _))))
        intro v184 w61 ho62 hb hg_ hnew_
        clear hg_ hnew_
        (first | rw [← Ny183.out] at ho62 | (simp only [Int.reduceToNat] at ho62; rw [← Ny183.out] at ho62))
        have n0_ := YL (Kd.R_elder' (by (with_reducible repeat (first | apply YS | apply YT | apply YU)); exact HO179.out) (Kd.R_base ho62) hb)
        have n1_ := YL (Kd.R_elder' (by (with_reducible repeat (first | apply YS | apply YT | apply YU)); exact HO182.out) (Kd.R_base ho62) hb)
        have n2_ := YL (Kd.R_lower (Kd.R_new' (Kd.R_new' ho62 (Kd.R_lt (by (with_reducible repeat (first | apply YS | apply YT | apply YU)); exact HO179.out))) (Kd.R_lt (by (with_reducible repeat (first | apply YS | apply YT | apply YU)); exact HO182.out))) (YE (by repeat (first | (with_reducible first | exact HB.out | apply YA | apply YB | apply YC | refine below_set ?_ GE159.out) | exact HB.out))))
        have n3_ := YL (YK (g := gb159) (o := .cells #[.int .i64 a0_0, .int .i64 a0_1, .bool a0_2, .int .i64 a0_3, .int .i64 a0_4, .int .i64 a0_5, .int .i64 a0_6, .int .i64 a0_7, .int .i64 a0_8, .int .i64 a0_9, .int .i64 a0_10, .int .i64 a0_11] 27 (0, 0)) (by (with_reducible repeat (first | refine YF ?_ _ | refine YG ?_ | refine YH ?_ _)); exact BK159.out) hb)
        have n4_ := YL (YD (by repeat (first | (with_reducible first | exact HB.out | apply YA | apply YB | apply YC | refine below_set ?_ GE159.out) | exact HB.out)) hb)
        clear HO179; clear HO182; clear BK159; clear HB; have HO179 := n0_; have HO182 := n1_; have HO185 := n2_; have BK159 := n3_; have HB := n4_; clear n0_ n1_ n2_ n3_ n4_; clear hb ho62
        refine hK.out _ _ ⟨(YI BK159.out 0).trans rfl, (YI BK159.out 1).trans rfl, (YI BK159.out 2).trans rfl, (YI BK159.out 3).trans rfl, (YI BK159.out 4).trans rfl, (YI BK159.out 5).trans rfl, (YI BK159.out 6).trans rfl, (YI BK159.out 7).trans rfl, (YI BK159.out 8).trans rfl, (YI BK159.out 9).trans rfl, (YI BK159.out 10).trans rfl, (YI BK159.out 11).trans rfl⟩ (fun hHeld => ?_)
        clear hK K
        refine norm_ (a' := ?_) ?_ ?_
        rotate_left
        ·show Act.put _ (some 53) _ = _
         simp only [Act.put, YM, YN, YO, i64_w, i32_w]
         rfl
        exact norm_ (by simp only [putAll, Act.put, YM, YN, YO]) (hCont (.slice Ao60 t177.length co60, v181, v184) _ ⟨hHeld, (by (with_reducible repeat (first | apply YS | apply YT | apply YU)); exact Kd.R_mono HO179.out (fun _ hk => by first | exact ⟨hk.1.2, hk.2⟩ | exact trivial | (simp [hk]; done) | simp_all)), (by (with_reducible repeat (first | apply YS | apply YT | apply YU)); exact HO182.out), (by (with_reducible repeat (first | apply YS | apply YT | apply YU)); exact Kd.R_mono HO185.out (fun _ hk => by first | exact ⟨hk.1.2, hk.2⟩ | exact trivial | (simp [hk]; done) | simp_all)), (by (with_reducible repeat (first | refine YF ?_ _ | refine YG ?_ | refine YH ?_ _)); exact BK159.out), (by repeat (first | (with_reducible first | exact HB.out | apply YA | apply YB | apply YC | refine below_set ?_ GE159.out) | exact HB.out))⟩)
       skip
       refine Kd.R_lit_step (Kd.int .u8) _ 5 ?hg (N := 53) ?hd (xs := ([(a0_9) % 256, (a0_10) % 256] : List Int)) (inner := [.int .u8 ((a0_9) % 256), .int .u8 ((a0_10) % 256)]) (ok := fun _ => True) (okp := fun _ => True) ?hr ?hp (fun _ hk => hk) trivial (Below.refl _ _) (Nat.le_refl _) (by simp) ?_; (case hd => rfl); (case hg => rfl); (case hr => first | (go_simp; done) | (go_simp; rfl)); (case hp => exact (Reps.one (show Kd.M (Kd.int .u8) _ _ _ ((a0_9) % 256) [.int .u8 ((a0_9) % 256)] from rfl) (Reps.one (show Kd.M (Kd.int .u8) _ _ _ ((a0_10) % 256) [.int .u8 ((a0_10) % 256)] from rfl) (Reps.none _ _))))
       intro v184 w59 ho60 hb hg_ hnew_
       clear hg_ hnew_
       (first | rw [← Ny183.out] at ho60 | (simp only [Int.reduceToNat] at ho60; rw [← Ny183.out] at ho60))
       have n0_ := YL (Kd.R_elder' (by (with_reducible repeat (first | apply YS | apply YT | apply YU)); exact HO_5.out) (Kd.R_base ho60) hb)
       have n1_ := YL (Kd.R_elder' (by (with_reducible repeat (first | apply YS | apply YT | apply YU)); exact HO179.out) (Kd.R_base ho60) hb)
       have n2_ := YL (Kd.R_lower (Kd.R_new' (Kd.R_new' ho60 (Kd.R_lt (by (with_reducible repeat (first | apply YS | apply YT | apply YU)); exact HO_5.out))) (Kd.R_lt (by (with_reducible repeat (first | apply YS | apply YT | apply YU)); exact HO179.out))) (YE (by repeat (first | (with_reducible first | exact HB.out | apply YA | apply YB | apply YC | refine below_set ?_ GE159.out) | exact HB.out))))
       have n3_ := YL (YK (g := gb159) (o := .cells #[.int .i64 a0_0, .int .i64 a0_1, .bool a0_2, .int .i64 a0_3, .int .i64 a0_4, .int .i64 a0_5, .int .i64 a0_6, .int .i64 a0_7, .int .i64 a0_8, .int .i64 a0_9, .int .i64 a0_10, .int .i64 a0_11] 27 (0, 0)) (by (with_reducible repeat (first | refine YF ?_ _ | refine YG ?_ | refine YH ?_ _)); exact BK159.out) hb)
       have n4_ := YL (YD (by repeat (first | (with_reducible first | exact HB.out | apply YA | apply YB | apply YC | refine below_set ?_ GE159.out) | exact HB.out)) hb)
       clear HO_5; clear HO179; clear BK159; clear HB; have HO_5 := n0_; have HO179 := n1_; have HO185 := n2_; have BK159 := n3_; have HB := n4_; clear n0_ n1_ n2_ n3_ n4_; clear hb ho60
       obtain ⟨Ao62, co62, eo62⟩ := Kd.R_slice HO179.out
       (first | subst eo62 | (injection eo62 with f1_ f2_ f3_; have f4_ := f1_.symm; have f5_ := f3_.symm; clear f1_ f2_ f3_; subst f4_; subst f5_))
       refine hK.out _ _ ⟨(YI BK159.out 0).trans rfl, (YI BK159.out 1).trans rfl, (YI BK159.out 2).trans rfl, (YI BK159.out 3).trans rfl, (YI BK159.out 4).trans rfl, (YI BK159.out 5).trans rfl, (YI BK159.out 6).trans rfl, (YI BK159.out 7).trans rfl, (YI BK159.out 8).trans rfl, (YI BK159.out 9).trans rfl, (YI BK159.out 10).trans rfl, (YI BK159.out 11).trans rfl⟩ (fun hHeld => ?_)
       clear hK K
       refine norm_ (a' := ?_) ?_ ?_
       rotate_left
       ·show Act.put _ (some 53) _ = _
        simp only [Act.put, YM, YN, YO, i64_w, i32_w]
        rfl
       refine one_ (i := 5) (N := some 44) #[true, true, true, true, true, true, true, true, true, true, true, true, true, true, true, false, false] rfl rfl (one_of HT_.out (by kernel_rfl)) (by decide) (fun K hK => ?_)
       refine Kd.R_append_rows_step (Kd.int .u8) (w0 := w) w.heap.size (by rfl) (.tmp 39) (.tmp 43) 28 5 (.int .u8 0) 1 rfl Try.underlying28 info5 rfl (by decide) (by omega) (.slice Ao56 y161.length co56) y161 t177 _ _ _ (fun k_ => some k_ ≠ (.slice Ao62 t177.length co62 : Value).ownBlock ∧ some k_ ≠ (v184 : Value).ownBlock) (fun _ => False) rfl rfl ?aO ?aR (fun _ _ h => h) (fun _ h => h.elim) ?aF ?aB ?aS ?aL ?_
       (case aR => repeat (first | exact (Kd.R_reads' HO179.out).2.2 | (with_reducible refine Kd.C_alloc ?_ _) | (with_reducible refine Kd.C_drewN ?_ _) | (with_reducible refine Kd.C_drew ?_)))
       (case aB => exact (by repeat (first | (with_reducible first | exact HB.out | apply YA | apply YB | apply YC | refine below_set ?_ GE159.out) | exact HB.out)))
       (case aF => exact (fun k_ hk => ⟨Kd.fresh' (Kd.R_lt (by (with_reducible repeat (first | apply YS | apply YT | apply YU)); exact HO179.out)) k_ hk, Kd.fresh' (Kd.R_lt (by (with_reducible repeat (first | apply YS | apply YT | apply YU)); exact HO185.out)) k_ hk⟩))
       (case aO => exact (by (with_reducible repeat (first | apply YS | apply YT | apply YU)); exact Kd.R_mono HO_5.out (fun _ hk => by first | exact ⟨hk.1.2, hk.2⟩ | exact trivial | (simp [hk]; done) | simp_all)))
       (case aS => exact (YE (by repeat (first | (with_reducible first | exact HB.out | apply YA | apply YB | apply YC | refine below_set ?_ GE159.out) | exact HB.out))))
       (case aL => have := LMc37.out; omega)
       intro v181 w61 ho hb hg hat
       rw [← Ny180.out] at ho
       have n0_ := YL (blk_grown (g := gb159) (o := .cells #[.int .i64 a0_0, .int .i64 a0_1, .bool a0_2, .int .i64 a0_3, .int .i64 a0_4, .int .i64 a0_5, .int .i64 a0_6, .int .i64 a0_7, .int .i64 a0_8, .int .i64 a0_9, .int .i64 a0_10, .int .i64 a0_11] 27 (0, 0)) (by (with_reducible repeat (first | refine YF ?_ _ | refine YG ?_ | refine YH ?_ _)); exact BK159.out) hg (Kd.R_ne HO_5.out BK159.out (by decide)))
       have n1_ := YL (Kd.R_after (ok := (fun k_ => some k_ ≠ (v184 : Value).ownBlock)) (by (with_reducible repeat (first | apply YS | apply YT | apply YU)); exact Kd.R_mono HO179.out (fun _ hk => by first | exact ⟨hk.2, hk.1.2⟩ | exact trivial | (simp [hk]; done) | simp_all)) hg hat)
       have n2_ := YL (Kd.R_after (ok := (fun k_ => some k_ ≠ (.slice Ao62 t177.length co62 : Value).ownBlock)) (by (with_reducible repeat (first | apply YS | apply YT | apply YU)); exact Kd.R_mono HO185.out (fun _ hk => by first | exact ⟨hk.2, hk.1.2⟩ | exact trivial | (simp [hk]; done) | simp_all)) hg hat)
       have n3_ := YL (hb)
       have n4_ := YL (ho)
       clear BK159; clear HO179; clear HO185; clear HB; clear HO_5; have BK159 := n0_; have HO179 := n1_; have HO185 := n2_; have HB := n3_; have HO182 := n4_; clear n0_ n1_ n2_ n3_ n4_; clear ho hb hg hat
       refine hK.out _ _ ⟨(YI BK159.out 0).trans rfl, (YI BK159.out 1).trans rfl, (YI BK159.out 2).trans rfl, (YI BK159.out 3).trans rfl, (YI BK159.out 4).trans rfl, (YI BK159.out 5).trans rfl, (YI BK159.out 6).trans rfl, (YI BK159.out 7).trans rfl, (YI BK159.out 8).trans rfl, (YI BK159.out 9).trans rfl, (YI BK159.out 10).trans rfl, (YI BK159.out 11).trans rfl⟩ (fun hHeld => ?_)
       clear hK K
       refine norm_ (a' := ?_) ?_ ?_
       rotate_left
       ·show Act.put _ (some 44) _ = _
        simp only [Act.put, YM, YN, YO, i64_w, i32_w]
        rfl
       exact norm_ (by simp only [putAll, Act.put, YM, YN, YO]) (hCont (.slice Ao62 t177.length co62, v181, v184) _ ⟨hHeld, (by (with_reducible repeat (first | apply YS | apply YT | apply YU)); exact Kd.R_mono HO179.out (fun _ hk => by first | exact ⟨hk.2, hk.1⟩ | exact trivial | (simp [hk]; done) | simp_all)), (by (with_reducible repeat (first | apply YS | apply YT | apply YU)); exact HO182.out), (by (with_reducible repeat (first | apply YS | apply YT | apply YU)); exact HO185.out), (by (with_reducible repeat (first | refine YF ?_ _ | refine YG ?_ | refine YH ?_ _)); exact BK159.out), (by repeat (first | (with_reducible first | exact HB.out | apply YA | apply YB | apply YC | refine below_set ?_ GE159.out) | exact HB.out))⟩)
      skip
      refine Kd.R_lit_step (Kd.int .u8) _ 5 ?hg (N := 53) ?hd (xs := ([(a0_9) % 256, (a0_10) % 256] : List Int)) (inner := [.int .u8 ((a0_9) % 256), .int .u8 ((a0_10) % 256)]) (ok := fun _ => True) (okp := fun _ => True) ?hr ?hp (fun _ hk => hk) trivial (Below.refl _ _) (Nat.le_refl _) (by simp) ?_; (case hd => rfl); (case hg => rfl); (case hr => first | (go_simp; done) | (go_simp; rfl)); (case hp => exact (Reps.one (show Kd.M (Kd.int .u8) _ _ _ ((a0_9) % 256) [.int .u8 ((a0_9) % 256)] from rfl) (Reps.one (show Kd.M (Kd.int .u8) _ _ _ ((a0_10) % 256) [.int .u8 ((a0_10) % 256)] from rfl) (Reps.none _ _))))
      intro v184 w58 ho59 hb hg_ hnew_
      clear hg_ hnew_
      (first | rw [← Ny183.out] at ho59 | (simp only [Int.reduceToNat] at ho59; rw [← Ny183.out] at ho59))
      have n0_ := YL (Kd.R_elder' (by (with_reducible repeat (first | apply YS | apply YT | apply YU)); exact HO_5.out) (Kd.R_base ho59) hb)
      have n1_ := YL (Kd.R_lower (Kd.R_new' ho59 (Kd.R_lt (by (with_reducible repeat (first | apply YS | apply YT | apply YU)); exact HO_5.out))) (YE (by repeat (first | (with_reducible first | exact HB.out | apply YA | apply YB | apply YC | refine below_set ?_ GE159.out) | exact HB.out))))
      have n2_ := YL (YK (g := gb159) (o := .cells #[.int .i64 a0_0, .int .i64 a0_1, .bool a0_2, .int .i64 a0_3, .int .i64 a0_4, .int .i64 a0_5, .int .i64 a0_6, .int .i64 a0_7, .int .i64 a0_8, .int .i64 a0_9, .int .i64 a0_10, .int .i64 a0_11] 27 (0, 0)) (by (with_reducible repeat (first | refine YF ?_ _ | refine YG ?_ | refine YH ?_ _)); exact BK159.out) hb)
      have n3_ := YL (YD (by repeat (first | (with_reducible first | exact HB.out | apply YA | apply YB | apply YC | refine below_set ?_ GE159.out) | exact HB.out)) hb)
      clear HO_5; clear BK159; clear HB; have HO_5 := n0_; have HO185 := n1_; have BK159 := n2_; have HB := n3_; clear n0_ n1_ n2_ n3_; clear hb ho59
      refine hK.out _ _ ⟨(YI BK159.out 0).trans rfl, (YI BK159.out 1).trans rfl, (YI BK159.out 2).trans rfl, (YI BK159.out 3).trans rfl, (YI BK159.out 4).trans rfl, (YI BK159.out 5).trans rfl, (YI BK159.out 6).trans rfl, (YI BK159.out 7).trans rfl, (YI BK159.out 8).trans rfl, (YI BK159.out 9).trans rfl, (YI BK159.out 10).trans rfl, (YI BK159.out 11).trans rfl⟩ (fun hHeld => ?_)
      clear hK K
      refine norm_ (a' := ?_) ?_ ?_
      rotate_left
      ·show Act.put _ (some 53) _ = _
       simp only [Act.put, YM, YN, YO, i64_w, i32_w]
       rfl
      refine one_ (i := 4) (N := some 43) #[true, true, true, true, true, false, true, true, true, true, true, true, true, true, true, false, false] rfl rfl (one_of HT_.out (by kernel_rfl)) (by decide) (fun K hK => ?_)
      refine goes_ Try.func16 (by kernel_rfl) rfl #[.int .i64 a0_8] (by rfl) rfl rfl (by (try simp only [YP, List.map_cons, List.map_nil]); first | done | rfl | (simp only [YR, YQ]; rfl)) ?_
      with_reducible refine (wire_Int.calls a0_8 t177 _ A36.out).mono ?_
      rintro e w60 ⟨v178, rfl, ho0, hb⟩
      refine ⟨_, rfl, ?_⟩
      have n0_ := YL (Kd.R_elder' (by (with_reducible repeat (first | apply YS | apply YT | apply YU)); exact HO_5.out) (Kd.R_base ho0) hb)
      have n1_ := YL (Kd.R_elder' (by (with_reducible repeat (first | apply YS | apply YT | apply YU)); exact HO185.out) (Kd.R_base ho0) hb)
      have n2_ := YL (Kd.R_lower (Kd.R_new' (Kd.R_new' ho0 (Kd.R_lt (by (with_reducible repeat (first | apply YS | apply YT | apply YU)); exact HO_5.out))) (Kd.R_lt (by (with_reducible repeat (first | apply YS | apply YT | apply YU)); exact HO185.out))) (YE (by repeat (first | (with_reducible first | exact HB.out | apply YA | apply YB | apply YC | refine below_set ?_ GE159.out) | exact HB.out))))
      have n3_ := YL (YK (g := gb159) (o := .cells #[.int .i64 a0_0, .int .i64 a0_1, .bool a0_2, .int .i64 a0_3, .int .i64 a0_4, .int .i64 a0_5, .int .i64 a0_6, .int .i64 a0_7, .int .i64 a0_8, .int .i64 a0_9, .int .i64 a0_10, .int .i64 a0_11] 27 (0, 0)) (by (with_reducible repeat (first | refine YF ?_ _ | refine YG ?_ | refine YH ?_ _)); exact BK159.out) hb)
      have n4_ := YL (YD (by repeat (first | (with_reducible first | exact HB.out | apply YA | apply YB | apply YC | refine below_set ?_ GE159.out) | exact HB.out)) hb)
      clear HO_5; clear HO185; clear BK159; clear HB; have HO_5 := n0_; have HO185 := n1_; have HO179 := n2_; have BK159 := n3_; have HB := n4_; clear n0_ n1_ n2_ n3_ n4_; (try clear hb); (try clear hb2); (try clear hk); (try clear hi); (try clear ho0)
      obtain ⟨Ao62, co62, eo62⟩ := Kd.R_slice HO179.out
      (first | subst eo62 | (injection eo62 with f1_ f2_ f3_; have f4_ := f1_.symm; have f5_ := f3_.symm; clear f1_ f2_ f3_; subst f4_; subst f5_))
      refine hK.out _ _ ⟨(YI BK159.out 0).trans rfl, (YI BK159.out 1).trans rfl, (YI BK159.out 2).trans rfl, (YI BK159.out 3).trans rfl, (YI BK159.out 4).trans rfl, (YI BK159.out 5).trans rfl, (YI BK159.out 6).trans rfl, (YI BK159.out 7).trans rfl, (YI BK159.out 8).trans rfl, (YI BK159.out 9).trans rfl, (YI BK159.out 10).trans rfl, (YI BK159.out 11).trans rfl⟩ (fun hHeld => ?_)
      clear hK K
      refine norm_ (a' := ?_) ?_ ?_
      rotate_left
      ·show Act.put _ (some 43) _ = _
       simp only [Act.put, YM, YN, YO, i64_w, i32_w]
       rfl
      refine one_ (i := 5) (N := some 44) #[true, true, true, true, true, true, true, true, true, true, true, true, true, true, true, false, false] rfl rfl (one_of HT_.out (by kernel_rfl)) (by decide) (fun K hK => ?_)
      refine Kd.R_append_rows_step (Kd.int .u8) (w0 := w) w.heap.size (by rfl) (.tmp 39) (.tmp 43) 28 5 (.int .u8 0) 1 rfl Try.underlying28 info5 rfl (by decide) (by omega) (.slice Ao56 y161.length co56) y161 t177 _ _ _ (fun k_ => some k_ ≠ (v184 : Value).ownBlock ∧ some k_ ≠ (.slice Ao62 t177.length co62 : Value).ownBlock) (fun _ => False) rfl rfl ?aO ?aR (fun _ _ h => h) (fun _ h => h.elim) ?aF ?aB ?aS ?aL ?_
      (case aR => repeat (first | exact (Kd.R_reads' HO179.out).2.2 | (with_reducible refine Kd.C_alloc ?_ _) | (with_reducible refine Kd.C_drewN ?_ _) | (with_reducible refine Kd.C_drew ?_)))
      (case aB => exact (by repeat (first | (with_reducible first | exact HB.out | apply YA | apply YB | apply YC | refine below_set ?_ GE159.out) | exact HB.out)))
      (case aF => exact (fun k_ hk => ⟨Kd.fresh' (Kd.R_lt (by (with_reducible repeat (first | apply YS | apply YT | apply YU)); exact HO185.out)) k_ hk, Kd.fresh' (Kd.R_lt (by (with_reducible repeat (first | apply YS | apply YT | apply YU)); exact HO179.out)) k_ hk⟩))
      (case aO => exact (by (with_reducible repeat (first | apply YS | apply YT | apply YU)); exact Kd.R_mono HO_5.out (fun _ hk => by first | exact ⟨hk.1.2, hk.2⟩ | exact trivial | (simp [hk]; done) | simp_all)))
      (case aS => exact (YE (by repeat (first | (with_reducible first | exact HB.out | apply YA | apply YB | apply YC | refine below_set ?_ GE159.out) | exact HB.out))))
      (case aL => have := LMc37.out; omega)
      intro v181 w61 ho hb hg hat
      rw [← Ny180.out] at ho
      have n0_ := YL (blk_grown (g := gb159) (o := .cells #[.int .i64 a0_0, .int .i64 a0_1, .bool a0_2, .int .i64 a0_3, .int .i64 a0_4, .int .i64 a0_5, .int .i64 a0_6, .int .i64 a0_7, .int .i64 a0_8, .int .i64 a0_9, .int .i64 a0_10, .int .i64 a0_11] 27 (0, 0)) (by (with_reducible repeat (first | refine YF ?_ _ | refine YG ?_ | refine YH ?_ _)); exact BK159.out) hg (Kd.R_ne HO_5.out BK159.out (by decide)))
      have n1_ := YL (Kd.R_after (ok := (fun k_ => some k_ ≠ (.slice Ao62 t177.length co62 : Value).ownBlock)) (by (with_reducible repeat (first | apply YS | apply YT | apply YU)); exact Kd.R_mono HO185.out (fun _ hk => by first | exact ⟨hk.2, hk.1.2⟩ | exact trivial | (simp [hk]; done) | simp_all)) hg hat)
      have n2_ := YL (Kd.R_after (ok := (fun k_ => some k_ ≠ (v184 : Value).ownBlock)) (by (with_reducible repeat (first | apply YS | apply YT | apply YU)); exact Kd.R_mono HO179.out (fun _ hk => by first | exact ⟨hk.2, hk.1.2⟩ | exact trivial | (simp [hk]; done) | simp_all)) hg hat)
      have n3_ := YL (hb)
      have n4_ := YL (ho)
      clear BK159; clear HO185; clear HO179; clear HB; clear HO_5; have BK159 := n0_; have HO185 := n1_; have HO179 := n2_; have HB := n3_; have HO182 := n4_; clear n0_ n1_ n2_ n3_ n4_; clear ho hb hg hat
      refine hK.out _ _ ⟨(YI BK159.out 0).trans rfl, (YI BK159.out 1).trans rfl, (YI BK159.out 2).trans rfl, (YI BK159.out 3).trans rfl, (YI BK159.out 4).trans rfl, (YI BK159.out 5).trans rfl, (YI BK159.out 6).trans rfl, (YI BK159.out 7).trans rfl, (YI BK159.out 8).trans rfl, (YI BK159.out 9).trans rfl, (YI BK159.out 10).trans rfl, (YI BK159.out 11).trans rfl⟩ (fun hHeld => ?_)
      clear hK K
      refine norm_ (a' := ?_) ?_ ?_
      rotate_left
      ·show Act.put _ (some 44) _ = _
       simp only [Act.put, YM, YN, YO, i64_w, i32_w]
       rfl
      exact norm_ (by simp only [putAll, Act.put, YM, YN, YO]) (hCont (.slice Ao62 t177.length co62, v181, v184) _ ⟨hHeld, (by (with_reducible repeat (first | apply YS | apply YT | apply YU)); exact Kd.R_mono HO179.out (fun _ hk => by first | exact ⟨hk.2, hk.1⟩ | exact trivial | (simp [hk]; done) | simp_all)), (by (with_reducible repeat (first | apply YS | apply YT | apply YU)); exact Kd.R_mono HO182.out (fun _ hk => by first | exact ⟨hk.2, hk.1⟩ | exact trivial | (simp [hk]; done) | simp_all)), (by (with_reducible repeat (first | apply YS | apply YT | apply YU)); exact HO185.out), (by (with_reducible repeat (first | refine YF ?_ _ | refine YG ?_ | refine YH ?_ _)); exact BK159.out), (by repeat (first | (with_reducible first | exact HB.out | apply YA | apply YB | apply YC | refine below_set ?_ GE159.out) | exact HB.out))⟩)
     rintro ⟨v178, v181, v184⟩ w63 ⟨hS_, h0_, h1_, h2_, h3_, h4_⟩
     have n0_ : Aside0 (Kd.R (Kd.int .u8) 5 w63 w.heap.size (fun k_ => some k_ ≠ (v181 : Value).ownBlock ∧ some k_ ≠ (v184 : Value).ownBlock) v178 t177) := ⟨h0_⟩
     have n1_ : Aside0 (Kd.R (Kd.int .u8) 5 w63 w.heap.size (fun k_ => some k_ ≠ (v178 : Value).ownBlock ∧ some k_ ≠ (v184 : Value).ownBlock) v181 y180) := ⟨h1_⟩
     have n2_ : Aside0 (Kd.R (Kd.int .u8) 5 w63 w.heap.size (fun k_ => some k_ ≠ (v178 : Value).ownBlock ∧ some k_ ≠ (v181 : Value).ownBlock) v184 y183) := ⟨h2_⟩
     have n3_ : Aside0 (w63.heap[gb159]? = some (.cells #[.int .i64 a0_0, .int .i64 a0_1, .bool a0_2, .int .i64 a0_3, .int .i64 a0_4, .int .i64 a0_5, .int .i64 a0_6, .int .i64 a0_7, .int .i64 a0_8, .int .i64 a0_9, .int .i64 a0_10, .int .i64 a0_11] 27 (0, 0))) := ⟨h3_⟩
     have n4_ : Aside0 (Below w.heap.size w w63) := ⟨h4_⟩
     clear HO_5; clear BK159; clear HB; clear h0_ h1_ h2_ h3_ h4_; have HO179 := n0_; have HO182 := n1_; have HO185 := n2_; have BK159 := n3_; have HB := n4_; clear n0_ n1_ n2_ n3_ n4_
     have hHeld : w63.cell? ⟨gb159, 0, none⟩ = some (.int .i64 a0_0) ∧ w63.cell? ⟨gb159, 1, none⟩ = some (.int .i64 a0_1) ∧ w63.cell? ⟨gb159, 2, none⟩ = some (.bool a0_2) ∧ w63.cell? ⟨gb159, 3, none⟩ = some (.int .i64 a0_3) ∧ w63.cell? ⟨gb159, 4, none⟩ = some (.int .i64 a0_4) ∧ w63.cell? ⟨gb159, 5, none⟩ = some (.int .i64 a0_5) ∧ w63.cell? ⟨gb159, 6, none⟩ = some (.int .i64 a0_6) ∧ w63.cell? ⟨gb159, 7, none⟩ = some (.int .i64 a0_7) ∧ w63.cell? ⟨gb159, 8, none⟩ = some (.int .i64 a0_8) ∧ w63.cell? ⟨gb159, 9, none⟩ = some (.int .i64 a0_9) ∧ w63.cell? ⟨gb159, 10, none⟩ = some (.int .i64 a0_10) ∧ w63.cell? ⟨gb159, 11, none⟩ = some (.int .i64 a0_11) := hS_
     obtain ⟨Ao65, co65, eo65⟩ := Kd.R_slice HO185.out
     (first | subst eo65 | (injection eo65 with f1_ f2_ f3_; have f4_ := f1_.symm; have f5_ := f3_.symm; clear f1_ f2_ f3_; subst f4_; subst f5_))
     refine norm_ (a' := ?_) ?_ ?_
     rotate_left
     ·simp only [putAll, Act.put, YM, YN, YO]
      rfl
     refine one_ (i := 15) (N := some 54) #[true, true, true, true, true, true, true, true, true, true, true, true, true, true, true, true, false] rfl rfl (one_of HT_.out (by kernel_rfl)) (by decide) (fun K hK => ?_)
     refine Kd.R_append_rows_step (Kd.int .u8) (w0 := w) w.heap.size (by rfl) (.tmp 44) (.tmp 53) 28 5 (.int .u8 0) 1 rfl Try.underlying28 info5 rfl (by decide) (by omega) v181 y180 y183 _ _ _ (fun k_ => some k_ ≠ (v178 : Value).ownBlock ∧ some k_ ≠ (.slice Ao65 y183.length co65 : Value).ownBlock) (fun _ => False) rfl rfl ?aO ?aR (fun _ _ h => h) (fun _ h => h.elim) ?aF ?aB ?aS ?aL ?_
     (case aR => repeat (first | exact (Kd.R_reads' HO185.out).2.2 | (with_reducible refine Kd.C_alloc ?_ _) | (with_reducible refine Kd.C_drewN ?_ _) | (with_reducible refine Kd.C_drew ?_)))
     (case aB => exact (by repeat (first | (with_reducible first | exact HB.out | apply YA | apply YB | apply YC | refine below_set ?_ GE159.out) | exact HB.out)))
     (case aF => exact (fun k_ hk => ⟨Kd.fresh' (Kd.R_lt (by (with_reducible repeat (first | apply YS | apply YT | apply YU)); exact HO179.out)) k_ hk, Kd.fresh' (Kd.R_lt (by (with_reducible repeat (first | apply YS | apply YT | apply YU)); exact HO185.out)) k_ hk⟩))
     (case aO => exact (by (with_reducible repeat (first | apply YS | apply YT | apply YU)); exact HO182.out))
     (case aS => exact (YE (by repeat (first | (with_reducible first | exact HB.out | apply YA | apply YB | apply YC | refine below_set ?_ GE159.out) | exact HB.out))))
     (case aL => have := LMc38.out; omega)
     intro v187 w64 ho hb hg hat
     rw [← Ny186.out] at ho
     have n0_ := YL (blk_grown (g := gb159) (o := .cells #[.int .i64 a0_0, .int .i64 a0_1, .bool a0_2, .int .i64 a0_3, .int .i64 a0_4, .int .i64 a0_5, .int .i64 a0_6, .int .i64 a0_7, .int .i64 a0_8, .int .i64 a0_9, .int .i64 a0_10, .int .i64 a0_11] 27 (0, 0)) (by (with_reducible repeat (first | refine YF ?_ _ | refine YG ?_ | refine YH ?_ _)); exact BK159.out) hg (Kd.R_ne HO182.out BK159.out (by decide)))
     have n1_ := YL (Kd.R_after (ok := (fun k_ => some k_ ≠ (.slice Ao65 y183.length co65 : Value).ownBlock)) (by (with_reducible repeat (first | apply YS | apply YT | apply YU)); exact Kd.R_mono HO179.out (fun _ hk => by first | exact ⟨hk.2, hk.1⟩ | exact trivial | (simp [hk]; done) | simp_all)) hg hat)
     have n2_ := YL (Kd.R_after (ok := (fun k_ => some k_ ≠ (v178 : Value).ownBlock)) (by (with_reducible repeat (first | apply YS | apply YT | apply YU)); exact HO185.out) hg hat)
     have n3_ := YL (hb)
     have n4_ := YL (ho)
     clear BK159; clear HO179; clear HO185; clear HB; clear HO182; have BK159 := n0_; have HO179 := n1_; have HO185 := n2_; have HB := n3_; have HO188 := n4_; clear n0_ n1_ n2_ n3_ n4_; clear ho hb hg hat
     refine hK.out _ _ ⟨(YI BK159.out 0).trans rfl, (YI BK159.out 1).trans rfl, (YI BK159.out 2).trans rfl, (YI BK159.out 3).trans rfl, (YI BK159.out 4).trans rfl, (YI BK159.out 5).trans rfl, (YI BK159.out 6).trans rfl, (YI BK159.out 7).trans rfl, (YI BK159.out 8).trans rfl, (YI BK159.out 9).trans rfl, (YI BK159.out 10).trans rfl, (YI BK159.out 11).trans rfl⟩ (fun hHeld => ?_)
     clear hK K
     refine norm_ (a' := ?_) ?_ ?_
     rotate_left
     ·show Act.put _ (some 54) _ = _
      simp only [Act.put, YM, YN, YO, i64_w, i32_w]
      rfl
     refine pure_ (i := 16) (N := some 5) (v := ?_) (a' := ?_) #[true, true, true, true, true, true, true, true, true, true, true, true, true, true, true, true, true] rfl rfl (any_of HT_.out (by kernel_rfl)) (fun _ _ _ h => h) (Or.inl ⟨by rfl, ?_⟩) ?_ ?_
     rotate_left
     ·intro w'
      go_simp; with_reducible rfl
     rotate_left
     ·simp only [Act.put, YM, YN, YO, i64_w, i32_w]
      rfl
     refine done_ (done_of HT_.out (by kernel_rfl)) ?_
     have q66_0 : w64.cell? ⟨gb159, 0, none⟩ = some (.int .i64 a0_0) := (YI BK159.out 0).trans rfl
     have q66_1 : w64.cell? ⟨gb159, 1, none⟩ = some (.int .i64 a0_1) := (YI BK159.out 1).trans rfl
     have q66_2 : w64.cell? ⟨gb159, 2, none⟩ = some (.bool a0_2) := (YI BK159.out 2).trans rfl
     have q66_3 : w64.cell? ⟨gb159, 3, none⟩ = some (.int .i64 a0_3) := (YI BK159.out 3).trans rfl
     have q66_4 : w64.cell? ⟨gb159, 4, none⟩ = some (.int .i64 a0_4) := (YI BK159.out 4).trans rfl
     have q66_5 : w64.cell? ⟨gb159, 5, none⟩ = some (.int .i64 a0_5) := (YI BK159.out 5).trans rfl
     have q66_6 : w64.cell? ⟨gb159, 6, none⟩ = some (.int .i64 a0_6) := (YI BK159.out 6).trans rfl
     have q66_7 : w64.cell? ⟨gb159, 7, none⟩ = some (.int .i64 a0_7) := (YI BK159.out 7).trans rfl
     have q66_8 : w64.cell? ⟨gb159, 8, none⟩ = some (.int .i64 a0_8) := (YI BK159.out 8).trans rfl
     have q66_9 : w64.cell? ⟨gb159, 9, none⟩ = some (.int .i64 a0_9) := (YI BK159.out 9).trans rfl
     have q66_10 : w64.cell? ⟨gb159, 10, none⟩ = some (.int .i64 a0_10) := (YI BK159.out 10).trans rfl
     have q66_11 : w64.cell? ⟨gb159, 11, none⟩ = some (.int .i64 a0_11) := (YI BK159.out 11).trans rfl
     have f66_0 := YJ BK159.out 0
     have f66_1 := YJ BK159.out 1
     have f66_2 := YJ BK159.out 2
     have f66_3 := YJ BK159.out 3
     have f66_4 := YJ BK159.out 4
     have f66_5 := YJ BK159.out 5
     have f66_6 := YJ BK159.out 6
     have f66_7 := YJ BK159.out 7
     have f66_8 := YJ BK159.out 8
     have f66_9 := YJ BK159.out 9
     have f66_10 := YJ BK159.out 10
     have f66_11 := YJ BK159.out 11
     try go_wp2
     go_ret2
     exact ⟨_, by first | rfl | (simp [errW_none, errW_some] <;> rfl) | (simp [*, errW_none, errW_some] <;> rfl), by (with_reducible repeat (first | apply YS | apply YT | apply YU)); exact Kd.R_mono HO188.out (fun _ hk => trivial), by repeat (first | (with_reducible first | exact HB.out | apply YA | apply YB | apply YC | refine below_set ?_ GE159.out) | exact HB.out)⟩
    rw [if_neg c35] at H
    have c35b0 : (a0_0 == 3) = false := beq_eq_false_iff_ne.mpr c35
    have c35b1 : (a0_0 != 3) = true := bne_iff_ne.mpr c35
    by_cases c67 : a0_0 = 4
    ·rw [if_pos c67] at H
     have c67b0 : (a0_0 == 4) = true := beq_iff_eq.mpr c67
     have c67b1 : (a0_0 != 4) = false := bne_eq_false_iff_eq.mpr c67
     clear c67
     obtain ⟨y195, hy195⟩ : ∃ y_ : List Int, y_ = (([(a0_11 / 256) % 256, (a0_11) % 256] : List Int)) := ⟨_, rfl⟩
     replace H : (if y161.length + y195.length < 140737488355328 then (some ((y161 ++ y195), 0)) else (none)) = some (r1, r2) := by first | (rw [hy195]; with_reducible exact H) | (have H2_ := (Option.bind_some _ _).symm.trans H; rw [hy195]; with_reducible exact H2_) | (have H2_ := (Option.bind_some _ _).symm.trans H; with_reducible exact H2_) | with_reducible exact H | (rw [hy195]; exact H) | exact H
     have Ny195 := YL hy195; clear hy195
     by_cases c68 : y161.length + y195.length < 140737488355328
     rotate_left
     ·rw [if_neg c68] at H
      exact absurd H (by simp)
     rw [if_pos c68] at H; have LMc68 := YL c68; clear c68
     obtain ⟨y198, hy198⟩ : ∃ y_ : List Int, y_ = (y161 ++ y195) := ⟨_, rfl⟩
     replace H : (some (y198, 0)) = some (r1, r2) := by first | (rw [hy198]; with_reducible exact H) | (have H2_ := (Option.bind_some _ _).symm.trans H; rw [hy198]; with_reducible exact H2_) | (have H2_ := (Option.bind_some _ _).symm.trans H; with_reducible exact H2_) | with_reducible exact H | (rw [hy198]; exact H) | exact H
     have Ny198 := YL hy198; clear hy198
     simp only [Option.some.injEq, Prod.mk.injEq] at H
     obtain ⟨rfl, rfl⟩ := H
     have q69_0 : wc.cell? ⟨gb159, 0, none⟩ = some (.int .i64 a0_0) := (YI BK159.out 0).trans rfl
     have q69_1 : wc.cell? ⟨gb159, 1, none⟩ = some (.int .i64 a0_1) := (YI BK159.out 1).trans rfl
     have q69_2 : wc.cell? ⟨gb159, 2, none⟩ = some (.bool a0_2) := (YI BK159.out 2).trans rfl
     have q69_3 : wc.cell? ⟨gb159, 3, none⟩ = some (.int .i64 a0_3) := (YI BK159.out 3).trans rfl
     have q69_4 : wc.cell? ⟨gb159, 4, none⟩ = some (.int .i64 a0_4) := (YI BK159.out 4).trans rfl
     have q69_5 : wc.cell? ⟨gb159, 5, none⟩ = some (.int .i64 a0_5) := (YI BK159.out 5).trans rfl
     have q69_6 : wc.cell? ⟨gb159, 6, none⟩ = some (.int .i64 a0_6) := (YI BK159.out 6).trans rfl
     have q69_7 : wc.cell? ⟨gb159, 7, none⟩ = some (.int .i64 a0_7) := (YI BK159.out 7).trans rfl
     have q69_8 : wc.cell? ⟨gb159, 8, none⟩ = some (.int .i64 a0_8) := (YI BK159.out 8).trans rfl
     have q69_9 : wc.cell? ⟨gb159, 9, none⟩ = some (.int .i64 a0_9) := (YI BK159.out 9).trans rfl
     have q69_10 : wc.cell? ⟨gb159, 10, none⟩ = some (.int .i64 a0_10) := (YI BK159.out 10).trans rfl
     have q69_11 : wc.cell? ⟨gb159, 11, none⟩ = some (.int .i64 a0_11) := (YI BK159.out 11).trans rfl
     have f69_0 := YJ BK159.out 0
     have f69_1 := YJ BK159.out 1
     have f69_2 := YJ BK159.out 2
     have f69_3 := YJ BK159.out 3
     have f69_4 := YJ BK159.out 4
     have f69_5 := YJ BK159.out 5
     have f69_6 := YJ BK159.out 6
     have f69_7 := YJ BK159.out 7
     have f69_8 := YJ BK159.out 8
     have f69_9 := YJ BK159.out 9
     have f69_10 := YJ BK159.out 10
     have f69_11 := YJ BK159.out 11
     go_wp2_with (first | ((with_reducible refine gate_dst (N := 66) rfl ?_); refine Kd.R_lit (Kd.int .u8) _ 5 ?hg (N := 66) ?hd (xs := ([(a0_11 / 256) % 256, (a0_11) % 256] : List Int)) (inner := [.int .u8 ((a0_11 / 256) % 256), .int .u8 ((a0_11) % 256)]) (ok := fun _ => True) (okp := fun _ => True) ?hr ?hp (fun _ hk => hk) trivial (Below.refl _ _) (Nat.le_refl _) (by simp) ?_; (case hd => rfl); (case hg => rfl); (case hr => first | (go_simp; done) | (go_simp; rfl)); (case hp => exact (Reps.one (show Kd.M (Kd.int .u8) _ _ _ ((a0_11 / 256) % 256) [.int .u8 ((a0_11 / 256) % 256)] from rfl) (Reps.one (show Kd.M (Kd.int .u8) _ _ _ ((a0_11) % 256) [.int .u8 ((a0_11) % 256)] from rfl) (Reps.none _ _)))); intro v196 w70 ho71 hb hg_ hnew_; clear hg_ hnew_; (first | rw [← Ny195.out] at ho71 | (simp only [Int.reduceToNat] at ho71; rw [← Ny195.out] at ho71)); have n0_ := YL (Kd.R_elder' (by (with_reducible repeat (first | apply YS | apply YT | apply YU)); exact HO_5.out) (Kd.R_base ho71) hb); have n1_ := YL (Kd.R_lower (Kd.R_new' ho71 (Kd.R_lt (by (with_reducible repeat (first | apply YS | apply YT | apply YU)); exact HO_5.out))) (YE (by repeat (first | (with_reducible first | exact HB.out | apply YA | apply YB | apply YC | refine below_set ?_ GE159.out) | exact HB.out)))); have n2_ := YL (YK (g := gb159) (o := .cells #[.int .i64 a0_0, .int .i64 a0_1, .bool a0_2, .int .i64 a0_3, .int .i64 a0_4, .int .i64 a0_5, .int .i64 a0_6, .int .i64 a0_7, .int .i64 a0_8, .int .i64 a0_9, .int .i64 a0_10, .int .i64 a0_11] 27 (0, 0)) (by (with_reducible repeat (first | refine YF ?_ _ | refine YG ?_ | refine YH ?_ _)); exact BK159.out) hb); have n3_ := YL (YD (by repeat (first | (with_reducible first | exact HB.out | apply YA | apply YB | apply YC | refine below_set ?_ GE159.out) | exact HB.out)) hb); clear HO_5; clear BK159; clear HB; have HO_5 := n0_; have HO197 := n1_; have BK159 := n2_; have HB := n3_; clear n0_ n1_ n2_ n3_; clear hb ho71; obtain ⟨Ao73, co73, eo73⟩ := Kd.R_slice HO197.out; subst eo73) | ((with_reducible refine gate_builtin (b := .append) (xs := #[.tmp 58, .tmp 66]) rfl ?_); at_builtin; refine Kd.R_append_rows (Kd.int .u8) (w0 := w) w.heap.size rfl (.tmp 58) (.tmp 66) 28 5 (.int .u8 0) 1 rfl Try.underlying28 info5 rfl (by decide) (by omega) v162 y161 y195 _ _ _ (fun k_ => some k_ ≠ (.slice Ao73 y195.length co73 : Value).ownBlock) (fun _ => False) rfl rfl ?aO ?aR (fun _ _ h => h) (fun _ h => h.elim) ?aF ?aB ?aS ?aL ?_; (case aR => repeat (first | exact (Kd.R_reads' HO197.out).2.2 | (with_reducible refine Kd.C_alloc ?_ _) | (with_reducible refine Kd.C_drewN ?_ _) | (with_reducible refine Kd.C_drew ?_))); (case aB => exact (by repeat (first | (with_reducible first | exact HB.out | apply YA | apply YB | apply YC | refine below_set ?_ GE159.out) | exact HB.out))); (case aF => exact (fun k_ hk => Kd.fresh' (Kd.R_lt (by (with_reducible repeat (first | apply YS | apply YT | apply YU)); exact HO197.out)) k_ hk)); (case aO => exact (by (with_reducible repeat (first | apply YS | apply YT | apply YU)); exact Kd.R_mono HO_5.out (fun _ hk => by first | exact hk.2 | exact trivial | (simp [hk]; done) | simp_all))); (case aS => exact (YE (by repeat (first | (with_reducible first | exact HB.out | apply YA | apply YB | apply YC | refine below_set ?_ GE159.out) | exact HB.out)))); (case aL => have := LMc68.out; omega); intro v199 w72 ho hb hg hat; rw [← Ny198.out] at ho; have n0_ := YL (blk_grown (g := gb159) (o := .cells #[.int .i64 a0_0, .int .i64 a0_1, .bool a0_2, .int .i64 a0_3, .int .i64 a0_4, .int .i64 a0_5, .int .i64 a0_6, .int .i64 a0_7, .int .i64 a0_8, .int .i64 a0_9, .int .i64 a0_10, .int .i64 a0_11] 27 (0, 0)) (by (with_reducible repeat (first | refine YF ?_ _ | refine YG ?_ | refine YH ?_ _)); exact BK159.out) hg (Kd.R_ne HO_5.out BK159.out (by decide))); have n1_ := YL (Kd.R_after (ok := (fun _ => True)) (by (with_reducible repeat (first | apply YS | apply YT | apply YU)); exact HO197.out) hg hat); have n2_ := YL (hb); have n3_ := YL (ho); clear BK159; clear HO197; clear HB; clear HO_5; have BK159 := n0_; have HO197 := n1_; have HB := n2_; have HO200 := n3_; clear n0_ n1_ n2_ n3_; clear ho hb hg hat))
     go_ret2
     exact ⟨_, by first | rfl | (simp [errW_none, errW_some] <;> rfl) | (simp [*, errW_none, errW_some] <;> rfl), by (with_reducible repeat (first | apply YS | apply YT | apply YU)); exact Kd.R_mono HO200.out (fun _ hk => trivial), by repeat (first | (with_reducible first | exact HB.out | apply YA | apply YB | apply YC | refine below_set ?_ GE159.out) | exact HB.out)⟩
    rw [if_neg c67] at H
    have c67b0 : (a0_0 == 4) = false := beq_eq_false_iff_ne.mpr c67
    have c67b1 : (a0_0 != 4) = true := bne_iff_ne.mpr c67
    simp only [Option.some.injEq, Prod.mk.injEq] at H
    obtain ⟨rfl, rfl⟩ := H
    have q74_0 : wc.cell? ⟨gb159, 0, none⟩ = some (.int .i64 a0_0) := (YI BK159.out 0).trans rfl
    have q74_1 : wc.cell? ⟨gb159, 1, none⟩ = some (.int .i64 a0_1) := (YI BK159.out 1).trans rfl
    have q74_2 : wc.cell? ⟨gb159, 2, none⟩ = some (.bool a0_2) := (YI BK159.out 2).trans rfl
    have q74_3 : wc.cell? ⟨gb159, 3, none⟩ = some (.int .i64 a0_3) := (YI BK159.out 3).trans rfl
    have q74_4 : wc.cell? ⟨gb159, 4, none⟩ = some (.int .i64 a0_4) := (YI BK159.out 4).trans rfl
    have q74_5 : wc.cell? ⟨gb159, 5, none⟩ = some (.int .i64 a0_5) := (YI BK159.out 5).trans rfl
    have q74_6 : wc.cell? ⟨gb159, 6, none⟩ = some (.int .i64 a0_6) := (YI BK159.out 6).trans rfl
    have q74_7 : wc.cell? ⟨gb159, 7, none⟩ = some (.int .i64 a0_7) := (YI BK159.out 7).trans rfl
    have q74_8 : wc.cell? ⟨gb159, 8, none⟩ = some (.int .i64 a0_8) := (YI BK159.out 8).trans rfl
    have q74_9 : wc.cell? ⟨gb159, 9, none⟩ = some (.int .i64 a0_9) := (YI BK159.out 9).trans rfl
    have q74_10 : wc.cell? ⟨gb159, 10, none⟩ = some (.int .i64 a0_10) := (YI BK159.out 10).trans rfl
    have q74_11 : wc.cell? ⟨gb159, 11, none⟩ = some (.int .i64 a0_11) := (YI BK159.out 11).trans rfl
    have f74_0 := YJ BK159.out 0
    have f74_1 := YJ BK159.out 1
    have f74_2 := YJ BK159.out 2
    have f74_3 := YJ BK159.out 3
    have f74_4 := YJ BK159.out 4
    have f74_5 := YJ BK159.out 5
    have f74_6 := YJ BK159.out 6
    have f74_7 := YJ BK159.out 7
    have f74_8 := YJ BK159.out 8
    have f74_9 := YJ BK159.out 9
    have f74_10 := YJ BK159.out 10
    have f74_11 := YJ BK159.out 11
    go_wp2
    go_ret2
    exact ⟨_, by first | rfl | (simp [errW_none, errW_some] <;> rfl) | (simp [*, errW_none, errW_some] <;> rfl), by (with_reducible repeat (first | apply YS | apply YT | apply YU)); exact HO_5.out, by repeat (first | (with_reducible first | exact HB.out | apply YA | apply YB | apply YC | refine below_set ?_ GE159.out) | exact HB.out)⟩
 rw [if_neg c3] at H
 have c3b0 : (t160 == 0) = false := beq_eq_false_iff_ne.mpr c3
 have c3b1 : (t160 != 0) = true := bne_iff_ne.mpr c3
 simp only [Option.some.injEq, Prod.mk.injEq] at H
 obtain ⟨rfl, rfl⟩ := H
 go_enter Try.func7, Try.ntmps7
 go_wp2_with (first | ((with_reducible refine gate_dst (N := 1) rfl ?_); refine box_event ?hg (N := 1) ?hd (cs := #[.int .i64 a0_0, .int .i64 a0_1, .bool a0_2, .int .i64 a0_3, .int .i64 a0_4, .int .i64 a0_5, .int .i64 a0_6, .int .i64 a0_7, .int .i64 a0_8, .int .i64 a0_9, .int .i64 a0_10, .int .i64 a0_11]) (t := 27) ?hr ?_; (case hd => rfl); (case hg => rfl); (case hr => first | (go_simp; done) | (go_simp; rfl)); intro gb159 hg w75 hbox hb; have n0_ := YL (YD (by repeat (first | (with_reducible first | exact HB.out | apply YA | apply YB | apply YC) | exact HB.out)) hb); have n1_ := YL (hbox); have n2_ := YL ((by rw [hg]; exact (YE (by repeat (first | (with_reducible first | exact HB.out | apply YA | apply YB | apply YC) | exact HB.out))) : w.heap.size ≤ gb159)); have n3_ := YL ((by rw [hg]; exact (YE (by repeat (first | (with_reducible first | exact HB.out | apply YA | apply YB | apply YC) | exact HB.out))) : w.heap.size ≤ gb159)); clear HB; have HB := n0_; have BK159 := n1_; have GW159 := n2_; have GE159 := n3_; clear n0_ n1_ n2_ n3_; clear hb hbox hg; have q76_0 : w75.cell? ⟨gb159, 0, none⟩ = some (.int .i64 a0_0) := (YI BK159.out 0).trans rfl; have q76_1 : w75.cell? ⟨gb159, 1, none⟩ = some (.int .i64 a0_1) := (YI BK159.out 1).trans rfl; have q76_2 : w75.cell? ⟨gb159, 2, none⟩ = some (.bool a0_2) := (YI BK159.out 2).trans rfl; have q76_3 : w75.cell? ⟨gb159, 3, none⟩ = some (.int .i64 a0_3) := (YI BK159.out 3).trans rfl; have q76_4 : w75.cell? ⟨gb159, 4, none⟩ = some (.int .i64 a0_4) := (YI BK159.out 4).trans rfl; have q76_5 : w75.cell? ⟨gb159, 5, none⟩ = some (.int .i64 a0_5) := (YI BK159.out 5).trans rfl; have q76_6 : w75.cell? ⟨gb159, 6, none⟩ = some (.int .i64 a0_6) := (YI BK159.out 6).trans rfl; have q76_7 : w75.cell? ⟨gb159, 7, none⟩ = some (.int .i64 a0_7) := (YI BK159.out 7).trans rfl; have q76_8 : w75.cell? ⟨gb159, 8, none⟩ = some (.int .i64 a0_8) := (YI BK159.out 8).trans rfl; have q76_9 : w75.cell? ⟨gb159, 9, none⟩ = some (.int .i64 a0_9) := (YI BK159.out 9).trans rfl; have q76_10 : w75.cell? ⟨gb159, 10, none⟩ = some (.int .i64 a0_10) := (YI BK159.out 10).trans rfl; have q76_11 : w75.cell? ⟨gb159, 11, none⟩ = some (.int .i64 a0_11) := (YI BK159.out 11).trans rfl; have f76_0 := YJ BK159.out 0; have f76_1 := YJ BK159.out 1; have f76_2 := YJ BK159.out 2; have f76_3 := YJ BK159.out 3; have f76_4 := YJ BK159.out 4; have f76_5 := YJ BK159.out 5; have f76_6 := YJ BK159.out 6; have f76_7 := YJ BK159.out 7; have f76_8 := YJ BK159.out 8; have f76_9 := YJ BK159.out 9; have f76_10 := YJ BK159.out 10; have f76_11 := YJ BK159.out 11) | ((with_reducible refine gate_callee (f := 10) rfl ?_); refine goesL_ (some 9) rfl rfl Try.func10 (by kernel_rfl) rfl #[.agg #[.int .i64 a0_0, .int .i64 a0_1, .bool a0_2, .int .i64 a0_3, .int .i64 a0_4, .int .i64 a0_5, .int .i64 a0_6, .int .i64 a0_7, .int .i64 a0_8, .int .i64 a0_9, .int .i64 a0_10, .int .i64 a0_11]] rfl (by (try simp only [YP, List.map_cons, List.map_nil]); first | done | rfl | (simp only [YR, YQ]; rfl)) ?_; (with_reducible refine (object_Check.calls k a0_0 a0_1 a0_2 a0_3 a0_4 a0_5 a0_6 a0_7 a0_8 a0_9 a0_10 a0_11 t160 _ A2.out).mono ?_); rintro e w77 ⟨rfl, hb⟩; refine ⟨_, rfl, ?_⟩; have n0_ := YL (YK (g := gb159) (o := .cells #[.int .i64 a0_0, .int .i64 a0_1, .bool a0_2, .int .i64 a0_3, .int .i64 a0_4, .int .i64 a0_5, .int .i64 a0_6, .int .i64 a0_7, .int .i64 a0_8, .int .i64 a0_9, .int .i64 a0_10, .int .i64 a0_11] 27 (0, 0)) (by (with_reducible repeat (first | refine YF ?_ _ | refine YG ?_ | refine YH ?_ _)); exact BK159.out) hb); have n1_ := YL (YD (by repeat (first | (with_reducible first | exact HB.out | apply YA | apply YB | apply YC | refine below_set ?_ GE159.out) | exact HB.out)) hb); clear BK159; clear HB; have BK159 := n0_; have HB := n1_; clear n0_ n1_; (try clear hb); (try clear hb2); (try clear hk); (try clear hi)))
 go_ret2
 exact ⟨_, by first | rfl | (simp [errW_none, errW_some] <;> rfl) | (simp [*, errW_none, errW_some] <;> rfl), by first | exact Kd.R_nil _ _ _ _ _ | exact Kd.N_nil _ _ _ _ _ | exact Kd.V_nil _ _ _ _ _ | exact Kd.Q_nil _ _ _ _ _ | exact Kd.S_nil _ _ _ _ _, by repeat (first | (with_reducible first | exact HB.out | apply YA | apply YB | apply YC | refine below_set ?_ GE159.out) | exact HB.out)⟩
end Go.Proofs.Ytmcmemknikineaa.P
namespace Go.Proofs.Ytmcmemknikineaa.P
open Go.RowKit YtmcmemknikineaaW.PrintWords YtmcmemknikineaaW.PrintLast YtmcmemknikineaaW.PrintMore
open YtmcmemknikineaaW.PrintWords renaming below_alloc → YA, pw_below_drewN → YB, below_drew1 → YC
open YtmcmemknikineaaW.PrintWords.Aside0 renaming mk → YD
attribute [local go_sem] max2_int min2_int max_two min_two max_three min_three max_four min_four
def thalweglaw04_awake.f (k : Nat)  : Option (Bool) := (object_Bytes.f k 1 5 false 0 0 0 0 0 0 0 0 0).bind fun bt201 => ((object_Bytes.f k 2 5 true 0 0 0 0 2 0 0 0 0).bind fun bt205 => (if (strOfNums bt201.1).toList = ([1, 5] : List UInt8) then (if bt201.2 = 0 then (if (strOfNums bt205.1).toList = ([2, 5, 0, 2] : List UInt8) then (some (bt205.2 == bt201.2)) else (none)) else (none)) else (none)))
theorem thalweglaw04_awake.mono : ∀ k, LeO (thalweglaw04_awake.f k ) (thalweglaw04_awake.f (k + 1) ) := by
 intro  k
 unfold thalweglaw04_awake.f
 repeat' first
   | (with_reducible exact object_Bytes.mono _ _ _ _ _ _ _ _ _ _ _ _ _)
   | (with_reducible exact LeO.refl _)
   | (with_reducible exact LeO.none _)
   | (with_reducible refine LeO.ite ?_ ?_)
   | (with_reducible refine LeO.bind ?_ (fun _ => ?_))
   | exact object_Bytes.mono _ _ _ _ _ _ _ _ _ _ _ _ _
   | exact LeO.none _
   | refine LeO.ite ?_ ?_
   | refine LeO.bind ?_ (fun _ => ?_)
theorem thalweglaw04_awake.calls (k : Nat)  (r : Bool) (w : World) (h : thalweglaw04_awake.f k  = some r) :
  Calls Try.prog 8 #[] w fun e w' => e = .returned (.bool r) ∧ Below w.heap.size w w' := by
 have hu27 := Try.underlying27
 have hu23 := Try.underlying23
 have HB := YD (Below.refl w.heap.size w)
 have H : ((object_Bytes.f k 1 5 false 0 0 0 0 0 0 0 0 0).bind fun bt201 => ((object_Bytes.f k 2 5 true 0 0 0 0 2 0 0 0 0).bind fun bt205 => (if (strOfNums bt201.1).toList = ([1, 5] : List UInt8) then (if bt201.2 = 0 then (if (strOfNums bt205.1).toList = ([2, 5, 0, 2] : List UInt8) then (some (bt205.2 == bt201.2)) else (none)) else (none)) else (none)))) = some r := h
 clear h; replace H := Option.bind_eq_some_iff.mp H
 obtain ⟨⟨t201, t204⟩, A10, H⟩ := H
 replace H : ((object_Bytes.f k 2 5 true 0 0 0 0 2 0 0 0 0).bind fun bt205 => (if (strOfNums t201).toList = ([1, 5] : List UInt8) then (if t204 = 0 then (if (strOfNums bt205.1).toList = ([2, 5, 0, 2] : List UInt8) then (some (bt205.2 == t204)) else (none)) else (none)) else (none))) = some r := H
 have A1 := YD A10; clear A10; replace H := Option.bind_eq_some_iff.mp H
 obtain ⟨⟨t205, t208⟩, A20, H⟩ := H
 replace H : (if (strOfNums t201).toList = ([1, 5] : List UInt8) then (if t204 = 0 then (if (strOfNums t205).toList = ([2, 5, 0, 2] : List UInt8) then (some (t208 == t204)) else (none)) else (none)) else (none)) = some r := H
 have A2 := YD A20; clear A20
 by_cases c3 : (strOfNums t201).toList = ([1, 5] : List UInt8)
 rotate_left
 ·rw [if_neg c3] at H
  exact absurd H (by simp)
 rw [if_pos c3] at H
 have c3b0 : ((strOfNums t201).toList == ([1, 5] : List UInt8)) = true := beq_iff_eq.mpr c3
 have c3b1 : ((strOfNums t201).toList != ([1, 5] : List UInt8)) = false := bne_eq_false_iff_eq.mpr c3
 clear c3
 by_cases c4 : t204 = 0
 rotate_left
 ·rw [if_neg c4] at H
  exact absurd H (by simp)
 rw [if_pos c4] at H
 have c4b0 : (t204 == 0) = true := beq_iff_eq.mpr c4
 have c4b1 : (t204 != 0) = false := bne_eq_false_iff_eq.mpr c4
 clear c4
 by_cases c5 : (strOfNums t205).toList = ([2, 5, 0, 2] : List UInt8)
 rotate_left
 ·rw [if_neg c5] at H
  exact absurd H (by simp)
 rw [if_pos c5] at H
 have c5b0 : ((strOfNums t205).toList == ([2, 5, 0, 2] : List UInt8)) = true := beq_iff_eq.mpr c5
 have c5b1 : ((strOfNums t205).toList != ([2, 5, 0, 2] : List UInt8)) = false := bne_eq_false_iff_eq.mpr c5
 clear c5
 obtain rfl := Option.some.inj H
 go_enter Try.func8, Try.ntmps8
 go_wp2_with (first | ((with_reducible refine gate_callee (f := 7) rfl ?_); refine goesL_ (some 7) rfl rfl Try.func7 (by kernel_rfl) rfl #[.agg #[.int .i64 1, .int .i64 5, .bool false, .int .i64 0, .int .i64 0, .int .i64 0, .int .i64 0, .int .i64 0, .int .i64 0, .int .i64 0, .int .i64 0, .int .i64 0]] rfl (by (try simp only [List.map_toArray, List.map_cons, List.map_nil]); first | done | rfl | (simp only [List.length_drop, List.length_take]; rfl)) ?_; (with_reducible refine (object_Bytes.calls k 1 5 false 0 0 0 0 0 0 0 0 0 t201 t204 _ A1.out).mono ?_); rintro e w6 ⟨v202, rfl, ho0, hb⟩; refine ⟨_, rfl, ?_⟩; have n0_ := YD (Kd.R_lower ho0 (below_size (by repeat (first | (with_reducible first | exact HB.out | apply YA | apply YB | apply YC) | exact HB.out)))); have n1_ := YD (below_step (by repeat (first | (with_reducible first | exact HB.out | apply YA | apply YB | apply YC) | exact HB.out)) hb); clear HB; have HO203 := n0_; have HB := n1_; clear n0_ n1_; (try clear hb); (try clear hb2); (try clear hk); (try clear hi); (try clear ho0)) | ((with_reducible refine gate_callee (f := 7) rfl ?_); refine goesL_ (some 13) rfl rfl Try.func7 (by kernel_rfl) rfl #[.agg #[.int .i64 2, .int .i64 5, .bool true, .int .i64 0, .int .i64 0, .int .i64 0, .int .i64 0, .int .i64 2, .int .i64 0, .int .i64 0, .int .i64 0, .int .i64 0]] rfl (by (try simp only [List.map_toArray, List.map_cons, List.map_nil]); first | done | rfl | (simp only [List.length_drop, List.length_take]; rfl)) ?_; (with_reducible refine (object_Bytes.calls k 2 5 true 0 0 0 0 2 0 0 0 0 t205 t208 _ A2.out).mono ?_); rintro e w7 ⟨v206, rfl, ho0, hb⟩; refine ⟨_, rfl, ?_⟩; have n0_ := YD (Kd.R_elder' (by (with_reducible repeat (first | apply Kd.R_alloc | apply Kd.R_drewN | apply Kd.R_drew)); exact HO203.out) (Kd.R_base ho0) hb); have n1_ := YD (Kd.R_lower (Kd.R_new' ho0 (Kd.R_lt (by (with_reducible repeat (first | apply Kd.R_alloc | apply Kd.R_drewN | apply Kd.R_drew)); exact HO203.out))) (below_size (by repeat (first | (with_reducible first | exact HB.out | apply YA | apply YB | apply YC) | exact HB.out)))); have n2_ := YD (below_step (by repeat (first | (with_reducible first | exact HB.out | apply YA | apply YB | apply YC) | exact HB.out)) hb); clear HO203; clear HB; have HO203 := n0_; have HO207 := n1_; have HB := n2_; clear n0_ n1_ n2_; (try clear hb); (try clear hb2); (try clear hk); (try clear hi); (try clear ho0); have hcv8 := own_string (P := Try.prog) Try.underlying28 Try.underlying5 Try.underlying9 (Kd.own_of_R HO203.out); have hcv9 := own_string (P := Try.prog) Try.underlying28 Try.underlying5 Try.underlying9 (Kd.own_of_R HO207.out)))
 go_ret
 exact ⟨by first | rfl | (simp [errW_none, errW_some] <;> rfl) | (simp [*, errW_none, errW_some] <;> rfl), by repeat (first | (with_reducible first | exact HB.out | apply YA | apply YB | apply YC) | exact HB.out)⟩
def thalwegref01_Both.l0 : Nat → List (List Int) → List Int → Int → Option (List Int)
 | 0, _, _, _ => none
 | k + 1, x0, x3, x4 => if x4 < (x0.length : Int) then (if 0 ≤ x4 then (if x3.length + (rd_L3 x0 x4).length < 140737488355328 then (thalwegref01_Both.l0 k x0 (x3 ++ (rd_L3 x0 x4)) (wrap64 (x4 + 1))) else (none)) else (none)) else (some x3)
def thalwegref01_Both.f (k : Nat) (l0 : List (List Int)) : Option (List Int) := thalwegref01_Both.l0 k l0 ([] : List Int) 0
theorem thalwegref01_Both.calls (k : Nat) (A0 : Option Addr) (c0 : Nat) (l0 : List (List Int)) (r : List Int) (w : World) (hr0 : Kd.C (Kd.slice 5 (Kd.int .u8)) w A0 l0.length l0) (hc0 : l0.length ≤ c0) (h : thalwegref01_Both.f k l0 = some r) :
  Calls Try.prog 14 #[.slice A0 l0.length c0] w fun e w' => ∃ v0_ : Value, e = .returned (v0_) ∧ Kd.R (Kd.int .u8) 5 w' w.heap.size (fun _ => True) v0_ r ∧ Below w.heap.size w w' := by
 have HR0 := YD hr0; have HC0 := YD hc0; clear hr0 hc0
 have HB := YD (Below.refl w.heap.size w)
 have H : (thalwegref01_Both.l0 k l0 ([] : List Int) 0) = some r := h
 clear h
 have H' := YD H
 clear H
 go_enter Try.func14, Try.ntmps14
 go_wp2
 go_loopg [3, 4] k (fun kq v3 v4 w' => ∃ (x3_1 : List Int) (x4_1 : Int), v4 = .int .i64 x4_1 ∧ Aside0 (thalwegref01_Both.l0 kq l0 x3_1 x4_1 = some r) ∧ Aside0 (kq ≤ k) ∧ Aside0 (Kd.R (Kd.int .u8) 5 w' w.heap.size (fun _ => True) v3 x3_1) ∧ Aside0 (Below w.heap.size w w'))
 case atStart => exact ⟨(([] : List Int)), (0), (by first | rfl | (simp; done) | (simp [*]; done)), H', ⟨Nat.le_refl _⟩, ⟨by first | exact Kd.R_nil _ _ _ _ _ | exact Kd.N_nil _ _ _ _ _ | exact Kd.V_nil _ _ _ _ _ | exact Kd.Q_nil _ _ _ _ _ | exact Kd.S_nil _ _ _ _ _⟩, ⟨by repeat (first | (with_reducible first | exact HB.out | apply YA | apply YB | apply YC) | exact HB.out)⟩⟩
 case round =>
  clear H'
  try clear c1
  obtain ⟨x3_1, x4_1, rfl, HA, HK1, HO_3, HB⟩ := hrel
  cases gk with
  | zero => exact absurd HA.out (by simp [thalwegref01_Both.l0])
  | succ k1 =>
   have H := HA.out
   clear HA
   simp only [thalwegref01_Both.l0] at H
   by_cases c2 : x4_1 < (l0.length : Int)
   ·rw [if_pos c2] at H
    have c2b0 : decide (x4_1 < (l0.length : Int)) = true := decide_eq_true c2
    clear c2
    by_cases c3 : 0 ≤ x4_1
    rotate_left
    ·rw [if_neg c3] at H
     exact absurd H (by simp)
    rw [if_pos c3] at H; have c3b0 : decide (0 ≤ x4_1) = true := decide_eq_true c3; clear c3
    by_cases c4 : x3_1.length + (rd_L3 l0 x4_1).length < 140737488355328
    rotate_left
    ·rw [if_neg c4] at H
     exact absurd H (by simp)
    rw [if_pos c4] at H; have LMc4 := YD c4; clear c4
    obtain ⟨y237, hy237⟩ : ∃ y_ : List Int, y_ = (x3_1 ++ (rd_L3 l0 x4_1)) := ⟨_, rfl⟩
    replace H : (thalwegref01_Both.l0 k1 l0 y237 (wrap64 (x4_1 + 1))) = some r := by first | (rw [hy237]; with_reducible exact H) | (have H2_ := (Option.bind_some _ _).symm.trans H; rw [hy237]; with_reducible exact H2_) | (have H2_ := (Option.bind_some _ _).symm.trans H; with_reducible exact H2_) | with_reducible exact H | (rw [hy237]; exact H) | exact H
    have Ny237 := YD hy237; clear hy237
    have H' := YD H
    clear H
    have p236 : 0 ≤ (x4_1 : Int) := of_decide_eq_true (by first | (with_reducible assumption) | assumption)
    have q236 : x4_1 < (l0.length : Int) := of_decide_eq_true (by first | (with_reducible assumption) | assumption)
    obtain ⟨ad236, A236_0, c236_0, e236, hx236_0, hl236_0, hi236_0⟩ := at_L3 HR0.out x4_1 p236 q236
    cases e236
    replace hx236_0 := (HB.out.cell (World.block_lt_of_cell? w _ hx236_0)).trans hx236_0
    have HR236_0 := YD hi236_0; have HC236_0 := YD hl236_0; clear hi236_0 hl236_0
    replace p236 := eq_true p236
    replace q236 := eq_true q236
    go_wp2_with (first | ((with_reducible refine gate_builtin (b := .append) (xs := #[.tmp 11, .tmp 15]) rfl ?_); at_builtin; refine Kd.R_append_rows (Kd.int .u8) (w0 := w) w.heap.size rfl (.tmp 11) (.tmp 15) 28 5 (.int .u8 0) 1 rfl Try.underlying28 info5 rfl (by decide) (by omega) u3 x3_1 (rd_L3 l0 x4_1) _ _ _ (fun _ => True) (fun _ => False) rfl rfl ?aO ?aR (fun _ _ h => h) (fun _ h => h.elim) ?aF ?aB ?aS ?aL ?_; (case aR => repeat (first | exact (Kd.C_below HR236_0.out HB.out) | (with_reducible refine Kd.C_alloc ?_ _) | (with_reducible refine Kd.C_drewN ?_ _) | (with_reducible refine Kd.C_drew ?_))); (case aB => exact (by repeat (first | (with_reducible first | exact HB.out | apply YA | apply YB | apply YC) | exact HB.out))); (case aF => exact (fun _ _ => trivial)); (case aO => exact (by (with_reducible repeat (first | apply Kd.R_alloc | apply Kd.R_drewN | apply Kd.R_drew)); exact HO_3.out)); (case aS => exact (below_size (by repeat (first | (with_reducible first | exact HB.out | apply YA | apply YB | apply YC) | exact HB.out)))); (case aL => have := LMc4.out; omega); intro v238 w5 ho hb hg hat; rw [← Ny237.out] at ho; have n0_ := YD (hb); have n1_ := YD (ho); clear HB; clear HO_3; have HB := n0_; have HO239 := n1_; clear n0_ n1_; clear ho hb hg hat))
    go_roundg k1
    case measure => have := HK1.out; omega
    case rel => exact ⟨(y237), (wrap64 (x4_1 + 1)), (by first | rfl | (simp; done) | (simp [*]; done)), H', ⟨by have := HK1.out; omega⟩, ⟨by (with_reducible repeat (first | apply Kd.R_alloc | apply Kd.R_drewN | apply Kd.R_drew)); exact HO239.out⟩, ⟨by repeat (first | (with_reducible first | exact HB.out | apply YA | apply YB | apply YC) | exact HB.out)⟩⟩
   rw [if_neg c2] at H
   have c2b0 : decide (x4_1 < (l0.length : Int)) = false := decide_eq_false c2
   clear c2
   obtain rfl := Option.some.inj H
   go_wp2
   go_ret
   exact ⟨_, by first | rfl | (simp [errW_none, errW_some] <;> rfl) | (simp [*, errW_none, errW_some] <;> rfl), by (with_reducible repeat (first | apply Kd.R_alloc | apply Kd.R_drewN | apply Kd.R_drew)); exact HO_3.out, by repeat (first | (with_reducible first | exact HB.out | apply YA | apply YB | apply YC) | exact HB.out)⟩
end Go.Proofs.Ytmcmemknikineaa.P
namespace Go.Proofs.Ytmcmemknikineaa.P
open Go.RowKit YtmcmemknikineaaW.PrintWords YtmcmemknikineaaW.PrintLast YtmcmemknikineaaW.PrintMore
open YtmcmemknikineaaW.PrintWords renaming below_alloc → YA, pw_below_drewN → YB, below_drew1 → YC, blk_cell → YD, blk_frozen → YE
open YtmcmemknikineaaW.PrintWords.Aside0 renaming mk → YF
attribute [local go_sem] max2_int min2_int max_two min_two max_three min_three max_four min_four
def object_Size.f (k : Nat) (a0_0 : Int) (a0_1 : Int) (a0_2 : Bool) (a0_3 : Int) (a0_4 : Int) (a0_5 : Int) (a0_6 : Int) (a0_7 : Int) (a0_8 : Int) (a0_9 : Int) (a0_10 : Int) (a0_11 : Int) : Option (Int) := (object_Bytes.f k a0_0 a0_1 a0_2 a0_3 a0_4 a0_5 a0_6 a0_7 a0_8 a0_9 a0_10 a0_11).bind fun bt302 => (some (bt302.1.length : Int))
theorem object_Size.calls (k : Nat) (a0_0 : Int) (a0_1 : Int) (a0_2 : Bool) (a0_3 : Int) (a0_4 : Int) (a0_5 : Int) (a0_6 : Int) (a0_7 : Int) (a0_8 : Int) (a0_9 : Int) (a0_10 : Int) (a0_11 : Int) (r : Int) (w : World) (h : object_Size.f k a0_0 a0_1 a0_2 a0_3 a0_4 a0_5 a0_6 a0_7 a0_8 a0_9 a0_10 a0_11 = some r) :
  Calls Try.prog 12 #[.agg #[.int .i64 a0_0, .int .i64 a0_1, .bool a0_2, .int .i64 a0_3, .int .i64 a0_4, .int .i64 a0_5, .int .i64 a0_6, .int .i64 a0_7, .int .i64 a0_8, .int .i64 a0_9, .int .i64 a0_10, .int .i64 a0_11]] w fun e w' => e = .returned (.int .i64 r) ∧ Below w.heap.size w w' := by
 have hu27 := Try.underlying27
 have HB := YF (Below.refl w.heap.size w)
 have H : ((object_Bytes.f k a0_0 a0_1 a0_2 a0_3 a0_4 a0_5 a0_6 a0_7 a0_8 a0_9 a0_10 a0_11).bind fun bt302 => (some (bt302.1.length : Int))) = some r := h
 clear h; replace H := Option.bind_eq_some_iff.mp H
 obtain ⟨⟨t302, t305⟩, A20, H⟩ := H
 replace H : (some (t302.length : Int)) = some r := H
 have A2 := YF A20; clear A20
 obtain rfl := Option.some.inj H
 go_enter Try.func12, Try.ntmps12
 go_wp2_with (first | ((with_reducible refine gate_dst (N := 1) rfl ?_); refine box_event ?hg (N := 1) ?hd (cs := #[.int .i64 a0_0, .int .i64 a0_1, .bool a0_2, .int .i64 a0_3, .int .i64 a0_4, .int .i64 a0_5, .int .i64 a0_6, .int .i64 a0_7, .int .i64 a0_8, .int .i64 a0_9, .int .i64 a0_10, .int .i64 a0_11]) (t := 27) ?hr ?_; (case hd => rfl); (case hg => rfl); (case hr => first | (go_simp; done) | (go_simp; rfl)); intro gb301 hg w3 hbox hb; have n0_ := YF (below_step (by repeat (first | (with_reducible first | exact HB.out | apply YA | apply YB | apply YC) | exact HB.out)) hb); have n1_ := YF (hbox); have n2_ := YF ((by rw [hg]; exact (below_size (by repeat (first | (with_reducible first | exact HB.out | apply YA | apply YB | apply YC) | exact HB.out))) : w.heap.size ≤ gb301)); have n3_ := YF ((by rw [hg]; exact (below_size (by repeat (first | (with_reducible first | exact HB.out | apply YA | apply YB | apply YC) | exact HB.out))) : w.heap.size ≤ gb301)); clear HB; have HB := n0_; have BK301 := n1_; have GW301 := n2_; have GE301 := n3_; clear n0_ n1_ n2_ n3_; clear hb hbox hg; have q4_0 : w3.cell? ⟨gb301, 0, none⟩ = some (.int .i64 a0_0) := (YD BK301.out 0).trans rfl; have q4_1 : w3.cell? ⟨gb301, 1, none⟩ = some (.int .i64 a0_1) := (YD BK301.out 1).trans rfl; have q4_2 : w3.cell? ⟨gb301, 2, none⟩ = some (.bool a0_2) := (YD BK301.out 2).trans rfl; have q4_3 : w3.cell? ⟨gb301, 3, none⟩ = some (.int .i64 a0_3) := (YD BK301.out 3).trans rfl; have q4_4 : w3.cell? ⟨gb301, 4, none⟩ = some (.int .i64 a0_4) := (YD BK301.out 4).trans rfl; have q4_5 : w3.cell? ⟨gb301, 5, none⟩ = some (.int .i64 a0_5) := (YD BK301.out 5).trans rfl; have q4_6 : w3.cell? ⟨gb301, 6, none⟩ = some (.int .i64 a0_6) := (YD BK301.out 6).trans rfl; have q4_7 : w3.cell? ⟨gb301, 7, none⟩ = some (.int .i64 a0_7) := (YD BK301.out 7).trans rfl; have q4_8 : w3.cell? ⟨gb301, 8, none⟩ = some (.int .i64 a0_8) := (YD BK301.out 8).trans rfl; have q4_9 : w3.cell? ⟨gb301, 9, none⟩ = some (.int .i64 a0_9) := (YD BK301.out 9).trans rfl; have q4_10 : w3.cell? ⟨gb301, 10, none⟩ = some (.int .i64 a0_10) := (YD BK301.out 10).trans rfl; have q4_11 : w3.cell? ⟨gb301, 11, none⟩ = some (.int .i64 a0_11) := (YD BK301.out 11).trans rfl; have f4_0 := YE BK301.out 0; have f4_1 := YE BK301.out 1; have f4_2 := YE BK301.out 2; have f4_3 := YE BK301.out 3; have f4_4 := YE BK301.out 4; have f4_5 := YE BK301.out 5; have f4_6 := YE BK301.out 6; have f4_7 := YE BK301.out 7; have f4_8 := YE BK301.out 8; have f4_9 := YE BK301.out 9; have f4_10 := YE BK301.out 10; have f4_11 := YE BK301.out 11) | ((with_reducible refine gate_callee (f := 7) rfl ?_); refine goesL_ (some 7) rfl rfl Try.func7 (by kernel_rfl) rfl #[.agg #[.int .i64 a0_0, .int .i64 a0_1, .bool a0_2, .int .i64 a0_3, .int .i64 a0_4, .int .i64 a0_5, .int .i64 a0_6, .int .i64 a0_7, .int .i64 a0_8, .int .i64 a0_9, .int .i64 a0_10, .int .i64 a0_11]] rfl (by (try simp only [List.map_toArray, List.map_cons, List.map_nil]); first | done | rfl | (simp only [List.length_drop, List.length_take]; rfl)) ?_; (with_reducible refine (object_Bytes.calls k a0_0 a0_1 a0_2 a0_3 a0_4 a0_5 a0_6 a0_7 a0_8 a0_9 a0_10 a0_11 t302 t305 _ A2.out).mono ?_); rintro e w5 ⟨v303, rfl, ho0, hb⟩; refine ⟨_, rfl, ?_⟩; have n0_ := YF (Kd.R_lower ho0 (below_size (by repeat (first | (with_reducible first | exact HB.out | apply YA | apply YB | apply YC | refine below_set ?_ GE301.out) | exact HB.out)))); have n1_ := YF (blk_below (g := gb301) (o := .cells #[.int .i64 a0_0, .int .i64 a0_1, .bool a0_2, .int .i64 a0_3, .int .i64 a0_4, .int .i64 a0_5, .int .i64 a0_6, .int .i64 a0_7, .int .i64 a0_8, .int .i64 a0_9, .int .i64 a0_10, .int .i64 a0_11] 27 (0, 0)) (by (with_reducible repeat (first | refine blk_drewN ?_ _ | refine blk_drew ?_ | refine blk_alloc ?_ _)); exact BK301.out) hb); have n2_ := YF (below_step (by repeat (first | (with_reducible first | exact HB.out | apply YA | apply YB | apply YC | refine below_set ?_ GE301.out) | exact HB.out)) hb); clear BK301; clear HB; have HO304 := n0_; have BK301 := n1_; have HB := n2_; clear n0_ n1_ n2_; (try clear hb); (try clear hb2); (try clear hk); (try clear hi); (try clear ho0); obtain ⟨Ao6, co6, eo6⟩ := Kd.R_slice HO304.out; subst eo6))
 go_ret
 exact ⟨by first | rfl | (simp [errW_none, errW_some] <;> rfl) | (simp [*, errW_none, errW_some] <;> rfl), by repeat (first | (with_reducible first | exact HB.out | apply YA | apply YB | apply YC | refine below_set ?_ GE301.out) | exact HB.out)⟩
end Go.Proofs.Ytmcmemknikineaa.P
namespace Go.Proofs.Ytmcmemknikineaa.P
open Go.RowKit YtmcmemknikineaaW.PrintWords YtmcmemknikineaaW.PrintLast YtmcmemknikineaaW.PrintMore
open YtmcmemknikineaaW.PrintWords renaming below_alloc → YA, pw_below_drewN → YB, below_drew1 → YC, below_step → YD, below_size → YE, blk_drewN → YF, blk_drew → YG, blk_alloc → YH, blk_cell → YI, blk_frozen → YJ, blk_below → YK
open YtmcmemknikineaaW.PrintWords.Aside0 renaming mk → YL
open List renaming map_toArray → YM, length_take → YN, length_drop → YO
attribute [local go_sem] max2_int min2_int max_two min_two max_three min_three max_four min_four
def thalweglaw04_ObjectSizes.f (k : Nat) (a0_0 : Int) (a0_1 : Int) (a0_2 : Bool) (a0_3 : Int) (a0_4 : Int) (a0_5 : Int) (a0_6 : Int) (a0_7 : Int) (a0_8 : Int) (a0_9 : Int) (a0_10 : Int) (a0_11 : Int) : Option (Bool) := (object_Size.f k a0_0 a0_1 a0_2 a0_3 a0_4 a0_5 a0_6 a0_7 a0_8 a0_9 a0_10 a0_11).bind fun t320 => ((object_Check.f k a0_0 a0_1 a0_2 a0_3 a0_4 a0_5 a0_6 a0_7 a0_8 a0_9 a0_10 a0_11).bind fun t321 => (if t321 = 0 then ((some (([0, 2, 22, 12, 24] : List Int) : List Int)).bind fun y322 => (if 0 ≤ (Int.tmod a0_0 5) then (if (Int.tmod a0_0 5) < (y322.length : Int) then (if a0_0 = 2 then (if a0_2 = true then ((thalweglaw04_awake.f k).bind fun t326 => (if t326 = true then (some (t320 == 4)) else (none))) else ((thalweglaw04_awake.f k).bind fun t327 => (if t327 = true then (some (t320 == (rd y322 (Int.tmod a0_0 5)))) else (none)))) else ((thalweglaw04_awake.f k).bind fun t328 => (if t328 = true then (some (t320 == (rd y322 (Int.tmod a0_0 5)))) else (none)))) else (none)) else (none))) else ((thalweglaw04_awake.f k).bind fun t329 => (if t329 = true then (some (t320 == 0)) else (none)))))
def wire_GetInt.f (l0 : List Int) (a1 : Int) : Option (Int × Int × Int) := (wire_number.f l0 a1 8).bind fun bt330 => (some (wrap64 (bt330.1), bt330.2.1, bt330.2.2))
theorem wire_GetInt.calls (A0 : Option Addr) (c0 : Nat) (l0 : List Int) (a1 : Int) (r1 : Int) (r2 : Int) (r3 : Int) (w : World) (hr0 : Kd.C (Kd.int .u8) w A0 l0.length l0) (hc0 : l0.length ≤ c0) (h : wire_GetInt.f l0 a1 = some (r1, r2, r3)) :
  Calls Try.prog 27 #[.slice A0 l0.length c0, .int .i64 a1] w fun e w' => e = .returned (.tuple #[.int .i64 r1, .int .i64 r2, .int .i64 r3]) ∧ Below w.heap.size w w' := by
 have HR0 := YL hr0; have HC0 := YL hc0; clear hr0 hc0
 have HB := YL (Below.refl w.heap.size w)
 have H : ((wire_number.f l0 a1 8).bind fun bt330 => (some (wrap64 (bt330.1), bt330.2.1, bt330.2.2))) = some (r1, r2, r3) := h
 clear h; replace H := Option.bind_eq_some_iff.mp H
 obtain ⟨⟨t330, t331, t332⟩, A30, H⟩ := H
 replace H : (some (wrap64 (t330), t331, t332)) = some (r1, r2, r3) := H
 have A3 := YL A30; clear A30
 simp only [Option.some.injEq, Prod.mk.injEq] at H
 obtain ⟨rfl, rfl, rfl⟩ := H
 go_enter Try.func27, Try.ntmps27
 go_wp2_with (first | ((with_reducible refine gate_callee (f := 32) rfl ?_); refine goesL_ (some 13) rfl rfl Try.func32 (by kernel_rfl) rfl #[.slice A0 l0.length c0, .int .i64 a1, .int .i64 8] rfl (by (try simp only [YM, List.map_cons, List.map_nil]); first | done | rfl | (simp only [YO, YN]; rfl)) ?_; (with_reducible refine (wire_number.calls _ _ l0 a1 8 t330 t331 t332 _ ?side1 ?side2 A3.out).mono ?_); (case side1 => repeat (first | exact HR0.out | (with_reducible refine Kd.C_alloc ?_ _) | (with_reducible refine Kd.C_drewN ?_ _) | (with_reducible refine Kd.C_drew ?_))); (case side2 => exact HC0.out); rintro e w4 ⟨rfl, hb⟩; refine ⟨_, rfl, ?_⟩; have n0_ := YL (YD (by repeat (first | (with_reducible first | exact HB.out | apply YA | apply YB | apply YC) | exact HB.out)) hb); clear HB; have HB := n0_; clear n0_; (try clear hb); (try clear hb2); (try clear hk); (try clear hi)))
 go_ret3
 exact ⟨by first | rfl | (simp [errW_none, errW_some] <;> rfl) | (simp [*, errW_none, errW_some] <;> rfl), by repeat (first | (with_reducible first | exact HB.out | apply YA | apply YB | apply YC) | exact HB.out)⟩
def wire_Get.f (l0 : List Int) (a1 : Int) (a2 : Int) : Option (Int × Int × Int) := if a2 < 1 then (some (0, 0, 1)) else (if a2 > 7 then (some (0, 0, 1)) else ((wire_number.f l0 a1 a2).bind fun bt333 => (some (wrap64 (bt333.1), bt333.2.1, bt333.2.2))))
theorem wire_Get.calls (A0 : Option Addr) (c0 : Nat) (l0 : List Int) (a1 : Int) (a2 : Int) (r1 : Int) (r2 : Int) (r3 : Int) (w : World) (hr0 : Kd.C (Kd.int .u8) w A0 l0.length l0) (hc0 : l0.length ≤ c0) (h : wire_Get.f l0 a1 a2 = some (r1, r2, r3)) :
  Calls Try.prog 28 #[.slice A0 l0.length c0, .int .i64 a1, .int .i64 a2] w fun e w' => e = .returned (.tuple #[.int .i64 r1, .int .i64 r2, .int .i64 r3]) ∧ Below w.heap.size w w' := by
 have HR0 := YL hr0; have HC0 := YL hc0; clear hr0 hc0
 have HB := YL (Below.refl w.heap.size w)
 have H : (if a2 < 1 then (some (0, 0, 1)) else (if a2 > 7 then (some (0, 0, 1)) else ((wire_number.f l0 a1 a2).bind fun bt333 => (some (wrap64 (bt333.1), bt333.2.1, bt333.2.2))))) = some (r1, r2, r3) := h
 clear h
 by_cases c4 : a2 < 1
 ·rw [if_pos c4] at H
  have c4b0 : decide (a2 < 1) = true := decide_eq_true c4; clear c4
  simp only [Option.some.injEq, Prod.mk.injEq] at H
  obtain ⟨rfl, rfl, rfl⟩ := H
  go_enter Try.func28, Try.ntmps28
  go_wp2
  go_ret3
  exact ⟨by first | rfl | (simp [errW_none, errW_some] <;> rfl) | (simp [*, errW_none, errW_some] <;> rfl), by repeat (first | (with_reducible first | exact HB.out | apply YA | apply YB | apply YC) | exact HB.out)⟩
 rw [if_neg c4] at H; have c4b0 : decide (a2 < 1) = false := decide_eq_false c4; clear c4
 by_cases c5 : a2 > 7
 ·rw [if_pos c5] at H
  have c5b0 : decide (7 < a2) = true := decide_eq_true c5; clear c5
  simp only [Option.some.injEq, Prod.mk.injEq] at H
  obtain ⟨rfl, rfl, rfl⟩ := H
  go_enter Try.func28, Try.ntmps28
  go_wp2
  go_ret3
  exact ⟨by first | rfl | (simp [errW_none, errW_some] <;> rfl) | (simp [*, errW_none, errW_some] <;> rfl), by repeat (first | (with_reducible first | exact HB.out | apply YA | apply YB | apply YC) | exact HB.out)⟩
 rw [if_neg c5] at H; have c5b0 : decide (7 < a2) = false := decide_eq_false c5; clear c5; replace H := Option.bind_eq_some_iff.mp H
 obtain ⟨⟨t333, t334, t335⟩, A60, H⟩ := H
 replace H : (some (wrap64 (t333), t334, t335)) = some (r1, r2, r3) := H
 have A6 := YL A60; clear A60
 simp only [Option.some.injEq, Prod.mk.injEq] at H
 obtain ⟨rfl, rfl, rfl⟩ := H
 go_enter Try.func28, Try.ntmps28
 go_wp2_with (first | ((with_reducible refine gate_callee (f := 32) rfl ?_); refine goesL_ (some 22) rfl rfl Try.func32 (by kernel_rfl) rfl #[.slice A0 l0.length c0, .int .i64 a1, .int .i64 a2] rfl (by (try simp only [YM, List.map_cons, List.map_nil]); first | done | rfl | (simp only [YO, YN]; rfl)) ?_; (with_reducible refine (wire_number.calls _ _ l0 a1 a2 t333 t334 t335 _ ?side1 ?side2 A6.out).mono ?_); (case side1 => repeat (first | exact HR0.out | (with_reducible refine Kd.C_alloc ?_ _) | (with_reducible refine Kd.C_drewN ?_ _) | (with_reducible refine Kd.C_drew ?_))); (case side2 => exact HC0.out); rintro e w7 ⟨rfl, hb⟩; refine ⟨_, rfl, ?_⟩; have n0_ := YL (YD (by repeat (first | (with_reducible first | exact HB.out | apply YA | apply YB | apply YC) | exact HB.out)) hb); clear HB; have HB := n0_; clear n0_; (try clear hb); (try clear hb2); (try clear hk); (try clear hi)))
 go_ret3
 exact ⟨by first | rfl | (simp [errW_none, errW_some] <;> rfl) | (simp [*, errW_none, errW_some] <;> rfl), by repeat (first | (with_reducible first | exact HB.out | apply YA | apply YB | apply YC) | exact HB.out)⟩
end Go.Proofs.Ytmcmemknikineaa.P
namespace Go.Proofs.Ytmcmemknikineaa.P
open Go.RowKit YtmcmemknikineaaW.PrintWords YtmcmemknikineaaW.PrintLast YtmcmemknikineaaW.PrintMore
theorem wire_number_eq (l : List Int) (a n : Int) (hB : Bytes l) (hl : l.length ≤ 1000000000000) (h0 : 0 ≤ n) (h8 : n ≤ 8) : wire_number.f l a n = some (numSpec l a n) := by
 unfold wire_number.f
 rw [if_pos ⟨hl, h0, h8, hB⟩]
theorem numSpec_small (l : List Int) (a n : Int) (hB : Bytes l) (h7 : n ≤ 7) : 0 ≤ (numSpec l a n).1 ∧ (numSpec l a n).1 < 72057594037927936 := by
 unfold numSpec
 split
 ·simp
 ·split
  ·simp
  ·have hr := bev_range _ ((hB.drop a.toNat).take n.toNat)
   have hp : (256 : Int) ^ ((l.drop a.toNat).take n.toNat).length ≤ 256 ^ 7 := pow256_le _ _ (by rw [List.length_take]; omega)
   have e7 : (256 : Int) ^ 7 = 72057594037927936 := by decide
   exact ⟨hr.1, by show bev _ < _; omega⟩
theorem wire_Get_eq (l : List Int) (a n : Int) (hB : Bytes l) (hl : l.length ≤ 1000000000000) : wire_Get.f l a n = some (getSpec l a n) := by
 unfold wire_Get.f getSpec
 by_cases c : n < 1 ∨ 7 < n
 ·rw [if_pos c]
  by_cases c1 : n < 1
  ·rw [if_pos c1]
  ·rw [if_neg c1, if_pos (show n > 7 by omega)]
 ·rw [if_neg c]
  rw [if_neg (show ¬ n < 1 by omega), if_neg (show ¬ n > 7 by omega), wire_number_eq l a n hB hl (by omega) (by omega)]
  have hs := numSpec_small l a n hB (by omega)
  rw [Option.bind_some, w64 (by omega) (by omega)]
theorem wire_GetInt_eq (l : List Int) (a : Int) (hB : Bytes l) (hl : l.length ≤ 1000000000000) : wire_GetInt.f l a = some (getIntSpec l a) := by
 unfold wire_GetInt.f getIntSpec
 rw [wire_number_eq l a 8 hB hl (by omega) (by omega)]
 rfl
end Go.Proofs.Ytmcmemknikineaa.P
namespace Go.Proofs.Ytmcmemknikineaa.P
open Go.RowKit YtmcmemknikineaaW.PrintWords YtmcmemknikineaaW.PrintLast YtmcmemknikineaaW.PrintMore
attribute [local go_sem] max2_int min2_int max_two min_two max_three min_three max_four min_four
abbrev RdC (A : Option Addr) (n c : Nat) (at_ e : Int) : Array Value := #[.slice A n c, .int .i64 at_, .int .i64 e]
def rdStep (G : Int × Int × Int) (at_ e : Int) : Int × Int × Int := if e = 0 then (if G.2.2 = 0 then (G.1, G.2.1, 0) else (0, at_, G.2.2)) else (0, at_, e)
def rd1 (l : List Int) (n at_ e : Int) : Int × Int × Int := rdStep (getSpec l at_ n) at_ e
def rd8 (l : List Int) (at_ e : Int) : Int × Int × Int := rdStep (getIntSpec l at_) at_ e
theorem cells3 {w : World} {g : Nat} {t : TypeId} {v0 v1 v2 : Value} (h : w.heap[g]? = some (.cells #[v0, v1, v2] t (0, 0))) : (w.cell? ⟨g, 0, none⟩ = some v0 ∧ w.cell? ⟨g, 1, none⟩ = some v1 ∧ w.cell? ⟨g, 2, none⟩ = some v2) ∧ (w.frozen? ⟨g, 0, none⟩ = false ∧ w.frozen? ⟨g, 1, none⟩ = false ∧ w.frozen? ⟨g, 2, none⟩ = false) := ⟨⟨(blk_cell h 0).trans rfl, (blk_cell h 1).trans rfl, (blk_cell h 2).trans rfl⟩, ⟨blk_frozen h 0, blk_frozen h 1, blk_frozen h 2⟩⟩
theorem cells6 {w : World} {g : Nat} {t : TypeId} {v0 v1 v2 v3 v4 v5 : Value} (h : w.heap[g]? = some (.cells #[v0, v1, v2, v3, v4, v5] t (0, 0))) : (w.cell? ⟨g, 0, none⟩ = some v0 ∧ w.cell? ⟨g, 1, none⟩ = some v1 ∧ w.cell? ⟨g, 2, none⟩ = some v2 ∧ w.cell? ⟨g, 3, none⟩ = some v3 ∧ w.cell? ⟨g, 4, none⟩ = some v4 ∧ w.cell? ⟨g, 5, none⟩ = some v5) ∧ (w.frozen? ⟨g, 0, none⟩ = false ∧ w.frozen? ⟨g, 1, none⟩ = false ∧ w.frozen? ⟨g, 2, none⟩ = false ∧ w.frozen? ⟨g, 3, none⟩ = false ∧ w.frozen? ⟨g, 4, none⟩ = false ∧ w.frozen? ⟨g, 5, none⟩ = false) := ⟨⟨(blk_cell h 0).trans rfl, (blk_cell h 1).trans rfl, (blk_cell h 2).trans rfl, (blk_cell h 3).trans rfl, (blk_cell h 4).trans rfl, (blk_cell h 5).trans rfl⟩, ⟨blk_frozen h 0, blk_frozen h 1, blk_frozen h 2, blk_frozen h 3, blk_frozen h 4, blk_frozen h 5⟩⟩
theorem cells12 {w : World} {g : Nat} {t : TypeId} {v0 v1 v2 v3 v4 v5 v6 v7 v8 v9 v10 v11 : Value} (h : w.heap[g]? = some (.cells #[v0, v1, v2, v3, v4, v5, v6, v7, v8, v9, v10, v11] t (0, 0))) : (w.cell? ⟨g, 0, none⟩ = some v0 ∧ w.cell? ⟨g, 1, none⟩ = some v1 ∧ w.cell? ⟨g, 2, none⟩ = some v2 ∧ w.cell? ⟨g, 3, none⟩ = some v3 ∧ w.cell? ⟨g, 4, none⟩ = some v4 ∧ w.cell? ⟨g, 5, none⟩ = some v5 ∧ w.cell? ⟨g, 6, none⟩ = some v6 ∧ w.cell? ⟨g, 7, none⟩ = some v7 ∧ w.cell? ⟨g, 8, none⟩ = some v8 ∧ w.cell? ⟨g, 9, none⟩ = some v9 ∧ w.cell? ⟨g, 10, none⟩ = some v10 ∧ w.cell? ⟨g, 11, none⟩ = some v11) ∧ (w.frozen? ⟨g, 0, none⟩ = false ∧ w.frozen? ⟨g, 1, none⟩ = false ∧ w.frozen? ⟨g, 2, none⟩ = false ∧ w.frozen? ⟨g, 3, none⟩ = false ∧ w.frozen? ⟨g, 4, none⟩ = false ∧ w.frozen? ⟨g, 5, none⟩ = false ∧ w.frozen? ⟨g, 6, none⟩ = false ∧ w.frozen? ⟨g, 7, none⟩ = false ∧ w.frozen? ⟨g, 8, none⟩ = false ∧ w.frozen? ⟨g, 9, none⟩ = false ∧ w.frozen? ⟨g, 10, none⟩ = false ∧ w.frozen? ⟨g, 11, none⟩ = false) := ⟨⟨(blk_cell h 0).trans rfl, (blk_cell h 1).trans rfl, (blk_cell h 2).trans rfl, (blk_cell h 3).trans rfl, (blk_cell h 4).trans rfl, (blk_cell h 5).trans rfl, (blk_cell h 6).trans rfl, (blk_cell h 7).trans rfl, (blk_cell h 8).trans rfl, (blk_cell h 9).trans rfl, (blk_cell h 10).trans rfl, (blk_cell h 11).trans rfl⟩, ⟨blk_frozen h 0, blk_frozen h 1, blk_frozen h 2, blk_frozen h 3, blk_frozen h 4, blk_frozen h 5, blk_frozen h 6, blk_frozen h 7, blk_frozen h 8, blk_frozen h 9, blk_frozen h 10, blk_frozen h 11⟩⟩
theorem grown_set {w : World} {g : Nat} {cs : Array Value} {t : TypeId} (hb : w.heap[g]? = some (.cells cs t (0, 0))) (i : Nat) (u : Value) : w.grownBy (w.setCell ⟨g, i, none⟩ u) (some g) :=
 ⟨rfl, rfl, rfl, by simp [World.setCell], fun k hk hn => Below.heap_setCell w ⟨g, i, none⟩ u k (fun e => hn (by rw [e]))⟩
theorem grown_below {w w1 w2 : World} {g : Nat} (hb : Below w.heap.size w w1) (h : w1.grownBy w2 (some g)) : w.grownBy w2 (some g) :=
 ⟨h.os.trans hb.os, h.tape.trans hb.tape, h.output.trans hb.output, Nat.le_trans hb.size h.size, fun k hk hn => (h.block k (Nat.lt_of_lt_of_le hk hb.size) hn).trans (hb.block k hk)⟩
theorem hr_keep0 (g : Nat) (A : Option Addr) (n c : Nat) (at_ e v tt : Int) (w : World) (hb : w.heap[g]? = some (.cells (RdC A n c at_ e) 77 (0, 0))) :
  Calls Try.prog 37 #[.pointer (some ⟨g, 0, none⟩), .int .i64 v, .int .i64 tt, .int .i64 0] w fun x w' => x = .returned (.int .i64 v) ∧ w' = w.setCell ⟨g, 1, none⟩ (.int .i64 tt) := by
 have h1 : w.cell? ⟨g, 1, none⟩ = some (.int .i64 at_) := (blk_cell hb 1).trans rfl
 have f1 := blk_frozen hb 1
 clear hb
 go_enter Try.func37, Try.ntmps37
 go_wp2
 go_ret
 exact ⟨rfl, rfl⟩
theorem hr_keepE (g : Nat) (A : Option Addr) (n c : Nat) (at_ e v tt e2 : Int) (w : World) (he : ¬ e2 = 0) (hb : w.heap[g]? = some (.cells (RdC A n c at_ e) 77 (0, 0))) :
  Calls Try.prog 37 #[.pointer (some ⟨g, 0, none⟩), .int .i64 v, .int .i64 tt, .int .i64 e2] w fun x w' => x = .returned (.int .i64 0) ∧ w' = w.setCell ⟨g, 2, none⟩ (.int .i64 e2) := by
 have h1 : w.cell? ⟨g, 2, none⟩ = some (.int .i64 e) := (blk_cell hb 2).trans rfl
 have f1 := blk_frozen hb 2
 have b1 : (e2 != 0) = true := bne_iff_ne.mpr he
 clear hb he
 go_enter Try.func37, Try.ntmps37
 go_wp2
 go_ret
 exact ⟨rfl, rfl⟩
theorem hr_keep (g : Nat) (A : Option Addr) (n c : Nat) (at_ v tt e2 : Int) (w : World) (hb : w.heap[g]? = some (.cells (RdC A n c at_ 0) 77 (0, 0))) :
  Calls Try.prog 37 #[.pointer (some ⟨g, 0, none⟩), .int .i64 v, .int .i64 tt, .int .i64 e2] w fun x w' => x = .returned (.int .i64 (rdStep (v, tt, e2) at_ 0).1) ∧ w'.heap[g]? = some (.cells (RdC A n c (rdStep (v, tt, e2) at_ 0).2.1 (rdStep (v, tt, e2) at_ 0).2.2) 77 (0, 0)) ∧ w.grownBy w' (some g) := by
 by_cases c0 : e2 = 0
 ·subst c0
  refine (hr_keep0 g A n c at_ 0 v tt w hb).mono ?_
  rintro x w' ⟨rfl, rfl⟩
  exact ⟨rfl, blk_put hb 1 _ rfl, grown_set hb _ _⟩
 ·refine (hr_keepE g A n c at_ 0 v tt e2 w c0 hb).mono ?_
  rintro x w' ⟨rfl, rfl⟩
  simp only [rdStep, if_true, if_neg c0]
  exact ⟨trivial, blk_put hb 2 _ rfl, grown_set hb _ _⟩
def hr_one.T3 : Bool × List (List Nat × List Nat) := (true, [([], []), ([], []), ([1], [1]), ([2], [2]), ([3], [3]), ([], []), ([5], [5]), ([6], [6]), ([7], [7]), ([4, 8], [4, 8]), ([9], [9]), ([9], [9]), ([9], [9]), ([0, 10, 11, 12, 9], [0, 10, 11, 12]), ([13, 13, 0, 1, 2, 3, 4, 5, 6, 7, 8, 9, 10, 11, 12, 13], [13])])
def hr_one.B3 : List Nat := [0, 0, 2, 6, 14, 0, 32, 96, 224, 510, 1022, 1022, 1022, 8191, 16383]
theorem hr_one.tab3 : rtab .any (opsOf Try.f33 3) = hr_one.T3 := by kernel_rfl
theorem hr_one.bits3 : waitsOk hr_one.T3.2 hr_one.B3 = true := by kernel_rfl
theorem hr_one (g : Nat) (A : Option Addr) (c : Nat) (l : List Int) (at_ e : Int) (w : World) (hB : Bytes l) (hl : l.length ≤ 1000000000000) (hr : Kd.C (Kd.int .u8) w A l.length l) (hc : l.length ≤ c) (hb : w.heap[g]? = some (.cells (RdC A l.length c at_ e) 77 (0, 0))) :
  Calls Try.prog 33 #[.pointer (some ⟨g, 0, none⟩)] w fun x w' => x = .returned (.int .i64 (rd1 l 1 at_ e).1) ∧ w'.heap[g]? = some (.cells (RdC A l.length c (rd1 l 1 at_ e).2.1 (rd1 l 1 at_ e).2.2) 77 (0, 0)) ∧ w.grownBy w' (some g) := by
 have h2 : w.cell? ⟨g, 2, none⟩ = some (.int .i64 e) := (blk_cell hb 2).trans rfl
 have HBB := Aside0.mk hb
 by_cases c0 : e = 0
 case neg =>
  have b0 : (e != 0) = true := bne_iff_ne.mpr c0
  have HN := Aside0.mk c0
  clear hb c0
  go_enter Try.func33, Try.ntmps33
  go_wp2
  go_ret
  simp only [rd1, rd8, rdStep, if_neg HN.out]
  exact ⟨rfl, HBB.out, rfl, rfl, rfl, Nat.le_refl _, fun _ _ _ => rfl⟩
 subst c0
 obtain ⟨s1, s2, s3, hG⟩ : ∃ s1 s2 s3, getSpec l at_ 1 = (s1, s2, s3) := ⟨_, _, _, rfl⟩
 have HG := Aside0.mk (show wire_Get.f l at_ 1 = some (s1, s2, s3) by rw [wire_Get_eq _ _ _ hB hl, hG])
 have HGG := Aside0.mk hG
 clear hG hb
 go_enter Try.func33, Try.ntmps33
 go_wp2
 clear h2
 refine start_ (n := 15) (S := fun w' => w'.cell? ⟨g, 0, none⟩ = some (.slice A l.length c) ∧ w'.cell? ⟨g, 1, none⟩ = some (.int .i64 at_)) (ds := [13]) #[false, false, false, false, false, false, false, false, false, false, false, false, false, false, false] (by kernel_rfl) rfl rfl ⟨(blk_cell HBB.out 0).trans rfl, (blk_cell HBB.out 1).trans rfl⟩ (fun hHeld => ?_); refine with_tabW hr_one.tab3 hr_one.bits3 (fun HT_ HW_ => ?_)
 refine pure_ (i := 0) (N := some 8) (v := ?_) (a' := ?_) #[true, false, false, false, false, false, false, false, false, false, false, false, false, false, false] rfl rfl (any_of HT_.out (by kernel_rfl)) (fun _ _ _ h => h) (Or.inl ⟨by rfl, ?_⟩) ?_ ?_
 rotate_left
 ·intro w'
  go_simp
  with_reducible rfl
 rotate_left
 ·simp only [Act.put, List.setIfInBounds_toArray, List.set_cons_zero, List.set_cons_succ, i64_w, i32_w]
  rfl
 refine pure_ (i := 1) (N := some 9) (v := ?_) (a' := ?_) #[true, true, false, false, false, false, false, false, false, false, false, false, false, false, false] rfl rfl (any_of HT_.out (by kernel_rfl)) (fun _ _ _ h => h) (Or.inl ⟨by rfl, ?_⟩) ?_ ?_
 rotate_left
 ·intro w'
  go_simp
  with_reducible rfl
 rotate_left
 ·simp only [Act.put, List.setIfInBounds_toArray, List.set_cons_zero, List.set_cons_succ, i64_w, i32_w]
  rfl
 refine pure_ (i := 2) (N := some 10) (v := ?_) (a' := ?_) #[true, true, true, false, false, false, false, false, false, false, false, false, false, false, false] rfl rfl (any_of HT_.out (by kernel_rfl)) (fun _ _ _ h => h) (Or.inl ⟨by rfl, ?_⟩) ?_ ?_
 rotate_left
 ·intro w'
  go_simp
  with_reducible rfl
 rotate_left
 ·simp only [Act.put, List.setIfInBounds_toArray, List.set_cons_zero, List.set_cons_succ, i64_w, i32_w]
  rfl
 refine pure_ (i := 3) (N := some 11) (v := ?_) (a' := ?_) #[true, true, true, true, false, false, false, false, false, false, false, false, false, false, false] rfl rfl (any_of HT_.out (by kernel_rfl)) (fun _ _ _ h => h) (Or.inl ⟨by rfl, ?_⟩) ?_ ?_
 rotate_left
 ·intro w'
  go_simp
  with_reducible rfl
 rotate_left
 ·simp only [Act.put, List.setIfInBounds_toArray, List.set_cons_zero, List.set_cons_succ, i64_w, i32_w]
  rfl
 refine pure_ (i := 5) (N := some 13) (v := ?_) (a' := ?_) #[true, true, true, true, false, true, false, false, false, false, false, false, false, false, false] rfl rfl (any_of HT_.out (by kernel_rfl)) (fun _ _ _ h => h) (Or.inl ⟨by rfl, ?_⟩) ?_ ?_
 rotate_left
 ·intro w'
  go_simp
  with_reducible rfl
 rotate_left
 ·simp only [Act.put, List.setIfInBounds_toArray, List.set_cons_zero, List.set_cons_succ, i64_w, i32_w]
  rfl
 refine pure_ (i := 6) (N := some 14) (v := ?_) (a' := ?_) #[true, true, true, true, false, true, true, false, false, false, false, false, false, false, false] rfl rfl (any_of HT_.out (by kernel_rfl)) (fun _ _ _ h => h) (Or.inl ⟨by rfl, ?_⟩) ?_ ?_
 rotate_left
 ·intro w'
  go_simp
  with_reducible rfl
 rotate_left
 ·simp only [Act.put, List.setIfInBounds_toArray, List.set_cons_zero, List.set_cons_succ, i64_w, i32_w]
  rfl
 refine pure_ (i := 7) (N := some 15) (v := ?_) (a' := ?_) #[true, true, true, true, false, true, true, true, false, false, false, false, false, false, false] rfl rfl (any_of HT_.out (by kernel_rfl)) (fun _ _ _ h => h) (Or.inl ⟨by rfl, ?_⟩) ?_ ?_
 rotate_left
 ·intro w'
  go_simp
  with_reducible rfl
 rotate_left
 ·simp only [Act.put, List.setIfInBounds_toArray, List.set_cons_zero, List.set_cons_succ, i64_w, i32_w]
  rfl
 refine take_ (i := 4) (N := some 12) (v := ?_) (a' := ?_) #[true, true, true, true, true, true, true, true, false, false, false, false, false, false, false] rfl rfl (take_ofW HT_.out HW_.out (by kernel_rfl)) (fun _ _ _ h => h) (Or.inl ⟨by rfl, ?_⟩) hHeld ?_ ?_
 rotate_left
 ·rintro w' ⟨s0, s1⟩
  go_simp
  with_reducible rfl
 rotate_left
 ·simp only [Act.put, List.setIfInBounds_toArray, List.set_cons_zero, List.set_cons_succ, i64_w, i32_w]
  rfl
 refine take_ (i := 8) (N := some 16) (v := ?_) (a' := ?_) #[true, true, true, true, true, true, true, true, true, false, false, false, false, false, false] rfl rfl (take_ofW HT_.out HW_.out (by kernel_rfl)) (fun _ _ _ h => h) (Or.inl ⟨by rfl, ?_⟩) hHeld ?_ ?_
 rotate_left
 ·rintro w' ⟨s0, s1⟩
  go_simp
  with_reducible rfl
 rotate_left
 ·simp only [Act.put, List.setIfInBounds_toArray, List.set_cons_zero, List.set_cons_succ, i64_w, i32_w]
  rfl
 refine one_ (i := 9) (N := some 17) #[true, true, true, true, true, true, true, true, true, true, false, false, false, false, false] rfl rfl (one_of HT_.out (by kernel_rfl)) (by decide) (fun K hK => ?_)
 refine goes_ Try.func28 (by kernel_rfl) rfl #[.slice A l.length c, .int .i64 at_, .int .i64 1] (by rfl) rfl rfl (by simp only [List.map_toArray, List.map_cons, List.map_nil]; rfl) ?_
 with_reducible refine (wire_Get.calls A c l at_ 1 s1 s2 s3 _ (Kd.C_below hr (below_drew (Below.refl _ _))) hc HG.out).mono ?_
 rintro e w7 ⟨rfl, hb7⟩
 refine ⟨_, rfl, ?_⟩
 have HB7 := Aside0.mk hb7
 have BX7 := Aside0.mk (blk_below (w := w.drew) HBB.out hb7)
 clear hb7
 refine hK.out _ _ ⟨(blk_cell BX7.out 0).trans rfl, (blk_cell BX7.out 1).trans rfl⟩ (fun hHeld => ?_)
 clear hK K
 refine norm_ (a' := ?_) ?_ ?_
 rotate_left
 ·show Act.put _ (some 17) _ = _
  simp only [Act.put, List.setIfInBounds_toArray, List.set_cons_zero, List.set_cons_succ, i64_w, i32_w]
  rfl
 refine pure_ (i := 10) (N := some 18) (v := ?_) (a' := ?_) #[true, true, true, true, true, true, true, true, true, true, true, false, false, false, false] rfl rfl (any_of HT_.out (by kernel_rfl)) (fun _ _ _ h => h) (Or.inl ⟨by rfl, ?_⟩) ?_ ?_
 rotate_left
 ·intro w'
  go_simp
  with_reducible rfl
 rotate_left
 ·simp only [Act.put, List.setIfInBounds_toArray, List.set_cons_zero, List.set_cons_succ, i64_w, i32_w]
  rfl
 refine pure_ (i := 11) (N := some 19) (v := ?_) (a' := ?_) #[true, true, true, true, true, true, true, true, true, true, true, true, false, false, false] rfl rfl (any_of HT_.out (by kernel_rfl)) (fun _ _ _ h => h) (Or.inl ⟨by rfl, ?_⟩) ?_ ?_
 rotate_left
 ·intro w'
  go_simp
  with_reducible rfl
 rotate_left
 ·simp only [Act.put, List.setIfInBounds_toArray, List.set_cons_zero, List.set_cons_succ, i64_w, i32_w]
  rfl
 refine pure_ (i := 12) (N := some 20) (v := ?_) (a' := ?_) #[true, true, true, true, true, true, true, true, true, true, true, true, true, false, false] rfl rfl (any_of HT_.out (by kernel_rfl)) (fun _ _ _ h => h) (Or.inl ⟨by rfl, ?_⟩) ?_ ?_
 rotate_left
 ·intro w'
  go_simp
  with_reducible rfl
 rotate_left
 ·simp only [Act.put, List.setIfInBounds_toArray, List.set_cons_zero, List.set_cons_succ, i64_w, i32_w]
  rfl
 refine last_ (i := 13) (N := some 21) #[true, true, true, true, true, true, true, true, true, true, true, true, true, true, false] rfl rfl (one_of HT_.out (by kernel_rfl)) (by decide) (fun K hK => ?_)
 refine goes_ Try.func37 (by kernel_rfl) rfl #[.pointer (some ⟨g, 0, none⟩), .int .i64 s1, .int .i64 s2, .int .i64 s3] (by rfl) rfl rfl (by simp only [List.map_toArray, List.map_cons, List.map_nil]; rfl) ?_
 with_reducible refine (hr_keep g A l.length c at_ s1 s2 s3 _ BX7.out).mono ?_
 rintro e w8 ⟨rfl, hbx, hgr⟩
 refine ⟨_, rfl, ?_⟩
 have BX8 := Aside0.mk hbx
 have HG8 := Aside0.mk hgr
 clear hbx hgr
 refine hK.out _ _ ?_
 clear hK K
 refine norm_ (a' := ?_) ?_ ?_
 rotate_left
 ·show Act.put _ (some 21) _ = _
  simp only [Act.put, List.setIfInBounds_toArray, List.set_cons_zero, List.set_cons_succ, i64_w, i32_w]
  rfl
 refine pure_ (i := 14) (N := some 2) (v := ?_) (a' := ?_) #[true, true, true, true, true, true, true, true, true, true, true, true, true, true, true] rfl rfl (any_of HT_.out (by kernel_rfl)) (fun _ _ _ h => h) (Or.inl ⟨by rfl, ?_⟩) ?_ ?_
 rotate_left
 ·intro w'
  go_simp
  with_reducible rfl
 rotate_left
 ·simp only [Act.put, List.setIfInBounds_toArray, List.set_cons_zero, List.set_cons_succ, i64_w, i32_w]
  rfl
 refine done_ (done_of HT_.out (by kernel_rfl)) ?_
 clear HT_ HW_
 go_wp2
 go_ret
 have hgg := HGG.out
 simp only [rd1, rd8, hgg]
 exact ⟨rfl, BX8.out, grown_below (below_step (below_drew (Below.refl _ _)) HB7.out) HG8.out⟩
def hr_eight.T3 : Bool × List (List Nat × List Nat) := (true, [([], []), ([], []), ([1], [1]), ([2], [2]), ([3], [3]), ([], []), ([5], [5]), ([6], [6]), ([7], [7]), ([4, 8], [4, 8]), ([9], [9]), ([9], [9]), ([9], [9]), ([0, 10, 11, 12, 9], [0, 10, 11, 12]), ([13, 13, 0, 1, 2, 3, 4, 5, 6, 7, 8, 9, 10, 11, 12, 13], [13])])
def hr_eight.B3 : List Nat := [0, 0, 2, 6, 14, 0, 32, 96, 224, 510, 1022, 1022, 1022, 8191, 16383]
theorem hr_eight.tab3 : rtab .any (opsOf Try.f34 3) = hr_eight.T3 := by kernel_rfl
theorem hr_eight.bits3 : waitsOk hr_eight.T3.2 hr_eight.B3 = true := by kernel_rfl
theorem hr_eight (g : Nat) (A : Option Addr) (c : Nat) (l : List Int) (at_ e : Int) (w : World) (hB : Bytes l) (hl : l.length ≤ 1000000000000) (hr : Kd.C (Kd.int .u8) w A l.length l) (hc : l.length ≤ c) (hb : w.heap[g]? = some (.cells (RdC A l.length c at_ e) 77 (0, 0))) :
  Calls Try.prog 34 #[.pointer (some ⟨g, 0, none⟩)] w fun x w' => x = .returned (.int .i64 (rd8 l at_ e).1) ∧ w'.heap[g]? = some (.cells (RdC A l.length c (rd8 l at_ e).2.1 (rd8 l at_ e).2.2) 77 (0, 0)) ∧ w.grownBy w' (some g) := by
 have h2 : w.cell? ⟨g, 2, none⟩ = some (.int .i64 e) := (blk_cell hb 2).trans rfl
 have HBB := Aside0.mk hb
 by_cases c0 : e = 0
 case neg =>
  have b0 : (e != 0) = true := bne_iff_ne.mpr c0
  have HN := Aside0.mk c0
  clear hb c0
  go_enter Try.func34, Try.ntmps34
  go_wp2
  go_ret
  simp only [rd1, rd8, rdStep, if_neg HN.out]
  exact ⟨rfl, HBB.out, rfl, rfl, rfl, Nat.le_refl _, fun _ _ _ => rfl⟩
 subst c0
 obtain ⟨s1, s2, s3, hG⟩ : ∃ s1 s2 s3, getIntSpec l at_ = (s1, s2, s3) := ⟨_, _, _, rfl⟩
 have HG := Aside0.mk (show wire_GetInt.f l at_ = some (s1, s2, s3) by rw [wire_GetInt_eq _ _ hB hl, hG])
 have HGG := Aside0.mk hG
 clear hG hb
 go_enter Try.func34, Try.ntmps34
 go_wp2
 clear h2
 refine start_ (n := 15) (S := fun w' => w'.cell? ⟨g, 0, none⟩ = some (.slice A l.length c) ∧ w'.cell? ⟨g, 1, none⟩ = some (.int .i64 at_)) (ds := [13]) #[false, false, false, false, false, false, false, false, false, false, false, false, false, false, false] (by kernel_rfl) rfl rfl ⟨(blk_cell HBB.out 0).trans rfl, (blk_cell HBB.out 1).trans rfl⟩ (fun hHeld => ?_); refine with_tabW hr_eight.tab3 hr_eight.bits3 (fun HT_ HW_ => ?_)
 refine pure_ (i := 0) (N := some 8) (v := ?_) (a' := ?_) #[true, false, false, false, false, false, false, false, false, false, false, false, false, false, false] rfl rfl (any_of HT_.out (by kernel_rfl)) (fun _ _ _ h => h) (Or.inl ⟨by rfl, ?_⟩) ?_ ?_
 rotate_left
 ·intro w'
  go_simp
  with_reducible rfl
 rotate_left
 ·simp only [Act.put, List.setIfInBounds_toArray, List.set_cons_zero, List.set_cons_succ, i64_w, i32_w]
  rfl
 refine pure_ (i := 1) (N := some 9) (v := ?_) (a' := ?_) #[true, true, false, false, false, false, false, false, false, false, false, false, false, false, false] rfl rfl (any_of HT_.out (by kernel_rfl)) (fun _ _ _ h => h) (Or.inl ⟨by rfl, ?_⟩) ?_ ?_
 rotate_left
 ·intro w'
  go_simp
  with_reducible rfl
 rotate_left
 ·simp only [Act.put, List.setIfInBounds_toArray, List.set_cons_zero, List.set_cons_succ, i64_w, i32_w]
  rfl
 refine pure_ (i := 2) (N := some 10) (v := ?_) (a' := ?_) #[true, true, true, false, false, false, false, false, false, false, false, false, false, false, false] rfl rfl (any_of HT_.out (by kernel_rfl)) (fun _ _ _ h => h) (Or.inl ⟨by rfl, ?_⟩) ?_ ?_
 rotate_left
 ·intro w'
  go_simp
  with_reducible rfl
 rotate_left
 ·simp only [Act.put, List.setIfInBounds_toArray, List.set_cons_zero, List.set_cons_succ, i64_w, i32_w]
  rfl
 refine pure_ (i := 3) (N := some 11) (v := ?_) (a' := ?_) #[true, true, true, true, false, false, false, false, false, false, false, false, false, false, false] rfl rfl (any_of HT_.out (by kernel_rfl)) (fun _ _ _ h => h) (Or.inl ⟨by rfl, ?_⟩) ?_ ?_
 rotate_left
 ·intro w'
  go_simp
  with_reducible rfl
 rotate_left
 ·simp only [Act.put, List.setIfInBounds_toArray, List.set_cons_zero, List.set_cons_succ, i64_w, i32_w]
  rfl
 refine pure_ (i := 5) (N := some 13) (v := ?_) (a' := ?_) #[true, true, true, true, false, true, false, false, false, false, false, false, false, false, false] rfl rfl (any_of HT_.out (by kernel_rfl)) (fun _ _ _ h => h) (Or.inl ⟨by rfl, ?_⟩) ?_ ?_
 rotate_left
 ·intro w'
  go_simp
  with_reducible rfl
 rotate_left
 ·simp only [Act.put, List.setIfInBounds_toArray, List.set_cons_zero, List.set_cons_succ, i64_w, i32_w]
  rfl
 refine pure_ (i := 6) (N := some 14) (v := ?_) (a' := ?_) #[true, true, true, true, false, true, true, false, false, false, false, false, false, false, false] rfl rfl (any_of HT_.out (by kernel_rfl)) (fun _ _ _ h => h) (Or.inl ⟨by rfl, ?_⟩) ?_ ?_
 rotate_left
 ·intro w'
  go_simp
  with_reducible rfl
 rotate_left
 ·simp only [Act.put, List.setIfInBounds_toArray, List.set_cons_zero, List.set_cons_succ, i64_w, i32_w]
  rfl
 refine pure_ (i := 7) (N := some 15) (v := ?_) (a' := ?_) #[true, true, true, true, false, true, true, true, false, false, false, false, false, false, false] rfl rfl (any_of HT_.out (by kernel_rfl)) (fun _ _ _ h => h) (Or.inl ⟨by rfl, ?_⟩) ?_ ?_
 rotate_left
 ·intro w'
  go_simp
  with_reducible rfl
 rotate_left
 ·simp only [Act.put, List.setIfInBounds_toArray, List.set_cons_zero, List.set_cons_succ, i64_w, i32_w]
  rfl
 refine take_ (i := 4) (N := some 12) (v := ?_) (a' := ?_) #[true, true, true, true, true, true, true, true, false, false, false, false, false, false, false] rfl rfl (take_ofW HT_.out HW_.out (by kernel_rfl)) (fun _ _ _ h => h) (Or.inl ⟨by rfl, ?_⟩) hHeld ?_ ?_
 rotate_left
 ·rintro w' ⟨s0, s1⟩
  go_simp
  with_reducible rfl
 rotate_left
 ·simp only [Act.put, List.setIfInBounds_toArray, List.set_cons_zero, List.set_cons_succ, i64_w, i32_w]
  rfl
 refine take_ (i := 8) (N := some 16) (v := ?_) (a' := ?_) #[true, true, true, true, true, true, true, true, true, false, false, false, false, false, false] rfl rfl (take_ofW HT_.out HW_.out (by kernel_rfl)) (fun _ _ _ h => h) (Or.inl ⟨by rfl, ?_⟩) hHeld ?_ ?_
 rotate_left
 ·rintro w' ⟨s0, s1⟩
  go_simp
  with_reducible rfl
 rotate_left
 ·simp only [Act.put, List.setIfInBounds_toArray, List.set_cons_zero, List.set_cons_succ, i64_w, i32_w]
  rfl
 refine one_ (i := 9) (N := some 17) #[true, true, true, true, true, true, true, true, true, true, false, false, false, false, false] rfl rfl (one_of HT_.out (by kernel_rfl)) (by decide) (fun K hK => ?_)
 refine goes_ Try.func27 (by kernel_rfl) rfl #[.slice A l.length c, .int .i64 at_] (by rfl) rfl rfl (by simp only [List.map_toArray, List.map_cons, List.map_nil]; rfl) ?_
 with_reducible refine (wire_GetInt.calls A c l at_ s1 s2 s3 _ (Kd.C_below hr (below_drew (Below.refl _ _))) hc HG.out).mono ?_
 rintro e w7 ⟨rfl, hb7⟩
 refine ⟨_, rfl, ?_⟩
 have HB7 := Aside0.mk hb7
 have BX7 := Aside0.mk (blk_below (w := w.drew) HBB.out hb7)
 clear hb7
 refine hK.out _ _ ⟨(blk_cell BX7.out 0).trans rfl, (blk_cell BX7.out 1).trans rfl⟩ (fun hHeld => ?_)
 clear hK K
 refine norm_ (a' := ?_) ?_ ?_
 rotate_left
 ·show Act.put _ (some 17) _ = _
  simp only [Act.put, List.setIfInBounds_toArray, List.set_cons_zero, List.set_cons_succ, i64_w, i32_w]
  rfl
 refine pure_ (i := 10) (N := some 18) (v := ?_) (a' := ?_) #[true, true, true, true, true, true, true, true, true, true, true, false, false, false, false] rfl rfl (any_of HT_.out (by kernel_rfl)) (fun _ _ _ h => h) (Or.inl ⟨by rfl, ?_⟩) ?_ ?_
 rotate_left
 ·intro w'
  go_simp
  with_reducible rfl
 rotate_left
 ·simp only [Act.put, List.setIfInBounds_toArray, List.set_cons_zero, List.set_cons_succ, i64_w, i32_w]
  rfl
 refine pure_ (i := 11) (N := some 19) (v := ?_) (a' := ?_) #[true, true, true, true, true, true, true, true, true, true, true, true, false, false, false] rfl rfl (any_of HT_.out (by kernel_rfl)) (fun _ _ _ h => h) (Or.inl ⟨by rfl, ?_⟩) ?_ ?_
 rotate_left
 ·intro w'
  go_simp
  with_reducible rfl
 rotate_left
 ·simp only [Act.put, List.setIfInBounds_toArray, List.set_cons_zero, List.set_cons_succ, i64_w, i32_w]
  rfl
 refine pure_ (i := 12) (N := some 20) (v := ?_) (a' := ?_) #[true, true, true, true, true, true, true, true, true, true, true, true, true, false, false] rfl rfl (any_of HT_.out (by kernel_rfl)) (fun _ _ _ h => h) (Or.inl ⟨by rfl, ?_⟩) ?_ ?_
 rotate_left
 ·intro w'
  go_simp
  with_reducible rfl
 rotate_left
 ·simp only [Act.put, List.setIfInBounds_toArray, List.set_cons_zero, List.set_cons_succ, i64_w, i32_w]
  rfl
 refine last_ (i := 13) (N := some 21) #[true, true, true, true, true, true, true, true, true, true, true, true, true, true, false] rfl rfl (one_of HT_.out (by kernel_rfl)) (by decide) (fun K hK => ?_)
 refine goes_ Try.func37 (by kernel_rfl) rfl #[.pointer (some ⟨g, 0, none⟩), .int .i64 s1, .int .i64 s2, .int .i64 s3] (by rfl) rfl rfl (by simp only [List.map_toArray, List.map_cons, List.map_nil]; rfl) ?_
 with_reducible refine (hr_keep g A l.length c at_ s1 s2 s3 _ BX7.out).mono ?_
 rintro e w8 ⟨rfl, hbx, hgr⟩
 refine ⟨_, rfl, ?_⟩
 have BX8 := Aside0.mk hbx
 have HG8 := Aside0.mk hgr
 clear hbx hgr
 refine hK.out _ _ ?_
 clear hK K
 refine norm_ (a' := ?_) ?_ ?_
 rotate_left
 ·show Act.put _ (some 21) _ = _
  simp only [Act.put, List.setIfInBounds_toArray, List.set_cons_zero, List.set_cons_succ, i64_w, i32_w]
  rfl
 refine pure_ (i := 14) (N := some 2) (v := ?_) (a' := ?_) #[true, true, true, true, true, true, true, true, true, true, true, true, true, true, true] rfl rfl (any_of HT_.out (by kernel_rfl)) (fun _ _ _ h => h) (Or.inl ⟨by rfl, ?_⟩) ?_ ?_
 rotate_left
 ·intro w'
  go_simp
  with_reducible rfl
 rotate_left
 ·simp only [Act.put, List.setIfInBounds_toArray, List.set_cons_zero, List.set_cons_succ, i64_w, i32_w]
  rfl
 refine done_ (done_of HT_.out (by kernel_rfl)) ?_
 clear HT_ HW_
 go_wp2
 go_ret
 have hgg := HGG.out
 simp only [rd1, rd8, hgg]
 exact ⟨rfl, BX8.out, grown_below (below_step (below_drew (Below.refl _ _)) HB7.out) HG8.out⟩
theorem hr_oneG (g : Nat) (A : Option Addr) (c : Nat) (l : List Int) (at_ e v at2 e2 : Int) (w : World) (hG : rd1 l 1 at_ e = (v, at2, e2)) (hB : Bytes l) (hl : l.length ≤ 1000000000000) (hr : Kd.C (Kd.int .u8) w A l.length l) (hc : l.length ≤ c) (hb : w.heap[g]? = some (.cells (RdC A l.length c at_ e) 77 (0, 0))) :
  Calls Try.prog 33 #[.pointer (some ⟨g, 0, none⟩)] w fun x w' => x = .returned (.int .i64 v) ∧ w'.heap[g]? = some (.cells (RdC A l.length c at2 e2) 77 (0, 0)) ∧ w.grownBy w' (some g) := by
 have h := hr_one g A c l at_ e w hB hl hr hc hb
 rw [hG] at h
 exact h
theorem hr_eightG (g : Nat) (A : Option Addr) (c : Nat) (l : List Int) (at_ e v at2 e2 : Int) (w : World) (hG : rd8 l at_ e = (v, at2, e2)) (hB : Bytes l) (hl : l.length ≤ 1000000000000) (hr : Kd.C (Kd.int .u8) w A l.length l) (hc : l.length ≤ c) (hb : w.heap[g]? = some (.cells (RdC A l.length c at_ e) 77 (0, 0))) :
  Calls Try.prog 34 #[.pointer (some ⟨g, 0, none⟩)] w fun x w' => x = .returned (.int .i64 v) ∧ w'.heap[g]? = some (.cells (RdC A l.length c at2 e2) 77 (0, 0)) ∧ w.grownBy w' (some g) := by
 have h := hr_eight g A c l at_ e w hB hl hr hc hb
 rw [hG] at h
 exact h
end Go.Proofs.Ytmcmemknikineaa.P
namespace Go.Proofs.Ytmcmemknikineaa.P
open Go.RowKit YtmcmemknikineaaW.PrintWords YtmcmemknikineaaW.PrintLast YtmcmemknikineaaW.PrintMore
def RH (n : Bool) (a b c d e : Int) : Prop := (0 ≤ e ∧ e < 64) ∧ ((n = true ∧ a = 0 ∧ b = 0 ∧ c = 0 ∧ d = 0) ∨ (n = false ∧ 0 ≤ a ∧ a ≤ 4611686018427387903 ∧ 0 ≤ b ∧ b < 64 ∧ 0 ≤ c ∧ c ≤ 1 ∧ -1099511627776 ≤ d ∧ d ≤ 1099511627776))
instance (n : Bool) (a b c d e : Int) : Decidable (RH n a b c d e) := by unfold RH; infer_instance
theorem hj_eq (k : Nat) (n x : Bool) (a b c d e : Int) : height_Check.j0 (k + 1) x n a b c d e = some (if x = true ∧ ((n = true ∧ a = 0 ∧ b = 0 ∧ c = 0 ∧ d = 0) ∨ (n = false ∧ 0 ≤ a ∧ a ≤ 4611686018427387903 ∧ 0 ≤ b ∧ b < 64 ∧ 0 ≤ c ∧ c ≤ 1 ∧ -1099511627776 ≤ d ∧ d ≤ 1099511627776)) then 0 else 1) := by
 simp only [height_Check.j0, height_Null.f, Option.bind_some]
 cases n <;> cases x <;> simp only [Bool.true_and, beq_self_eq_true, Bool.and_true, Bool.and_eq_true, beq_iff_eq, if_true, Bool.false_eq_true, if_false, true_and, false_and, or_false, false_or, Bool.true_eq_false, reduceCtorEq]
 ·repeat' split
  all_goals first
   | rfl
   | (exfalso; omega)
 ·by_cases h : a = 0 ∧ b = 0 ∧ c = 0 ∧ d = 0
  ·rw [if_pos h, if_pos h]
  ·rw [if_neg h, if_neg h]
theorem hc_eq (n : Bool) (a b c d e : Int) : Ev (fun k => height_Check.f k n a b c d e) (if RH n a b c d e then 0 else 1) := by
 unfold height_Check.f
 refine Ev.from 1 fun k => ?_
 rw [hj_eq, hj_eq]
 unfold RH
 by_cases h : e ≥ 0
 ·rw [if_pos h]
  congr 1
  have h0 : 0 ≤ e := h
  simp only [decide_eq_true_eq, h0, true_and]
 ·rw [if_neg h]
  have : ¬ 0 ≤ e := h
  simp only [this, false_and, Bool.false_eq_true]
theorem ha_eq (a b c d e : Int) : ∃ t : Bool × Int × Int × Int × Int × Int × Int, Ev (fun k => height_At.f k a b c d e) t ∧ t.2.2.2.2.2.2 = (if RH false a b c d e then 0 else 1) := by
 unfold height_At.f
 by_cases h : RH false a b c d e
 ·have := hc_eq false a b c d e
  rw [if_pos h] at this
  rw [if_pos h]
  exact ⟨(false, a, b, c, d, e, 0), Ev.bind this (by simp only [if_true]; exact Ev.now _), rfl⟩
 ·have := hc_eq false a b c d e
  rw [if_neg h] at this
  rw [if_neg h]
  exact ⟨(false, 0, 0, 0, 0, 0, 1), Ev.bind this (by simp only [if_neg (show ¬ (1 : Int) = 0 by decide)]; exact Ev.now _), rfl⟩
theorem ev_eq {α : Type} {g : Nat → Option α} {a b : α} (h : Ev g a) (e : a = b) : Ev g b := e ▸ h
end Go.Proofs.Ytmcmemknikineaa.P
