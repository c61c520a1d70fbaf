-- WRITTEN BY xprint.py, a program of this session that drives the kit's printer.
import Derived.Test.YtjeahmlahkngaaaP0
import Derived.Test.YtjeahmlahkngaaaP3
import Derived.Test.YtjeahmlahkngaaaP4
namespace Go.Proofs.Ytjeahmlahkngaaa.P
open Go.RowKit Go.Proofs.YtjeahmlahkngaaaW.PrintWords Go.Proofs.YtjeahmlahkngaaaW.PrintLast Go.Proofs.YtjeahmlahkngaaaW.PrintMore
open Go.Proofs.YtjeahmlahkngaaaW.PrintWords renaming below_alloc → YA, pw_below_drewN → YB, below_drew1 → YC, below_step → YD, below_size → YE, blk_drewN → YF, blk_drew → YG, blk_alloc → YH, blk_cell → YI, blk_frozen → YJ, blk_below → YK
open Go.Proofs.YtjeahmlahkngaaaW.PrintWords.Aside0 renaming mk → YL
open List renaming setIfInBounds_toArray → YM, set_cons_zero → YN, set_cons_succ → YO, map_toArray → YP, length_take → YQ, length_drop → YR
open Go.Proofs.YtjeahmlahkngaaaW.PrintWords.Kd renaming R_alloc → YS, R_drewN → YT, R_drew → YU
attribute [local go_sem] max2_int min2_int max_two min_two max_three min_three max_four min_four   -- for this text's walks alone
set_option linter.unusedVariables false
set_option linter.unusedSimpArgs false

/-! ### height_Bytes: function 10 -/
def height_Bytes.f (k : Nat) (a0_0 : Bool) (a0_1 : Int) (a0_2 : Int) (a0_3 : Int) (a0_4 : Int) (a0_5 : Int) : Option (List Int × Int) := (height_Check.f k a0_0 a0_1 a0_2 a0_3 a0_4 a0_5).bind fun t117 => (if t117 = 0 then (if a0_0 = true then (if ([] : List Int).length < 140737488355328 then ((some (([] : List Int) ++ [0] : List Int)).bind fun y118 => (if y118.length < 140737488355328 then (some ((y118 ++ [(a0_5) % 256]), 0)) else (none))) else (none)) else (if ([] : List Int).length < 140737488355328 then ((some (([] : List Int) ++ [1] : List Int)).bind fun y124 => ((wire_Int.f a0_1).bind fun t127 => (if y124.length + t127.length < 140737488355328 then ((some (y124 ++ t127 : List Int)).bind fun y130 => ((some (([(a0_2) % 256, (a0_3) % 256] : List Int) : List Int)).bind fun y133 => (if y130.length + y133.length < 140737488355328 then ((some (y130 ++ y133 : List Int)).bind fun y136 => ((wire_Int.f a0_4).bind fun t139 => (if y136.length + t139.length < 140737488355328 then ((some (y136 ++ t139 : List Int)).bind fun y142 => (if y142.length < 140737488355328 then (some ((y142 ++ [(a0_5) % 256]), 0)) else (none))) else (none)))) else (none)))) else (none)))) else (none))) else (some (([] : List Int), t117)))
theorem height_Bytes.mono : ∀ a0 a1 a2 a3 a4 a5 k, LeO (height_Bytes.f k a0 a1 a2 a3 a4 a5) (height_Bytes.f (k + 1) a0 a1 a2 a3 a4 a5) := by
  intro a0 a1 a2 a3 a4 a5 k
  unfold height_Bytes.f
  repeat' first
      | (with_reducible exact height_Check.mono _ _ _ _ _ _ _)
      | (with_reducible exact LeO.refl _)
      | (with_reducible exact LeO.none _)
      | (with_reducible refine LeO.ite ?_ ?_)
      | (with_reducible refine LeO.bind ?_ (fun _ => ?_))
      | exact height_Check.mono _ _ _ _ _ _ _
      | exact LeO.none _
      | refine LeO.ite ?_ ?_
      | refine LeO.bind ?_ (fun _ => ?_)
def height_Bytes.T7 : Bool × List (List Nat × List Nat) := (true, [([], []), ([], []), ([0, 1], [0, 1]), ([], []), ([3], [3]), ([4, 2], [4]), ([2, 5, 5], [2, 5]), ([6, 6, 0, 1, 2, 3, 4, 5, 6], [0, 6])])
def height_Bytes.B7 : List Nat := [0, 0, 3, 0, 8, 31, 63, 127]
theorem height_Bytes.tab7 : rtab .any (opsOf Try.f10 7) = height_Bytes.T7 := by kernel_rfl
theorem height_Bytes.bits7 : waitsOk height_Bytes.T7.2 height_Bytes.B7 = true := by kernel_rfl
def height_Bytes.T8 : Bool × List (List Nat × List Nat) := (true, [([], []), ([], []), ([1], [1]), ([2], [2]), ([], []), ([4], [4]), ([5], [5]), ([3, 6], [3, 6]), ([0, 7], [0, 7]), ([], []), ([9], [9]), ([10, 8], [10]), ([8, 11, 11], [8, 11]), ([12, 12, 0, 1, 2, 3, 4, 5, 6, 7, 8, 9, 10, 11, 12], [0, 12])])
def height_Bytes.B8 : List Nat := [0, 0, 2, 6, 0, 16, 48, 126, 255, 0, 512, 2047, 4095, 8191]
theorem height_Bytes.tab8 : rtab .any (opsOf Try.f10 8) = height_Bytes.T8 := by kernel_rfl
theorem height_Bytes.bits8 : waitsOk height_Bytes.T8.2 height_Bytes.B8 = true := by kernel_rfl
set_option maxHeartbeats 8000000 in
set_option maxRecDepth 100000 in
theorem height_Bytes.calls (k : Nat) (a0_0 : Bool) (a0_1 : Int) (a0_2 : Int) (a0_3 : Int) (a0_4 : Int) (a0_5 : Int) (r1 : List Int) (r2 : Int) (w : World) (h : height_Bytes.f k a0_0 a0_1 a0_2 a0_3 a0_4 a0_5 = some (r1, r2)) :
    Calls Try.prog 10 #[.agg #[.bool a0_0, .int .i64 a0_1, .int .i64 a0_2, .int .i64 a0_3, .int .i64 a0_4, .int .i64 a0_5]] w fun e w' => ∃ v0_ : Value, e = .returned (.tuple #[v0_, .int .i64 r2]) ∧ Kd.R (Kd.int .u8) 5 w' w.heap.size (fun _ => True) v0_ r1 ∧ Below w.heap.size w w' := by
  have hu23 := Try.underlying23
  have HB := YL (Below.refl w.heap.size w)
  have H : ((height_Check.f k a0_0 a0_1 a0_2 a0_3 a0_4 a0_5).bind fun t117 => (if t117 = 0 then (if a0_0 = true then (if ([] : List Int).length < 140737488355328 then ((some (([] : List Int) ++ [0] : List Int)).bind fun y118 => (if y118.length < 140737488355328 then (some ((y118 ++ [(a0_5) % 256]), 0)) else (none))) else (none)) else (if ([] : List Int).length < 140737488355328 then ((some (([] : List Int) ++ [1] : List Int)).bind fun y124 => ((wire_Int.f a0_1).bind fun t127 => (if y124.length + t127.length < 140737488355328 then ((some (y124 ++ t127 : List Int)).bind fun y130 => ((some (([(a0_2) % 256, (a0_3) % 256] : List Int) : List Int)).bind fun y133 => (if y130.length + y133.length < 140737488355328 then ((some (y130 ++ y133 : List Int)).bind fun y136 => ((wire_Int.f a0_4).bind fun t139 => (if y136.length + t139.length < 140737488355328 then ((some (y136 ++ t139 : List Int)).bind fun y142 => (if y142.length < 140737488355328 then (some ((y142 ++ [(a0_5) % 256]), 0)) else (none))) else (none)))) else (none)))) else (none)))) else (none))) else (some (([] : List Int), t117)))) = some (r1, r2) := h
  clear h; replace H := Option.bind_eq_some_iff.mp H; obtain ⟨t117, A20, H⟩ := H
  replace H : (if t117 = 0 then (if a0_0 = true then (if ([] : List Int).length < 140737488355328 then ((some (([] : List Int) ++ [0] : List Int)).bind fun y118 => (if y118.length < 140737488355328 then (some ((y118 ++ [(a0_5) % 256]), 0)) else (none))) else (none)) else (if ([] : List Int).length < 140737488355328 then ((some (([] : List Int) ++ [1] : List Int)).bind fun y124 => ((wire_Int.f a0_1).bind fun t127 => (if y124.length + t127.length < 140737488355328 then ((some (y124 ++ t127 : List Int)).bind fun y130 => ((some (([(a0_2) % 256, (a0_3) % 256] : List Int) : List Int)).bind fun y133 => (if y130.length + y133.length < 140737488355328 then ((some (y130 ++ y133 : List Int)).bind fun y136 => ((wire_Int.f a0_4).bind fun t139 => (if y136.length + t139.length < 140737488355328 then ((some (y136 ++ t139 : List Int)).bind fun y142 => (if y142.length < 140737488355328 then (some ((y142 ++ [(a0_5) % 256]), 0)) else (none))) else (none)))) else (none)))) else (none)))) else (none))) else (some (([] : List Int), t117))) = some (r1, r2) := H
  have A2 := YL A20; clear A20
  by_cases c3 : t117 = 0
  · rw [if_pos c3] at H
    have c3b0 : (t117 == 0) = true := beq_iff_eq.mpr c3
    have c3b1 : (t117 != 0) = false := bne_eq_false_iff_eq.mpr c3
    clear c3
    by_cases c4 : a0_0 = true
    · subst c4
      have H1 : (if ([] : List Int).length < 140737488355328 then ((some (([] : List Int) ++ [0] : List Int)).bind fun y118 => (if y118.length < 140737488355328 then (some ((y118 ++ [(a0_5) % 256]), 0)) else (none))) else (none)) = some (r1, r2) := by rw [if_pos rfl] at H; exact H
      clear H
      have H := H1
      clear H1
      by_cases c5 : ([] : List Int).length < 140737488355328
      rotate_left
      · rw [if_neg c5] at H
        exact absurd H (by simp)
      rw [if_pos c5] at H; have LMc5 := YL c5; clear c5
      obtain ⟨y118, hy118⟩ : ∃ y_ : List Int, y_ = (([] : List Int) ++ [0]) := ⟨_, rfl⟩
      replace H : (if y118.length < 140737488355328 then (some ((y118 ++ [(a0_5) % 256]), 0)) else (none)) = some (r1, r2) := by first | (rw [hy118]; with_reducible exact H) | (have H2_ := (Option.bind_some _ _).symm.trans H; rw [hy118]; with_reducible exact H2_) | (have H2_ := (Option.bind_some _ _).symm.trans H; with_reducible exact H2_) | with_reducible exact H | (rw [hy118]; exact H) | exact H
      have Ny118 := YL hy118; clear hy118
      by_cases c6 : y118.length < 140737488355328
      rotate_left
      · rw [if_neg c6] at H
        exact absurd H (by simp)
      rw [if_pos c6] at H; have LMc6 := YL c6; clear c6
      obtain ⟨y121, hy121⟩ : ∃ y_ : List Int, y_ = (y118 ++ [(a0_5) % 256]) := ⟨_, rfl⟩
      replace H : (some (y121, 0)) = some (r1, r2) := by first | (rw [hy121]; with_reducible exact H) | (have H2_ := (Option.bind_some _ _).symm.trans H; rw [hy121]; with_reducible exact H2_) | (have H2_ := (Option.bind_some _ _).symm.trans H; with_reducible exact H2_) | with_reducible exact H | (rw [hy121]; exact H) | exact H
      have Ny121 := YL hy121; clear hy121
      simp only [Option.some.injEq, Prod.mk.injEq] at H
      obtain ⟨rfl, rfl⟩ := H
      go_enter Try.func10, Try.ntmps10
      go_wp2_with (first | ((with_reducible refine gate_dst (N := 1) rfl ?_); refine box_event ?hg (N := 1) ?hd (cs := #[.bool true, .int .i64 a0_1, .int .i64 a0_2, .int .i64 a0_3, .int .i64 a0_4, .int .i64 a0_5]) (t := 23) ?hr ?_; (case hd => rfl); (case hg => rfl); (case hr => first | (go_simp; done) | (go_simp; rfl)); intro gb116 hg w7 hbox hb; have n0_ := YL (YD (by repeat (first | (with_reducible first | exact HB.out | apply YA | apply YB | apply YC) | exact HB.out)) hb); have n1_ := YL (hbox); have n2_ := YL ((by rw [hg]; exact (YE (by repeat (first | (with_reducible first | exact HB.out | apply YA | apply YB | apply YC) | exact HB.out))) : w.heap.size ≤ gb116)); have n3_ := YL ((by rw [hg]; exact (YE (by repeat (first | (with_reducible first | exact HB.out | apply YA | apply YB | apply YC) | exact HB.out))) : w.heap.size ≤ gb116)); clear HB; have HB := n0_; have BK116 := n1_; have GW116 := n2_; have GE116 := n3_; clear n0_ n1_ n2_ n3_; clear hb hbox hg; have hcz8_0 : w7.cell? ⟨gb116, 0, none⟩ = some (.bool true) := (YI BK116.out 0).trans rfl; have hcz8_1 : w7.cell? ⟨gb116, 1, none⟩ = some (.int .i64 a0_1) := (YI BK116.out 1).trans rfl; have hcz8_2 : w7.cell? ⟨gb116, 2, none⟩ = some (.int .i64 a0_2) := (YI BK116.out 2).trans rfl; have hcz8_3 : w7.cell? ⟨gb116, 3, none⟩ = some (.int .i64 a0_3) := (YI BK116.out 3).trans rfl; have hcz8_4 : w7.cell? ⟨gb116, 4, none⟩ = some (.int .i64 a0_4) := (YI BK116.out 4).trans rfl; have hcz8_5 : w7.cell? ⟨gb116, 5, none⟩ = some (.int .i64 a0_5) := (YI BK116.out 5).trans rfl; have hfz8_0 := YJ BK116.out 0; have hfz8_1 := YJ BK116.out 1; have hfz8_2 := YJ BK116.out 2; have hfz8_3 := YJ BK116.out 3; have hfz8_4 := YJ BK116.out 4; have hfz8_5 := YJ BK116.out 5) | ((with_reducible refine gate_callee (f := 12) rfl ?_); refine goesL_ (some 7) rfl rfl Try.func12 (by kernel_rfl) rfl #[.agg #[.bool true, .int .i64 a0_1, .int .i64 a0_2, .int .i64 a0_3, .int .i64 a0_4, .int .i64 a0_5]] rfl (by (try simp only [YP, List.map_cons, List.map_nil]); first | done | rfl | (simp only [YR, YQ]; rfl)) ?_; (with_reducible refine (height_Check.calls k true a0_1 a0_2 a0_3 a0_4 a0_5 t117 _ A2.out).mono ?_); rintro e w9 ⟨rfl, hb⟩; refine ⟨_, rfl, ?_⟩; have n0_ := YL (YK (g := gb116) (o := .cells #[.bool true, .int .i64 a0_1, .int .i64 a0_2, .int .i64 a0_3, .int .i64 a0_4, .int .i64 a0_5] 23 (0, 0)) (by (with_reducible repeat (first | refine YF ?_ _ | refine YG ?_ | refine YH ?_ _)); exact BK116.out) hb); have n1_ := YL (YD (by repeat (first | (with_reducible first | exact HB.out | apply YA | apply YB | apply YC | refine below_set ?_ GE116.out) | exact HB.out)) hb); clear BK116; clear HB; have BK116 := n0_; have HB := n1_; clear n0_ n1_; (try clear hb); (try clear hb2); (try clear hk); (try clear hi); have hcz10_0 : w9.cell? ⟨gb116, 0, none⟩ = some (.bool true) := (YI BK116.out 0).trans rfl; have hcz10_1 : w9.cell? ⟨gb116, 1, none⟩ = some (.int .i64 a0_1) := (YI BK116.out 1).trans rfl; have hcz10_2 : w9.cell? ⟨gb116, 2, none⟩ = some (.int .i64 a0_2) := (YI BK116.out 2).trans rfl; have hcz10_3 : w9.cell? ⟨gb116, 3, none⟩ = some (.int .i64 a0_3) := (YI BK116.out 3).trans rfl; have hcz10_4 : w9.cell? ⟨gb116, 4, none⟩ = some (.int .i64 a0_4) := (YI BK116.out 4).trans rfl; have hcz10_5 : w9.cell? ⟨gb116, 5, none⟩ = some (.int .i64 a0_5) := (YI BK116.out 5).trans rfl; have hfz10_0 := YJ BK116.out 0; have hfz10_1 := YJ BK116.out 1; have hfz10_2 := YJ BK116.out 2; have hfz10_3 := YJ BK116.out 3; have hfz10_4 := YJ BK116.out 4; have hfz10_5 := YJ BK116.out 5) | ((with_reducible refine gate_builtin (b := .append) (xs := #[.tmp 13, .tmp 14]) rfl ?_); at_builtin; refine Kd.R_append (Kd.int .u8) (w0 := w) w.heap.size rfl (.tmp 13) (.tmp 14) 29 5 (.int .u8 0) 1 rfl Try.underlying29 info5 rfl (by decide) (by omega) (.slice none 0 0) ([] : List Int) 0 [.int .u8 0] (fun _ => True) (fun _ => False) rfl rfl ?aP (fun _ hk => hk.elim) ?aF ?aO ?aB ?aS ?aL ?_; (case aP => exact rfl); (case aB => exact (by repeat (first | (with_reducible first | exact HB.out | apply YA | apply YB | apply YC | refine below_set ?_ GE116.out) | exact HB.out))); (case aF => exact (fun _ _ => trivial)); (case aO => exact ((Kd.R_nil _ _ _ _ (fun _ => True)))); (case aS => exact (YE (by repeat (first | (with_reducible first | exact HB.out | apply YA | apply YB | apply YC | refine below_set ?_ GE116.out) | exact HB.out)))); (case aL => have := LMc5.out; omega); intro v119 w11 ho hb hg hat; rw [← Ny118.out] at ho; have n0_ := YL (blk_grown (g := gb116) (o := .cells #[.bool true, .int .i64 a0_1, .int .i64 a0_2, .int .i64 a0_3, .int .i64 a0_4, .int .i64 a0_5] 23 (0, 0)) (by (with_reducible repeat (first | refine YF ?_ _ | refine YG ?_ | refine YH ?_ _)); exact BK116.out) hg (by simp [Value.ownBlock])); have n1_ := YL (hb); have n2_ := YL (ho); clear BK116; clear HB; have BK116 := n0_; have HB := n1_; have HO120 := n2_; clear n0_ n1_ n2_; clear ho hb hg hat; have hcz12_0 : w11.cell? ⟨gb116, 0, none⟩ = some (.bool true) := (YI BK116.out 0).trans rfl; have hcz12_1 : w11.cell? ⟨gb116, 1, none⟩ = some (.int .i64 a0_1) := (YI BK116.out 1).trans rfl; have hcz12_2 : w11.cell? ⟨gb116, 2, none⟩ = some (.int .i64 a0_2) := (YI BK116.out 2).trans rfl; have hcz12_3 : w11.cell? ⟨gb116, 3, none⟩ = some (.int .i64 a0_3) := (YI BK116.out 3).trans rfl; have hcz12_4 : w11.cell? ⟨gb116, 4, none⟩ = some (.int .i64 a0_4) := (YI BK116.out 4).trans rfl; have hcz12_5 : w11.cell? ⟨gb116, 5, none⟩ = some (.int .i64 a0_5) := (YI BK116.out 5).trans rfl; have hfz12_0 := YJ BK116.out 0; have hfz12_1 := YJ BK116.out 1; have hfz12_2 := YJ BK116.out 2; have hfz12_3 := YJ BK116.out 3; have hfz12_4 := YJ BK116.out 4; have hfz12_5 := YJ BK116.out 5) | ((with_reducible refine gate_builtin (b := .append) (xs := #[.tmp 36, .tmp 40]) rfl ?_); at_builtin; refine Kd.R_append (Kd.int .u8) (w0 := w) w.heap.size rfl (.tmp 36) (.tmp 40) 29 5 (.int .u8 0) 1 rfl Try.underlying29 info5 rfl (by decide) (by omega) v119 y118 ((a0_5) % 256) [.int .u8 ((a0_5) % 256)] (fun _ => True) (fun _ => False) rfl rfl ?aP (fun _ hk => hk.elim) ?aF ?aO ?aB ?aS ?aL ?_; (case aP => exact rfl); (case aB => exact (by repeat (first | (with_reducible first | exact HB.out | apply YA | apply YB | apply YC | refine below_set ?_ GE116.out) | exact HB.out))); (case aF => exact (fun _ _ => trivial)); (case aO => exact (by (with_reducible repeat (first | apply YS | apply YT | apply YU)); exact HO120.out)); (case aS => exact (YE (by repeat (first | (with_reducible first | exact HB.out | apply YA | apply YB | apply YC | refine below_set ?_ GE116.out) | exact HB.out)))); (case aL => have := LMc6.out; omega); intro v122 w13 ho hb hg hat; rw [← Ny121.out] at ho; have n0_ := YL (blk_grown (g := gb116) (o := .cells #[.bool true, .int .i64 a0_1, .int .i64 a0_2, .int .i64 a0_3, .int .i64 a0_4, .int .i64 a0_5] 23 (0, 0)) (by (with_reducible repeat (first | refine YF ?_ _ | refine YG ?_ | refine YH ?_ _)); exact BK116.out) hg (Kd.R_ne HO120.out BK116.out (by decide))); have n1_ := YL (hb); have n2_ := YL (ho); clear BK116; clear HB; clear HO120; have BK116 := n0_; have HB := n1_; have HO123 := n2_; clear n0_ n1_ n2_; clear ho hb hg hat))
      go_ret2
      exact ⟨_, by first | rfl | (simp [errW_none, errW_some] <;> rfl) | (simp [*, errW_none, errW_some] <;> rfl), by (with_reducible repeat (first | apply YS | apply YT | apply YU)); exact HO123.out, by repeat (first | (with_reducible first | exact HB.out | apply YA | apply YB | apply YC | refine below_set ?_ GE116.out) | exact HB.out)⟩
    replace c4 := Bool.eq_false_iff.mpr c4
    subst c4
    have H1 : (if ([] : List Int).length < 140737488355328 then ((some (([] : List Int) ++ [1] : List Int)).bind fun y124 => ((wire_Int.f a0_1).bind fun t127 => (if y124.length + t127.length < 140737488355328 then ((some (y124 ++ t127 : List Int)).bind fun y130 => ((some (([(a0_2) % 256, (a0_3) % 256] : List Int) : List Int)).bind fun y133 => (if y130.length + y133.length < 140737488355328 then ((some (y130 ++ y133 : List Int)).bind fun y136 => ((wire_Int.f a0_4).bind fun t139 => (if y136.length + t139.length < 140737488355328 then ((some (y136 ++ t139 : List Int)).bind fun y142 => (if y142.length < 140737488355328 then (some ((y142 ++ [(a0_5) % 256]), 0)) else (none))) else (none)))) else (none)))) else (none)))) else (none)) = some (r1, r2) := by rw [if_neg (show ¬ (false = true) by decide)] at H; exact H
    clear H
    have H := H1
    clear H1
    by_cases c14 : ([] : List Int).length < 140737488355328
    rotate_left
    · rw [if_neg c14] at H
      exact absurd H (by simp)
    rw [if_pos c14] at H; have LMc14 := YL c14; clear c14
    obtain ⟨y124, hy124⟩ : ∃ y_ : List Int, y_ = (([] : List Int) ++ [1]) := ⟨_, rfl⟩
    replace H : ((wire_Int.f a0_1).bind fun t127 => (if y124.length + t127.length < 140737488355328 then ((some (y124 ++ t127 : List Int)).bind fun y130 => ((some (([(a0_2) % 256, (a0_3) % 256] : List Int) : List Int)).bind fun y133 => (if y130.length + y133.length < 140737488355328 then ((some (y130 ++ y133 : List Int)).bind fun y136 => ((wire_Int.f a0_4).bind fun t139 => (if y136.length + t139.length < 140737488355328 then ((some (y136 ++ t139 : List Int)).bind fun y142 => (if y142.length < 140737488355328 then (some ((y142 ++ [(a0_5) % 256]), 0)) else (none))) else (none)))) else (none)))) else (none))) = some (r1, r2) := by first | (rw [hy124]; with_reducible exact H) | (have H2_ := (Option.bind_some _ _).symm.trans H; rw [hy124]; with_reducible exact H2_) | (have H2_ := (Option.bind_some _ _).symm.trans H; with_reducible exact H2_) | with_reducible exact H | (rw [hy124]; exact H) | exact H
    have Ny124 := YL hy124; clear hy124; replace H := Option.bind_eq_some_iff.mp H; obtain ⟨t127, A150, H⟩ := H
    replace H : (if y124.length + t127.length < 140737488355328 then ((some (y124 ++ t127 : List Int)).bind fun y130 => ((some (([(a0_2) % 256, (a0_3) % 256] : List Int) : List Int)).bind fun y133 => (if y130.length + y133.length < 140737488355328 then ((some (y130 ++ y133 : List Int)).bind fun y136 => ((wire_Int.f a0_4).bind fun t139 => (if y136.length + t139.length < 140737488355328 then ((some (y136 ++ t139 : List Int)).bind fun y142 => (if y142.length < 140737488355328 then (some ((y142 ++ [(a0_5) % 256]), 0)) else (none))) else (none)))) else (none)))) else (none)) = some (r1, r2) := H
    have A15 := YL A150; clear A150
    by_cases c16 : y124.length + t127.length < 140737488355328
    rotate_left
    · rw [if_neg c16] at H
      exact absurd H (by simp)
    rw [if_pos c16] at H; have LMc16 := YL c16; clear c16
    obtain ⟨y130, hy130⟩ : ∃ y_ : List Int, y_ = (y124 ++ t127) := ⟨_, rfl⟩
    replace H : ((some (([(a0_2) % 256, (a0_3) % 256] : List Int) : List Int)).bind fun y133 => (if y130.length + y133.length < 140737488355328 then ((some (y130 ++ y133 : List Int)).bind fun y136 => ((wire_Int.f a0_4).bind fun t139 => (if y136.length + t139.length < 140737488355328 then ((some (y136 ++ t139 : List Int)).bind fun y142 => (if y142.length < 140737488355328 then (some ((y142 ++ [(a0_5) % 256]), 0)) else (none))) else (none)))) else (none))) = some (r1, r2) := by first | (rw [hy130]; with_reducible exact H) | (have H2_ := (Option.bind_some _ _).symm.trans H; rw [hy130]; with_reducible exact H2_) | (have H2_ := (Option.bind_some _ _).symm.trans H; with_reducible exact H2_) | with_reducible exact H | (rw [hy130]; exact H) | exact H
    have Ny130 := YL hy130; clear hy130
    obtain ⟨y133, hy133⟩ : ∃ y_ : List Int, y_ = (([(a0_2) % 256, (a0_3) % 256] : List Int)) := ⟨_, rfl⟩
    replace H : (if y130.length + y133.length < 140737488355328 then ((some (y130 ++ y133 : List Int)).bind fun y136 => ((wire_Int.f a0_4).bind fun t139 => (if y136.length + t139.length < 140737488355328 then ((some (y136 ++ t139 : List Int)).bind fun y142 => (if y142.length < 140737488355328 then (some ((y142 ++ [(a0_5) % 256]), 0)) else (none))) else (none)))) else (none)) = some (r1, r2) := by first | (rw [hy133]; with_reducible exact H) | (have H2_ := (Option.bind_some _ _).symm.trans H; rw [hy133]; with_reducible exact H2_) | (have H2_ := (Option.bind_some _ _).symm.trans H; with_reducible exact H2_) | with_reducible exact H | (rw [hy133]; exact H) | exact H
    have Ny133 := YL hy133; clear hy133
    by_cases c17 : y130.length + y133.length < 140737488355328
    rotate_left
    · rw [if_neg c17] at H
      exact absurd H (by simp)
    rw [if_pos c17] at H; have LMc17 := YL c17; clear c17
    obtain ⟨y136, hy136⟩ : ∃ y_ : List Int, y_ = (y130 ++ y133) := ⟨_, rfl⟩
    replace H : ((wire_Int.f a0_4).bind fun t139 => (if y136.length + t139.length < 140737488355328 then ((some (y136 ++ t139 : List Int)).bind fun y142 => (if y142.length < 140737488355328 then (some ((y142 ++ [(a0_5) % 256]), 0)) else (none))) else (none))) = some (r1, r2) := by first | (rw [hy136]; with_reducible exact H) | (have H2_ := (Option.bind_some _ _).symm.trans H; rw [hy136]; with_reducible exact H2_) | (have H2_ := (Option.bind_some _ _).symm.trans H; with_reducible exact H2_) | with_reducible exact H | (rw [hy136]; exact H) | exact H
    have Ny136 := YL hy136; clear hy136; replace H := Option.bind_eq_some_iff.mp H; obtain ⟨t139, A180, H⟩ := H
    replace H : (if y136.length + t139.length < 140737488355328 then ((some (y136 ++ t139 : List Int)).bind fun y142 => (if y142.length < 140737488355328 then (some ((y142 ++ [(a0_5) % 256]), 0)) else (none))) else (none)) = some (r1, r2) := H
    have A18 := YL A180; clear A180
    by_cases c19 : y136.length + t139.length < 140737488355328
    rotate_left
    · rw [if_neg c19] at H
      exact absurd H (by simp)
    rw [if_pos c19] at H; have LMc19 := YL c19; clear c19
    obtain ⟨y142, hy142⟩ : ∃ y_ : List Int, y_ = (y136 ++ t139) := ⟨_, rfl⟩
    replace H : (if y142.length < 140737488355328 then (some ((y142 ++ [(a0_5) % 256]), 0)) else (none)) = some (r1, r2) := by first | (rw [hy142]; with_reducible exact H) | (have H2_ := (Option.bind_some _ _).symm.trans H; rw [hy142]; with_reducible exact H2_) | (have H2_ := (Option.bind_some _ _).symm.trans H; with_reducible exact H2_) | with_reducible exact H | (rw [hy142]; exact H) | exact H
    have Ny142 := YL hy142; clear hy142
    by_cases c20 : y142.length < 140737488355328
    rotate_left
    · rw [if_neg c20] at H
      exact absurd H (by simp)
    rw [if_pos c20] at H; have LMc20 := YL c20; clear c20
    obtain ⟨y145, hy145⟩ : ∃ y_ : List Int, y_ = (y142 ++ [(a0_5) % 256]) := ⟨_, rfl⟩
    replace H : (some (y145, 0)) = some (r1, r2) := by first | (rw [hy145]; with_reducible exact H) | (have H2_ := (Option.bind_some _ _).symm.trans H; rw [hy145]; with_reducible exact H2_) | (have H2_ := (Option.bind_some _ _).symm.trans H; with_reducible exact H2_) | with_reducible exact H | (rw [hy145]; exact H) | exact H
    have Ny145 := YL hy145; clear hy145
    simp only [Option.some.injEq, Prod.mk.injEq] at H
    obtain ⟨rfl, rfl⟩ := H
    go_enter Try.func10, Try.ntmps10
    try go_wp2_with (first | ((with_reducible refine gate_dst (N := 1) rfl ?_); refine box_event ?hg (N := 1) ?hd (cs := #[.bool false, .int .i64 a0_1, .int .i64 a0_2, .int .i64 a0_3, .int .i64 a0_4, .int .i64 a0_5]) (t := 23) ?hr ?_; (case hd => rfl); (case hg => rfl); (case hr => first | (go_simp; done) | (go_simp; rfl)); intro gb116 hg w21 hbox hb; have n0_ := YL (YD (by repeat (first | (with_reducible first | exact HB.out | apply YA | apply YB | apply YC) | exact HB.out)) hb); have n1_ := YL (hbox); have n2_ := YL ((by rw [hg]; exact (YE (by repeat (first | (with_reducible first | exact HB.out | apply YA | apply YB | apply YC) | exact HB.out))) : w.heap.size ≤ gb116)); have n3_ := YL ((by rw [hg]; exact (YE (by repeat (first | (with_reducible first | exact HB.out | apply YA | apply YB | apply YC) | exact HB.out))) : w.heap.size ≤ gb116)); clear HB; have HB := n0_; have BK116 := n1_; have GW116 := n2_; have GE116 := n3_; clear n0_ n1_ n2_ n3_; clear hb hbox hg; have hcz22_0 : w21.cell? ⟨gb116, 0, none⟩ = some (.bool false) := (YI BK116.out 0).trans rfl; have hcz22_1 : w21.cell? ⟨gb116, 1, none⟩ = some (.int .i64 a0_1) := (YI BK116.out 1).trans rfl; have hcz22_2 : w21.cell? ⟨gb116, 2, none⟩ = some (.int .i64 a0_2) := (YI BK116.out 2).trans rfl; have hcz22_3 : w21.cell? ⟨gb116, 3, none⟩ = some (.int .i64 a0_3) := (YI BK116.out 3).trans rfl; have hcz22_4 : w21.cell? ⟨gb116, 4, none⟩ = some (.int .i64 a0_4) := (YI BK116.out 4).trans rfl; have hcz22_5 : w21.cell? ⟨gb116, 5, none⟩ = some (.int .i64 a0_5) := (YI BK116.out 5).trans rfl; have hfz22_0 := YJ BK116.out 0; have hfz22_1 := YJ BK116.out 1; have hfz22_2 := YJ BK116.out 2; have hfz22_3 := YJ BK116.out 3; have hfz22_4 := YJ BK116.out 4; have hfz22_5 := YJ BK116.out 5) | ((with_reducible refine gate_callee (f := 12) rfl ?_); refine goesL_ (some 7) rfl rfl Try.func12 (by kernel_rfl) rfl #[.agg #[.bool false, .int .i64 a0_1, .int .i64 a0_2, .int .i64 a0_3, .int .i64 a0_4, .int .i64 a0_5]] rfl (by (try simp only [YP, List.map_cons, List.map_nil]); first | done | rfl | (simp only [YR, YQ]; rfl)) ?_; (with_reducible refine (height_Check.calls k false a0_1 a0_2 a0_3 a0_4 a0_5 t117 _ A2.out).mono ?_); rintro e w23 ⟨rfl, hb⟩; refine ⟨_, rfl, ?_⟩; have n0_ := YL (YK (g := gb116) (o := .cells #[.bool false, .int .i64 a0_1, .int .i64 a0_2, .int .i64 a0_3, .int .i64 a0_4, .int .i64 a0_5] 23 (0, 0)) (by (with_reducible repeat (first | refine YF ?_ _ | refine YG ?_ | refine YH ?_ _)); exact BK116.out) hb); have n1_ := YL (YD (by repeat (first | (with_reducible first | exact HB.out | apply YA | apply YB | apply YC | refine below_set ?_ GE116.out) | exact HB.out)) hb); clear BK116; clear HB; have BK116 := n0_; have HB := n1_; clear n0_ n1_; (try clear hb); (try clear hb2); (try clear hk); (try clear hi); have hcz24_0 : w23.cell? ⟨gb116, 0, none⟩ = some (.bool false) := (YI BK116.out 0).trans rfl; have hcz24_1 : w23.cell? ⟨gb116, 1, none⟩ = some (.int .i64 a0_1) := (YI BK116.out 1).trans rfl; have hcz24_2 : w23.cell? ⟨gb116, 2, none⟩ = some (.int .i64 a0_2) := (YI BK116.out 2).trans rfl; have hcz24_3 : w23.cell? ⟨gb116, 3, none⟩ = some (.int .i64 a0_3) := (YI BK116.out 3).trans rfl; have hcz24_4 : w23.cell? ⟨gb116, 4, none⟩ = some (.int .i64 a0_4) := (YI BK116.out 4).trans rfl; have hcz24_5 : w23.cell? ⟨gb116, 5, none⟩ = some (.int .i64 a0_5) := (YI BK116.out 5).trans rfl; have hfz24_0 := YJ BK116.out 0; have hfz24_1 := YJ BK116.out 1; have hfz24_2 := YJ BK116.out 2; have hfz24_3 := YJ BK116.out 3; have hfz24_4 := YJ BK116.out 4; have hfz24_5 := YJ BK116.out 5))
    have n0_ := YL (YG BK116.out)
    have n1_ := YL (YC HB.out)
    clear BK116; clear HB; have BK116 := n0_; have HB := n1_; clear n0_ n1_
    refine start_ (n := 8) (S := fun w' => w'.cell? ⟨gb116, 0, none⟩ = some (.bool false) ∧ w'.cell? ⟨gb116, 1, none⟩ = some (.int .i64 a0_1) ∧ w'.cell? ⟨gb116, 2, none⟩ = some (.int .i64 a0_2) ∧ w'.cell? ⟨gb116, 3, none⟩ = some (.int .i64 a0_3) ∧ w'.cell? ⟨gb116, 4, none⟩ = some (.int .i64 a0_4) ∧ w'.cell? ⟨gb116, 5, none⟩ = some (.int .i64 a0_5)) (ds := []) #[false, false, false, false, false, false, false, false] (by kernel_rfl) rfl rfl ⟨(YI BK116.out 0).trans rfl, (YI BK116.out 1).trans rfl, (YI BK116.out 2).trans rfl, (YI BK116.out 3).trans rfl, (YI BK116.out 4).trans rfl, (YI BK116.out 5).trans rfl⟩ (fun hHeld => ?_); refine with_tabW height_Bytes.tab7 height_Bytes.bits7 (fun HT_ HW_ => ?_)
    generalize w23.drew = w25 at BK116 HB hHeld ⊢
    refine pure_ (i := 0) (N := some 16) (v := ?_) (a' := ?_) #[true, false, false, false, false, false, false, false] rfl rfl (any_of HT_.out (by kernel_rfl)) (fun _ _ _ h => h) (Or.inl ⟨by rfl, ?_⟩) ?_ ?_
    rotate_left
    · intro w'
      go_simp; with_reducible rfl
    rotate_left
    · simp only [Act.put, YM, YN, YO, i64_w, i32_w]
      rfl
    refine pure_ (i := 3) (N := some 19) (v := ?_) (a' := ?_) #[true, false, false, true, false, false, false, false] rfl rfl (any_of HT_.out (by kernel_rfl)) (fun _ _ _ h => h) (Or.inl ⟨by rfl, ?_⟩) ?_ ?_
    rotate_left
    · intro w'
      go_simp; with_reducible rfl
    rotate_left
    · simp only [Act.put, YM, YN, YO, i64_w, i32_w]
      rfl
    refine take_ (i := 4) (N := some 20) (v := ?_) (a' := ?_) #[true, false, false, true, true, false, false, false] rfl rfl (take_ofW HT_.out HW_.out (by kernel_rfl)) (fun _ _ _ h => h) (Or.inl ⟨by rfl, ?_⟩) hHeld ?_ ?_
    rotate_left
    · rintro w' ⟨s0, s1, s2, s3, s4, s5⟩
      go_simp; with_reducible rfl
    rotate_left
    · simp only [Act.put, YM, YN, YO, i64_w, i32_w]
      rfl
    refine one_ (i := 1) (N := some 17) #[true, true, false, true, true, false, false, false] rfl rfl (one_of HT_.out (by kernel_rfl)) (by decide) (fun K hK => ?_)
    refine value_ (w1 := ?_) (v := ?_) (by rfl) rfl ?_ ?_
    rotate_left 2
    · go_simp
      constructor
      · rfl
      rfl
    refine hK.out _ _ ⟨(YI (YH BK116.out _) 0).trans rfl, (YI (YH BK116.out _) 1).trans rfl, (YI (YH BK116.out _) 2).trans rfl, (YI (YH BK116.out _) 3).trans rfl, (YI (YH BK116.out _) 4).trans rfl, (YI (YH BK116.out _) 5).trans rfl⟩ (fun hHeld => ?_)
    clear hK K
    refine norm_ (a' := ?_) ?_ ?_
    rotate_left
    · show Act.put _ (some 17) _ = _
      simp only [Act.put, YM, YN, YO, i64_w, i32_w]
      rfl
    refine one_ (i := 2) (N := some 18) #[true, true, true, true, true, false, false, false] rfl rfl (one_of HT_.out (by kernel_rfl)) (by decide) (fun K hK => ?_)
    refine Kd.R_append_step (Kd.int .u8) (w0 := w) w.heap.size (by rfl) (.tmp 16) (.tmp 17) 29 5 (.int .u8 0) 1 rfl Try.underlying29 info5 rfl (by decide) (by omega) (.slice none 0 0) ([] : List Int) 1 [.int .u8 1] (fun _ => True) (fun _ => False) rfl rfl ?aP (fun _ hk => hk.elim) ?aF ?aO ?aB ?aS ?aL ?_
    (case aP => exact rfl)
    (case aB => exact (by repeat (first | (with_reducible first | exact HB.out | apply YA | apply YB | apply YC | refine below_set ?_ GE116.out) | exact HB.out)))
    (case aF => exact (fun _ _ => trivial))
    (case aO => exact ((Kd.R_nil _ _ _ _ (fun _ => True))))
    (case aS => exact (YE (by repeat (first | (with_reducible first | exact HB.out | apply YA | apply YB | apply YC | refine below_set ?_ GE116.out) | exact HB.out))))
    (case aL => have := LMc14.out; omega)
    intro v125 w26 ho hb hg hat
    rw [← Ny124.out] at ho
    have n0_ := YL (blk_grown (g := gb116) (o := .cells #[.bool false, .int .i64 a0_1, .int .i64 a0_2, .int .i64 a0_3, .int .i64 a0_4, .int .i64 a0_5] 23 (0, 0)) (by (with_reducible repeat (first | refine YF ?_ _ | refine YG ?_ | refine YH ?_ _)); exact BK116.out) hg (by simp [Value.ownBlock]))
    have n1_ := YL (hb)
    have n2_ := YL (ho)
    clear BK116; clear HB; have BK116 := n0_; have HB := n1_; have HO126 := n2_; clear n0_ n1_ n2_; clear ho hb hg hat
    refine hK.out _ _ ⟨(YI BK116.out 0).trans rfl, (YI BK116.out 1).trans rfl, (YI BK116.out 2).trans rfl, (YI BK116.out 3).trans rfl, (YI BK116.out 4).trans rfl, (YI BK116.out 5).trans rfl⟩ (fun hHeld => ?_)
    clear hK K
    refine norm_ (a' := ?_) ?_ ?_
    rotate_left
    · show Act.put _ (some 18) _ = _
      simp only [Act.put, YM, YN, YO, i64_w, i32_w]
      rfl
    refine one_ (i := 5) (N := some 21) #[true, true, true, true, true, true, false, false] rfl rfl (one_of HT_.out (by kernel_rfl)) (by decide) (fun K hK => ?_)
    refine goes_ Try.func29 (by kernel_rfl) rfl #[.int .i64 a0_1] (by rfl) rfl rfl (by (try simp only [YP, List.map_cons, List.map_nil]); first | done | rfl | (simp only [YR, YQ]; rfl)) ?_
    with_reducible refine (wire_Int.calls a0_1 t127 _ A15.out).mono ?_
    rintro e w27 ⟨v128, rfl, ho0, hb⟩
    refine ⟨_, rfl, ?_⟩
    have n0_ := YL (Kd.R_elder' (by (with_reducible repeat (first | apply YS | apply YT | apply YU)); exact HO126.out) (Kd.R_base ho0) hb)
    have n1_ := YL (Kd.R_lower (Kd.R_new' ho0 (Kd.R_lt (by (with_reducible repeat (first | apply YS | apply YT | apply YU)); exact HO126.out))) (YE (by repeat (first | (with_reducible first | exact HB.out | apply YA | apply YB | apply YC | refine below_set ?_ GE116.out) | exact HB.out))))
    have n2_ := YL (YK (g := gb116) (o := .cells #[.bool false, .int .i64 a0_1, .int .i64 a0_2, .int .i64 a0_3, .int .i64 a0_4, .int .i64 a0_5] 23 (0, 0)) (by (with_reducible repeat (first | refine YF ?_ _ | refine YG ?_ | refine YH ?_ _)); exact BK116.out) hb)
    have n3_ := YL (YD (by repeat (first | (with_reducible first | exact HB.out | apply YA | apply YB | apply YC | refine below_set ?_ GE116.out) | exact HB.out)) hb)
    clear HO126; clear BK116; clear HB; have HO126 := n0_; have HO129 := n1_; have BK116 := n2_; have HB := n3_; clear n0_ n1_ n2_ n3_; (try clear hb); (try clear hb2); (try clear hk); (try clear hi); (try clear ho0)
    obtain ⟨Ao29, co29, eo29⟩ := Kd.R_slice HO129.out
    (first | subst eo29 | (injection eo29 with f1_ f2_ f3_; have f4_ := f1_.symm; have f5_ := f3_.symm; clear f1_ f2_ f3_; subst f4_; subst f5_))
    refine hK.out _ _ ⟨(YI BK116.out 0).trans rfl, (YI BK116.out 1).trans rfl, (YI BK116.out 2).trans rfl, (YI BK116.out 3).trans rfl, (YI BK116.out 4).trans rfl, (YI BK116.out 5).trans rfl⟩ (fun hHeld => ?_)
    clear hK K
    refine norm_ (a' := ?_) ?_ ?_
    rotate_left
    · show Act.put _ (some 21) _ = _
      simp only [Act.put, YM, YN, YO, i64_w, i32_w]
      rfl
    refine one_ (i := 6) (N := some 22) #[true, true, true, true, true, true, true, false] rfl rfl (one_of HT_.out (by kernel_rfl)) (by decide) (fun K hK => ?_)
    refine Kd.R_append_rows_step (Kd.int .u8) (w0 := w) w.heap.size (by rfl) (.tmp 18) (.tmp 21) 29 5 (.int .u8 0) 1 rfl Try.underlying29 info5 rfl (by decide) (by omega) v125 y124 t127 _ _ _ (fun k_ => some k_ ≠ (.slice Ao29 t127.length co29 : Value).ownBlock) (fun _ => False) rfl rfl ?aO ?aR (fun _ _ h => h) (fun _ h => h.elim) ?aF ?aB ?aS ?aL ?_
    (case aR => repeat (first | exact (Kd.R_reads' HO129.out).2.2 | (with_reducible refine Kd.C_alloc ?_ _) | (with_reducible refine Kd.C_drewN ?_ _) | (with_reducible refine Kd.C_drew ?_)))
    (case aB => exact (by repeat (first | (with_reducible first | exact HB.out | apply YA | apply YB | apply YC | refine below_set ?_ GE116.out) | exact HB.out)))
    (case aF => exact (fun k_ hk => Kd.fresh' (Kd.R_lt (by (with_reducible repeat (first | apply YS | apply YT | apply YU)); exact HO129.out)) k_ hk))
    (case aO => exact (by (with_reducible repeat (first | apply YS | apply YT | apply YU)); exact Kd.R_mono HO126.out (fun _ hk => by first | exact hk.2 | exact trivial | (simp [hk]; done) | simp_all)))
    (case aS => exact (YE (by repeat (first | (with_reducible first | exact HB.out | apply YA | apply YB | apply YC | refine below_set ?_ GE116.out) | exact HB.out))))
    (case aL => have := LMc16.out; omega)
    intro v131 w28 ho hb hg hat
    rw [← Ny130.out] at ho
    have n0_ := YL (blk_grown (g := gb116) (o := .cells #[.bool false, .int .i64 a0_1, .int .i64 a0_2, .int .i64 a0_3, .int .i64 a0_4, .int .i64 a0_5] 23 (0, 0)) (by (with_reducible repeat (first | refine YF ?_ _ | refine YG ?_ | refine YH ?_ _)); exact BK116.out) hg (Kd.R_ne HO126.out BK116.out (by decide)))
    have n1_ := YL (Kd.R_after (ok := (fun _ => True)) (by (with_reducible repeat (first | apply YS | apply YT | apply YU)); exact HO129.out) hg hat)
    have n2_ := YL (hb)
    have n3_ := YL (ho)
    clear BK116; clear HO129; clear HB; clear HO126; have BK116 := n0_; have HO129 := n1_; have HB := n2_; have HO132 := n3_; clear n0_ n1_ n2_ n3_; clear ho hb hg hat
    refine hK.out _ _ ⟨(YI BK116.out 0).trans rfl, (YI BK116.out 1).trans rfl, (YI BK116.out 2).trans rfl, (YI BK116.out 3).trans rfl, (YI BK116.out 4).trans rfl, (YI BK116.out 5).trans rfl⟩ (fun hHeld => ?_)
    clear hK K
    refine norm_ (a' := ?_) ?_ ?_
    rotate_left
    · show Act.put _ (some 22) _ = _
      simp only [Act.put, YM, YN, YO, i64_w, i32_w]
      rfl
    refine pure_ (i := 7) (N := some 5) (v := ?_) (a' := ?_) #[true, true, true, true, true, true, true, true] rfl rfl (any_of HT_.out (by kernel_rfl)) (fun _ _ _ h => h) (Or.inl ⟨by rfl, ?_⟩) ?_ ?_
    rotate_left
    · intro w'
      go_simp; with_reducible rfl
    rotate_left
    · simp only [Act.put, YM, YN, YO, i64_w, i32_w]
      rfl
    refine done_ (done_of HT_.out (by kernel_rfl)) ?_
    try go_wp2
    have n0_ := YL (YU HO129.out)
    have n1_ := YL (YU HO132.out)
    have n2_ := YL (YG BK116.out)
    have n3_ := YL (YC HB.out)
    clear HO129; clear HO132; clear BK116; clear HB; have HO129 := n0_; have HO132 := n1_; have BK116 := n2_; have HB := n3_; clear n0_ n1_ n2_ n3_
    refine start_ (n := 14) (S := fun w' => w'.cell? ⟨gb116, 0, none⟩ = some (.bool false) ∧ w'.cell? ⟨gb116, 1, none⟩ = some (.int .i64 a0_1) ∧ w'.cell? ⟨gb116, 2, none⟩ = some (.int .i64 a0_2) ∧ w'.cell? ⟨gb116, 3, none⟩ = some (.int .i64 a0_3) ∧ w'.cell? ⟨gb116, 4, none⟩ = some (.int .i64 a0_4) ∧ w'.cell? ⟨gb116, 5, none⟩ = some (.int .i64 a0_5)) (ds := []) #[false, false, false, false, false, false, false, false, false, false, false, false, false, false] (by kernel_rfl) rfl rfl ⟨(YI BK116.out 0).trans rfl, (YI BK116.out 1).trans rfl, (YI BK116.out 2).trans rfl, (YI BK116.out 3).trans rfl, (YI BK116.out 4).trans rfl, (YI BK116.out 5).trans rfl⟩ (fun hHeld => ?_); refine with_tabW height_Bytes.tab8 height_Bytes.bits8 (fun HT_ HW_ => ?_)
    generalize w28.drew = w30 at HO129 HO132 BK116 HB hHeld ⊢
    refine pure_ (i := 0) (N := some 23) (v := ?_) (a' := ?_) #[true, false, false, false, false, false, false, false, false, false, false, false, false, false] rfl rfl (any_of HT_.out (by kernel_rfl)) (fun _ _ _ h => h) (Or.inl ⟨by rfl, ?_⟩) ?_ ?_
    rotate_left
    · intro w'
      go_simp; with_reducible rfl
    rotate_left
    · simp only [Act.put, YM, YN, YO, i64_w, i32_w]
      rfl
    refine pure_ (i := 1) (N := some 24) (v := ?_) (a' := ?_) #[true, true, false, false, false, false, false, false, false, false, false, false, false, false] rfl rfl (any_of HT_.out (by kernel_rfl)) (fun _ _ _ h => h) (Or.inl ⟨by rfl, ?_⟩) ?_ ?_
    rotate_left
    · intro w'
      go_simp; with_reducible rfl
    rotate_left
    · simp only [Act.put, YM, YN, YO, i64_w, i32_w]
      rfl
    refine pure_ (i := 4) (N := some 27) (v := ?_) (a' := ?_) #[true, true, false, false, true, false, false, false, false, false, false, false, false, false] rfl rfl (any_of HT_.out (by kernel_rfl)) (fun _ _ _ h => h) (Or.inl ⟨by rfl, ?_⟩) ?_ ?_
    rotate_left
    · intro w'
      go_simp; with_reducible rfl
    rotate_left
    · simp only [Act.put, YM, YN, YO, i64_w, i32_w]
      rfl
    refine pure_ (i := 9) (N := some 32) (v := ?_) (a' := ?_) #[true, true, false, false, true, false, false, false, false, true, false, false, false, false] rfl rfl (any_of HT_.out (by kernel_rfl)) (fun _ _ _ h => h) (Or.inl ⟨by rfl, ?_⟩) ?_ ?_
    rotate_left
    · intro w'
      go_simp; with_reducible rfl
    rotate_left
    · simp only [Act.put, YM, YN, YO, i64_w, i32_w]
      rfl
    refine take_ (i := 2) (N := some 25) (v := ?_) (a' := ?_) #[true, true, true, false, true, false, false, false, false, true, false, false, false, false] rfl rfl (take_ofW HT_.out HW_.out (by kernel_rfl)) (fun _ _ _ h => h) (Or.inl ⟨by rfl, ?_⟩) hHeld ?_ ?_
    rotate_left
    · rintro w' ⟨s0, s1, s2, s3, s4, s5⟩
      go_simp; with_reducible rfl
    rotate_left
    · simp only [Act.put, YM, YN, YO, i64_w, i32_w]
      rfl
    refine pure_ (i := 3) (N := some 26) (v := ?_) (a' := ?_) #[true, true, true, true, true, false, false, false, false, true, false, false, false, false] rfl rfl (any_of HT_.out (by kernel_rfl)) (fun _ _ _ h => h) (Or.inl ⟨by rfl, ?_⟩) ?_ ?_
    rotate_left
    · intro w'
      go_simp; with_reducible rfl
    rotate_left
    · simp only [Act.put, YM, YN, YO, i64_w, i32_w]
      rfl
    refine take_ (i := 5) (N := some 28) (v := ?_) (a' := ?_) #[true, true, true, true, true, true, false, false, false, true, false, false, false, false] rfl rfl (take_ofW HT_.out HW_.out (by kernel_rfl)) (fun _ _ _ h => h) (Or.inl ⟨by rfl, ?_⟩) hHeld ?_ ?_
    rotate_left
    · rintro w' ⟨s0, s1, s2, s3, s4, s5⟩
      go_simp; with_reducible rfl
    rotate_left
    · simp only [Act.put, YM, YN, YO, i64_w, i32_w]
      rfl
    refine pure_ (i := 6) (N := some 29) (v := ?_) (a' := ?_) #[true, true, true, true, true, true, true, false, false, true, false, false, false, false] rfl rfl (any_of HT_.out (by kernel_rfl)) (fun _ _ _ h => h) (Or.inl ⟨by rfl, ?_⟩) ?_ ?_
    rotate_left
    · intro w'
      go_simp; with_reducible rfl
    rotate_left
    · simp only [Act.put, YM, YN, YO, i64_w, i32_w]
      rfl
    refine take_ (i := 10) (N := some 33) (v := ?_) (a' := ?_) #[true, true, true, true, true, true, true, false, false, true, true, false, false, false] rfl rfl (take_ofW HT_.out HW_.out (by kernel_rfl)) (fun _ _ _ h => h) (Or.inl ⟨by rfl, ?_⟩) hHeld ?_ ?_
    rotate_left
    · rintro w' ⟨s0, s1, s2, s3, s4, s5⟩
      go_simp; with_reducible rfl
    rotate_left
    · simp only [Act.put, YM, YN, YO, i64_w, i32_w]
      rfl
    refine one_ (i := 7) (N := some 30) #[true, true, true, true, true, true, true, true, false, true, true, false, false, false] rfl rfl (one_of HT_.out (by kernel_rfl)) (by decide) (fun K hK => ?_)
    refine Kd.R_lit_step (Kd.int .u8) _ 5 ?hg (N := 30) ?hd (xs := ([(a0_2) % 256, (a0_3) % 256] : List Int)) (inner := [.int .u8 ((a0_2) % 256), .int .u8 ((a0_3) % 256)]) (ok := fun _ => True) (okp := fun _ => True) ?hr ?hp (fun _ hk => hk) trivial (Below.refl _ _) (Nat.le_refl _) (by simp) ?_; (case hd => rfl); (case hg => rfl); (case hr => first | (go_simp; done) | (go_simp; rfl)); (case hp => exact (Reps.one (show Kd.M (Kd.int .u8) _ _ _ ((a0_2) % 256) [.int .u8 ((a0_2) % 256)] from rfl) (Reps.one (show Kd.M (Kd.int .u8) _ _ _ ((a0_3) % 256) [.int .u8 ((a0_3) % 256)] from rfl) (Reps.none _ _))))
    intro v134 w31 ho32 hb hg_ hnew_
    clear hg_ hnew_
    (first | rw [← Ny133.out] at ho32 | (simp only [Int.reduceToNat] at ho32; rw [← Ny133.out] at ho32))
    have n0_ := YL (Kd.R_elder' (by (with_reducible repeat (first | apply YS | apply YT | apply YU)); exact HO129.out) (Kd.R_base ho32) hb)
    have n1_ := YL (Kd.R_elder' (by (with_reducible repeat (first | apply YS | apply YT | apply YU)); exact HO132.out) (Kd.R_base ho32) hb)
    have n2_ := YL (Kd.R_lower (Kd.R_new' (Kd.R_new' ho32 (Kd.R_lt (by (with_reducible repeat (first | apply YS | apply YT | apply YU)); exact HO129.out))) (Kd.R_lt (by (with_reducible repeat (first | apply YS | apply YT | apply YU)); exact HO132.out))) (YE (by repeat (first | (with_reducible first | exact HB.out | apply YA | apply YB | apply YC | refine below_set ?_ GE116.out) | exact HB.out))))
    have n3_ := YL (YK (g := gb116) (o := .cells #[.bool false, .int .i64 a0_1, .int .i64 a0_2, .int .i64 a0_3, .int .i64 a0_4, .int .i64 a0_5] 23 (0, 0)) (by (with_reducible repeat (first | refine YF ?_ _ | refine YG ?_ | refine YH ?_ _)); exact BK116.out) hb)
    have n4_ := YL (YD (by repeat (first | (with_reducible first | exact HB.out | apply YA | apply YB | apply YC | refine below_set ?_ GE116.out) | exact HB.out)) hb)
    clear HO129; clear HO132; clear BK116; clear HB; have HO129 := n0_; have HO132 := n1_; have HO135 := n2_; have BK116 := n3_; have HB := n4_; clear n0_ n1_ n2_ n3_ n4_; clear hb ho32
    obtain ⟨Ao34, co34, eo34⟩ := Kd.R_slice HO135.out
    (first | subst eo34 | (injection eo34 with f1_ f2_ f3_; have f4_ := f1_.symm; have f5_ := f3_.symm; clear f1_ f2_ f3_; subst f4_; subst f5_))
    refine hK.out _ _ ⟨(YI BK116.out 0).trans rfl, (YI BK116.out 1).trans rfl, (YI BK116.out 2).trans rfl, (YI BK116.out 3).trans rfl, (YI BK116.out 4).trans rfl, (YI BK116.out 5).trans rfl⟩ (fun hHeld => ?_)
    clear hK K
    refine norm_ (a' := ?_) ?_ ?_
    rotate_left
    · show Act.put _ (some 30) _ = _
      simp only [Act.put, YM, YN, YO, i64_w, i32_w]
      rfl
    refine one_ (i := 8) (N := some 31) #[true, true, true, true, true, true, true, true, true, true, true, false, false, false] rfl rfl (one_of HT_.out (by kernel_rfl)) (by decide) (fun K hK => ?_)
    refine Kd.R_append_rows_step (Kd.int .u8) (w0 := w) w.heap.size (by rfl) (.tmp 23) (.tmp 30) 29 5 (.int .u8 0) 1 rfl Try.underlying29 info5 rfl (by decide) (by omega) v131 y130 y133 _ _ _ (fun k_ => some k_ ≠ (.slice Ao29 t127.length co29 : Value).ownBlock ∧ some k_ ≠ (.slice Ao34 y133.length co34 : Value).ownBlock) (fun _ => False) rfl rfl ?aO ?aR (fun _ _ h => h) (fun _ h => h.elim) ?aF ?aB ?aS ?aL ?_
    (case aR => repeat (first | exact (Kd.R_reads' HO135.out).2.2 | (with_reducible refine Kd.C_alloc ?_ _) | (with_reducible refine Kd.C_drewN ?_ _) | (with_reducible refine Kd.C_drew ?_)))
    (case aB => exact (by repeat (first | (with_reducible first | exact HB.out | apply YA | apply YB | apply YC | refine below_set ?_ GE116.out) | exact HB.out)))
    (case aF => exact (fun k_ hk => ⟨Kd.fresh' (Kd.R_lt (by (with_reducible repeat (first | apply YS | apply YT | apply YU)); exact HO129.out)) k_ hk, Kd.fresh' (Kd.R_lt (by (with_reducible repeat (first | apply YS | apply YT | apply YU)); exact HO135.out)) k_ hk⟩))
    (case aO => exact (by (with_reducible repeat (first | apply YS | apply YT | apply YU)); exact HO132.out))
    (case aS => exact (YE (by repeat (first | (with_reducible first | exact HB.out | apply YA | apply YB | apply YC | refine below_set ?_ GE116.out) | exact HB.out))))
    (case aL => have := LMc17.out; omega)
    intro v137 w33 ho hb hg hat
    rw [← Ny136.out] at ho
    have n0_ := YL (blk_grown (g := gb116) (o := .cells #[.bool false, .int .i64 a0_1, .int .i64 a0_2, .int .i64 a0_3, .int .i64 a0_4, .int .i64 a0_5] 23 (0, 0)) (by (with_reducible repeat (first | refine YF ?_ _ | refine YG ?_ | refine YH ?_ _)); exact BK116.out) hg (Kd.R_ne HO132.out BK116.out (by decide)))
    have n1_ := YL (Kd.R_after (ok := (fun k_ => some k_ ≠ (.slice Ao34 y133.length co34 : Value).ownBlock)) (by (with_reducible repeat (first | apply YS | apply YT | apply YU)); exact Kd.R_mono HO129.out (fun _ hk => by first | exact ⟨hk.2, hk.1.2⟩ | exact trivial | (simp [hk]; done) | simp_all)) hg hat)
    have n2_ := YL (Kd.R_after (ok := (fun k_ => some k_ ≠ (.slice Ao29 t127.length co29 : Value).ownBlock)) (by (with_reducible repeat (first | apply YS | apply YT | apply YU)); exact Kd.R_mono HO135.out (fun _ hk => by first | exact ⟨hk.1.2, hk.2⟩ | exact trivial | (simp [hk]; done) | simp_all)) hg hat)
    have n3_ := YL (hb)
    have n4_ := YL (ho)
    clear BK116; clear HO129; clear HO135; clear HB; clear HO132; have BK116 := n0_; have HO129 := n1_; have HO135 := n2_; have HB := n3_; have HO138 := n4_; clear n0_ n1_ n2_ n3_ n4_; clear ho hb hg hat
    refine hK.out _ _ ⟨(YI BK116.out 0).trans rfl, (YI BK116.out 1).trans rfl, (YI BK116.out 2).trans rfl, (YI BK116.out 3).trans rfl, (YI BK116.out 4).trans rfl, (YI BK116.out 5).trans rfl⟩ (fun hHeld => ?_)
    clear hK K
    refine norm_ (a' := ?_) ?_ ?_
    rotate_left
    · show Act.put _ (some 31) _ = _
      simp only [Act.put, YM, YN, YO, i64_w, i32_w]
      rfl
    refine one_ (i := 11) (N := some 34) #[true, true, true, true, true, true, true, true, true, true, true, true, false, false] rfl rfl (one_of HT_.out (by kernel_rfl)) (by decide) (fun K hK => ?_)
    refine goes_ Try.func29 (by kernel_rfl) rfl #[.int .i64 a0_4] (by rfl) rfl rfl (by (try simp only [YP, List.map_cons, List.map_nil]); first | done | rfl | (simp only [YR, YQ]; rfl)) ?_
    with_reducible refine (wire_Int.calls a0_4 t139 _ A18.out).mono ?_
    rintro e w35 ⟨v140, rfl, ho0, hb⟩
    refine ⟨_, rfl, ?_⟩
    have n0_ := YL (Kd.R_elder' (by (with_reducible repeat (first | apply YS | apply YT | apply YU)); exact HO129.out) (Kd.R_base ho0) hb)
    have n1_ := YL (Kd.R_elder' (by (with_reducible repeat (first | apply YS | apply YT | apply YU)); exact HO135.out) (Kd.R_base ho0) hb)
    have n2_ := YL (Kd.R_elder' (by (with_reducible repeat (first | apply YS | apply YT | apply YU)); exact HO138.out) (Kd.R_base ho0) hb)
    have n3_ := YL (Kd.R_lower (Kd.R_new' (Kd.R_new' (Kd.R_new' ho0 (Kd.R_lt (by (with_reducible repeat (first | apply YS | apply YT | apply YU)); exact HO129.out))) (Kd.R_lt (by (with_reducible repeat (first | apply YS | apply YT | apply YU)); exact HO135.out))) (Kd.R_lt (by (with_reducible repeat (first | apply YS | apply YT | apply YU)); exact HO138.out))) (YE (by repeat (first | (with_reducible first | exact HB.out | apply YA | apply YB | apply YC | refine below_set ?_ GE116.out) | exact HB.out))))
    have n4_ := YL (YK (g := gb116) (o := .cells #[.bool false, .int .i64 a0_1, .int .i64 a0_2, .int .i64 a0_3, .int .i64 a0_4, .int .i64 a0_5] 23 (0, 0)) (by (with_reducible repeat (first | refine YF ?_ _ | refine YG ?_ | refine YH ?_ _)); exact BK116.out) hb)
    have n5_ := YL (YD (by repeat (first | (with_reducible first | exact HB.out | apply YA | apply YB | apply YC | refine below_set ?_ GE116.out) | exact HB.out)) hb)
    clear HO129; clear HO135; clear HO138; clear BK116; clear HB; have HO129 := n0_; have HO135 := n1_; have HO138 := n2_; have HO141 := n3_; have BK116 := n4_; have HB := n5_; clear n0_ n1_ n2_ n3_ n4_ n5_; (try clear hb); (try clear hb2); (try clear hk); (try clear hi); (try clear ho0)
    obtain ⟨Ao37, co37, eo37⟩ := Kd.R_slice HO141.out
    (first | subst eo37 | (injection eo37 with f1_ f2_ f3_; have f4_ := f1_.symm; have f5_ := f3_.symm; clear f1_ f2_ f3_; subst f4_; subst f5_))
    refine hK.out _ _ ⟨(YI BK116.out 0).trans rfl, (YI BK116.out 1).trans rfl, (YI BK116.out 2).trans rfl, (YI BK116.out 3).trans rfl, (YI BK116.out 4).trans rfl, (YI BK116.out 5).trans rfl⟩ (fun hHeld => ?_)
    clear hK K
    refine norm_ (a' := ?_) ?_ ?_
    rotate_left
    · show Act.put _ (some 34) _ = _
      simp only [Act.put, YM, YN, YO, i64_w, i32_w]
      rfl
    refine one_ (i := 12) (N := some 35) #[true, true, true, true, true, true, true, true, true, true, true, true, true, false] rfl rfl (one_of HT_.out (by kernel_rfl)) (by decide) (fun K hK => ?_)
    refine Kd.R_append_rows_step (Kd.int .u8) (w0 := w) w.heap.size (by rfl) (.tmp 31) (.tmp 34) 29 5 (.int .u8 0) 1 rfl Try.underlying29 info5 rfl (by decide) (by omega) v137 y136 t139 _ _ _ (fun k_ => some k_ ≠ (.slice Ao29 t127.length co29 : Value).ownBlock ∧ some k_ ≠ (.slice Ao34 y133.length co34 : Value).ownBlock ∧ some k_ ≠ (.slice Ao37 t139.length co37 : Value).ownBlock) (fun _ => False) rfl rfl ?aO ?aR (fun _ _ h => h) (fun _ h => h.elim) ?aF ?aB ?aS ?aL ?_
    (case aR => repeat (first | exact (Kd.R_reads' HO141.out).2.2 | (with_reducible refine Kd.C_alloc ?_ _) | (with_reducible refine Kd.C_drewN ?_ _) | (with_reducible refine Kd.C_drew ?_)))
    (case aB => exact (by repeat (first | (with_reducible first | exact HB.out | apply YA | apply YB | apply YC | refine below_set ?_ GE116.out) | exact HB.out)))
    (case aF => exact (fun k_ hk => ⟨Kd.fresh' (Kd.R_lt (by (with_reducible repeat (first | apply YS | apply YT | apply YU)); exact HO129.out)) k_ hk, Kd.fresh' (Kd.R_lt (by (with_reducible repeat (first | apply YS | apply YT | apply YU)); exact HO135.out)) k_ hk, Kd.fresh' (Kd.R_lt (by (with_reducible repeat (first | apply YS | apply YT | apply YU)); exact HO141.out)) k_ hk⟩))
    (case aO => exact (by (with_reducible repeat (first | apply YS | apply YT | apply YU)); exact Kd.R_mono HO138.out (fun _ hk => by first | exact ⟨hk.1.1, ⟨hk.1.2, hk.2⟩⟩ | exact trivial | (simp [hk]; done) | simp_all)))
    (case aS => exact (YE (by repeat (first | (with_reducible first | exact HB.out | apply YA | apply YB | apply YC | refine below_set ?_ GE116.out) | exact HB.out))))
    (case aL => have := LMc19.out; omega)
    intro v143 w36 ho hb hg hat
    rw [← Ny142.out] at ho
    have n0_ := YL (blk_grown (g := gb116) (o := .cells #[.bool false, .int .i64 a0_1, .int .i64 a0_2, .int .i64 a0_3, .int .i64 a0_4, .int .i64 a0_5] 23 (0, 0)) (by (with_reducible repeat (first | refine YF ?_ _ | refine YG ?_ | refine YH ?_ _)); exact BK116.out) hg (Kd.R_ne HO138.out BK116.out (by decide)))
    have n1_ := YL (Kd.R_after (ok := (fun k_ => some k_ ≠ (.slice Ao34 y133.length co34 : Value).ownBlock ∧ some k_ ≠ (.slice Ao37 t139.length co37 : Value).ownBlock)) (by (with_reducible repeat (first | apply YS | apply YT | apply YU)); exact Kd.R_mono HO129.out (fun _ hk => by first | exact ⟨⟨hk.1.1, hk.2⟩, hk.1.2⟩ | exact trivial | (simp [hk]; done) | simp_all)) hg hat)
    have n2_ := YL (Kd.R_after (ok := (fun k_ => some k_ ≠ (.slice Ao29 t127.length co29 : Value).ownBlock ∧ some k_ ≠ (.slice Ao37 t139.length co37 : Value).ownBlock)) (by (with_reducible repeat (first | apply YS | apply YT | apply YU)); exact Kd.R_mono HO135.out (fun _ hk => by first | exact ⟨⟨hk.1.1, hk.2⟩, hk.1.2⟩ | exact trivial | (simp [hk]; done) | simp_all)) hg hat)
    have n3_ := YL (Kd.R_after (ok := (fun k_ => some k_ ≠ (.slice Ao29 t127.length co29 : Value).ownBlock ∧ some k_ ≠ (.slice Ao34 y133.length co34 : Value).ownBlock)) (by (with_reducible repeat (first | apply YS | apply YT | apply YU)); exact Kd.R_mono HO141.out (fun _ hk => by first | exact ⟨⟨hk.1.1.2, hk.1.2⟩, hk.2⟩ | exact trivial | (simp [hk]; done) | simp_all)) hg hat)
    have n4_ := YL (hb)
    have n5_ := YL (ho)
    clear BK116; clear HO129; clear HO135; clear HO141; clear HB; clear HO138; have BK116 := n0_; have HO129 := n1_; have HO135 := n2_; have HO141 := n3_; have HB := n4_; have HO144 := n5_; clear n0_ n1_ n2_ n3_ n4_ n5_; clear ho hb hg hat
    refine hK.out _ _ ⟨(YI BK116.out 0).trans rfl, (YI BK116.out 1).trans rfl, (YI BK116.out 2).trans rfl, (YI BK116.out 3).trans rfl, (YI BK116.out 4).trans rfl, (YI BK116.out 5).trans rfl⟩ (fun hHeld => ?_)
    clear hK K
    refine norm_ (a' := ?_) ?_ ?_
    rotate_left
    · show Act.put _ (some 35) _ = _
      simp only [Act.put, YM, YN, YO, i64_w, i32_w]
      rfl
    refine pure_ (i := 13) (N := some 5) (v := ?_) (a' := ?_) #[true, true, true, true, true, true, true, true, true, true, true, true, true, true] rfl rfl (any_of HT_.out (by kernel_rfl)) (fun _ _ _ h => h) (Or.inl ⟨by rfl, ?_⟩) ?_ ?_
    rotate_left
    · intro w'
      go_simp; with_reducible rfl
    rotate_left
    · simp only [Act.put, YM, YN, YO, i64_w, i32_w]
      rfl
    refine done_ (done_of HT_.out (by kernel_rfl)) ?_
    have hcz38_0 : w36.cell? ⟨gb116, 0, none⟩ = some (.bool false) := (YI BK116.out 0).trans rfl
    have hcz38_1 : w36.cell? ⟨gb116, 1, none⟩ = some (.int .i64 a0_1) := (YI BK116.out 1).trans rfl
    have hcz38_2 : w36.cell? ⟨gb116, 2, none⟩ = some (.int .i64 a0_2) := (YI BK116.out 2).trans rfl
    have hcz38_3 : w36.cell? ⟨gb116, 3, none⟩ = some (.int .i64 a0_3) := (YI BK116.out 3).trans rfl
    have hcz38_4 : w36.cell? ⟨gb116, 4, none⟩ = some (.int .i64 a0_4) := (YI BK116.out 4).trans rfl
    have hcz38_5 : w36.cell? ⟨gb116, 5, none⟩ = some (.int .i64 a0_5) := (YI BK116.out 5).trans rfl
    have hfz38_0 := YJ BK116.out 0
    have hfz38_1 := YJ BK116.out 1
    have hfz38_2 := YJ BK116.out 2
    have hfz38_3 := YJ BK116.out 3
    have hfz38_4 := YJ BK116.out 4
    have hfz38_5 := YJ BK116.out 5
    try go_wp2_with (first | ((with_reducible refine gate_builtin (b := .append) (xs := #[.tmp 36, .tmp 40]) rfl ?_); at_builtin; refine Kd.R_append (Kd.int .u8) (w0 := w) w.heap.size rfl (.tmp 36) (.tmp 40) 29 5 (.int .u8 0) 1 rfl Try.underlying29 info5 rfl (by decide) (by omega) v143 y142 ((a0_5) % 256) [.int .u8 ((a0_5) % 256)] (fun k_ => some k_ ≠ (.slice Ao29 t127.length co29 : Value).ownBlock ∧ some k_ ≠ (.slice Ao34 y133.length co34 : Value).ownBlock ∧ some k_ ≠ (.slice Ao37 t139.length co37 : Value).ownBlock) (fun _ => False) rfl rfl ?aP (fun _ hk => hk.elim) ?aF ?aO ?aB ?aS ?aL ?_; (case aP => exact rfl); (case aB => exact (by repeat (first | (with_reducible first | exact HB.out | apply YA | apply YB | apply YC | refine below_set ?_ GE116.out) | exact HB.out))); (case aF => exact (fun k_ hk => ⟨Kd.fresh' (Kd.R_lt (by (with_reducible repeat (first | apply YS | apply YT | apply YU)); exact HO129.out)) k_ hk, Kd.fresh' (Kd.R_lt (by (with_reducible repeat (first | apply YS | apply YT | apply YU)); exact HO135.out)) k_ hk, Kd.fresh' (Kd.R_lt (by (with_reducible repeat (first | apply YS | apply YT | apply YU)); exact HO141.out)) k_ hk⟩)); (case aO => exact (by (with_reducible repeat (first | apply YS | apply YT | apply YU)); exact HO144.out)); (case aS => exact (YE (by repeat (first | (with_reducible first | exact HB.out | apply YA | apply YB | apply YC | refine below_set ?_ GE116.out) | exact HB.out)))); (case aL => have := LMc20.out; omega); intro v146 w39 ho hb hg hat; rw [← Ny145.out] at ho; have n0_ := YL (blk_grown (g := gb116) (o := .cells #[.bool false, .int .i64 a0_1, .int .i64 a0_2, .int .i64 a0_3, .int .i64 a0_4, .int .i64 a0_5] 23 (0, 0)) (by (with_reducible repeat (first | refine YF ?_ _ | refine YG ?_ | refine YH ?_ _)); exact BK116.out) hg (Kd.R_ne HO144.out BK116.out (by decide))); have n1_ := YL (Kd.R_after (ok := (fun k_ => some k_ ≠ (.slice Ao34 y133.length co34 : Value).ownBlock ∧ some k_ ≠ (.slice Ao37 t139.length co37 : Value).ownBlock)) (by (with_reducible repeat (first | apply YS | apply YT | apply YU)); exact HO129.out) hg hat); have n2_ := YL (Kd.R_after (ok := (fun k_ => some k_ ≠ (.slice Ao29 t127.length co29 : Value).ownBlock ∧ some k_ ≠ (.slice Ao37 t139.length co37 : Value).ownBlock)) (by (with_reducible repeat (first | apply YS | apply YT | apply YU)); exact HO135.out) hg hat); have n3_ := YL (Kd.R_after (ok := (fun k_ => some k_ ≠ (.slice Ao29 t127.length co29 : Value).ownBlock ∧ some k_ ≠ (.slice Ao34 y133.length co34 : Value).ownBlock)) (by (with_reducible repeat (first | apply YS | apply YT | apply YU)); exact HO141.out) hg hat); have n4_ := YL (hb); have n5_ := YL (ho); clear BK116; clear HO129; clear HO135; clear HO141; clear HB; clear HO144; have BK116 := n0_; have HO129 := n1_; have HO135 := n2_; have HO141 := n3_; have HB := n4_; have HO147 := n5_; clear n0_ n1_ n2_ n3_ n4_ n5_; clear ho hb hg hat))
    go_ret2
    exact ⟨_, by first | rfl | (simp [errW_none, errW_some] <;> rfl) | (simp [*, errW_none, errW_some] <;> rfl), by (with_reducible repeat (first | apply YS | apply YT | apply YU)); exact Kd.R_mono HO147.out (fun _ hk => trivial), by repeat (first | (with_reducible first | exact HB.out | apply YA | apply YB | apply YC | refine below_set ?_ GE116.out) | exact HB.out)⟩
  rw [if_neg c3] at H
  have c3b0 : (t117 == 0) = false := beq_eq_false_iff_ne.mpr c3
  have c3b1 : (t117 != 0) = true := bne_iff_ne.mpr c3
  simp only [Option.some.injEq, Prod.mk.injEq] at H
  obtain ⟨rfl, rfl⟩ := H
  go_enter Try.func10, Try.ntmps10
  go_wp2_with (first | ((with_reducible refine gate_dst (N := 1) rfl ?_); refine box_event ?hg (N := 1) ?hd (cs := #[.bool a0_0, .int .i64 a0_1, .int .i64 a0_2, .int .i64 a0_3, .int .i64 a0_4, .int .i64 a0_5]) (t := 23) ?hr ?_; (case hd => rfl); (case hg => rfl); (case hr => first | (go_simp; done) | (go_simp; rfl)); intro gb116 hg w40 hbox hb; have n0_ := YL (YD (by repeat (first | (with_reducible first | exact HB.out | apply YA | apply YB | apply YC) | exact HB.out)) hb); have n1_ := YL (hbox); have n2_ := YL ((by rw [hg]; exact (YE (by repeat (first | (with_reducible first | exact HB.out | apply YA | apply YB | apply YC) | exact HB.out))) : w.heap.size ≤ gb116)); have n3_ := YL ((by rw [hg]; exact (YE (by repeat (first | (with_reducible first | exact HB.out | apply YA | apply YB | apply YC) | exact HB.out))) : w.heap.size ≤ gb116)); clear HB; have HB := n0_; have BK116 := n1_; have GW116 := n2_; have GE116 := n3_; clear n0_ n1_ n2_ n3_; clear hb hbox hg; have hcz41_0 : w40.cell? ⟨gb116, 0, none⟩ = some (.bool a0_0) := (YI BK116.out 0).trans rfl; have hcz41_1 : w40.cell? ⟨gb116, 1, none⟩ = some (.int .i64 a0_1) := (YI BK116.out 1).trans rfl; have hcz41_2 : w40.cell? ⟨gb116, 2, none⟩ = some (.int .i64 a0_2) := (YI BK116.out 2).trans rfl; have hcz41_3 : w40.cell? ⟨gb116, 3, none⟩ = some (.int .i64 a0_3) := (YI BK116.out 3).trans rfl; have hcz41_4 : w40.cell? ⟨gb116, 4, none⟩ = some (.int .i64 a0_4) := (YI BK116.out 4).trans rfl; have hcz41_5 : w40.cell? ⟨gb116, 5, none⟩ = some (.int .i64 a0_5) := (YI BK116.out 5).trans rfl; have hfz41_0 := YJ BK116.out 0; have hfz41_1 := YJ BK116.out 1; have hfz41_2 := YJ BK116.out 2; have hfz41_3 := YJ BK116.out 3; have hfz41_4 := YJ BK116.out 4; have hfz41_5 := YJ BK116.out 5) | ((with_reducible refine gate_callee (f := 12) rfl ?_); refine goesL_ (some 7) rfl rfl Try.func12 (by kernel_rfl) rfl #[.agg #[.bool a0_0, .int .i64 a0_1, .int .i64 a0_2, .int .i64 a0_3, .int .i64 a0_4, .int .i64 a0_5]] rfl (by (try simp only [YP, List.map_cons, List.map_nil]); first | done | rfl | (simp only [YR, YQ]; rfl)) ?_; (with_reducible refine (height_Check.calls k a0_0 a0_1 a0_2 a0_3 a0_4 a0_5 t117 _ A2.out).mono ?_); rintro e w42 ⟨rfl, hb⟩; refine ⟨_, rfl, ?_⟩; have n0_ := YL (YK (g := gb116) (o := .cells #[.bool a0_0, .int .i64 a0_1, .int .i64 a0_2, .int .i64 a0_3, .int .i64 a0_4, .int .i64 a0_5] 23 (0, 0)) (by (with_reducible repeat (first | refine YF ?_ _ | refine YG ?_ | refine YH ?_ _)); exact BK116.out) hb); have n1_ := YL (YD (by repeat (first | (with_reducible first | exact HB.out | apply YA | apply YB | apply YC | refine below_set ?_ GE116.out) | exact HB.out)) hb); clear BK116; clear HB; have BK116 := n0_; have HB := n1_; clear n0_ n1_; (try clear hb); (try clear hb2); (try clear hk); (try clear hi)))
  go_ret2
  exact ⟨_, by first | rfl | (simp [errW_none, errW_some] <;> rfl) | (simp [*, errW_none, errW_some] <;> rfl), by first | exact Kd.R_nil _ _ _ _ _ | exact Kd.N_nil _ _ _ _ _ | exact Kd.V_nil _ _ _ _ _ | exact Kd.Q_nil _ _ _ _ _ | exact Kd.S_nil _ _ _ _ _, by repeat (first | (with_reducible first | exact HB.out | apply YA | apply YB | apply YC | refine below_set ?_ GE116.out) | exact HB.out)⟩

end Go.Proofs.Ytjeahmlahkngaaa.P
