/- Walks. -/
import Derived.WalkMore
import Derived.Test.YtfigbjjaffkidaaXBatchPacksa
import Derived.Test.YtfigbjjaffkidaaXBatchPacksb
import Derived.Test.YtfigbjjaffkidaaXBatchPacksc
set_option linter.unusedVariables false
set_option linter.unusedSimpArgs false
namespace Go.Proofs.Ytfigbjjaffkidaa.P
open Go.RowKit YtfigbjjaffkidaaW.PrintWords YtfigbjjaffkidaaW.PrintLast YtfigbjjaffkidaaW.PrintMore
open YtfigbjjaffkidaaW.PrintWords renaming below_alloc → YA, pw_below_drewN → YB, below_drew1 → YC, below_step → YD, below_size → YE, blk_drewN → YF, blk_drew → YG, blk_alloc → YH, blk_cell → YI, blk_frozen → YJ, blk_below → YK
open YtfigbjjaffkidaaW.PrintWords.Aside0 renaming mk → YL
open List renaming map_toArray → YM, length_take → YN, length_drop → YO
open YtfigbjjaffkidaaW.PrintWords.Kd renaming R_alloc → YP, R_drewN → YQ, R_drew → YR
attribute [local go_sem] max2_int min2_int max_two min_two max_three min_three max_four min_four   -- for this text's walks alone
mutual
def thalwegref04_Bytes.j0 : Nat → List Int → Bool → Int → Int → Bool → Int → Int → Int → Int → Int → Int → Int → Int → Int → Option (List Int × Int)
  | 0, _, _, _, _, _, _, _, _, _, _, _, _, _, _ => none
  | k + 1, x4, x24, x277000, x277001, x277002, x277003, x277004, x277005, x277006, x277007, x277008, x277009, x277010, x277011 => if x24 = true then ((thalwegref02_Bytes.f k x277002 x277003 x277004 x277005 x277006 x277007).bind fun bt281 => (if x4.length + bt281.1.length < 140737488355328 then (thalwegref04_Bytes.j1 k (x4 ++ bt281.1) x277000 x277001 x277002 x277003 x277004 x277005 x277006 x277007 x277008 x277009 x277010 x277011) else (none))) else (thalwegref04_Bytes.j1 k x4 x277000 x277001 x277002 x277003 x277004 x277005 x277006 x277007 x277008 x277009 x277010 x277011)
def thalwegref04_Bytes.j1 : Nat → List Int → Int → Int → Bool → Int → Int → Int → Int → Int → Int → Int → Int → Int → Option (List Int × Int)
  | 0, _, _, _, _, _, _, _, _, _, _, _, _, _ => none
  | k + 1, x4, x277000, x277001, x277002, x277003, x277004, x277005, x277006, x277007, x277008, x277009, x277010, x277011 => if x277000 = 3 then ((thalwegref01_Int.f k x277008).bind fun t288 => (if x4.length + t288.length < 140737488355328 then ((some (x4 ++ t288 : List Int)).bind fun y291 => ((some (([(x277009) % 256, (x277010) % 256] : List Int) : List Int)).bind fun y294 => (if y291.length + y294.length < 140737488355328 then (if x277000 = 4 then (none) else (some ((y291 ++ y294), 0))) else (none)))) else (none))) else (if x277000 = 4 then ((some (([(wrap64 (Int.tdiv x277011 256)) % 256, (Int.tmod x277011 256) % 256] : List Int) : List Int)).bind fun y300 => (if x4.length + y300.length < 140737488355328 then (some ((x4 ++ y300), 0)) else (none))) else (some (x4, 0)))
end
def thalwegref04_Bytes.f (k : Nat) (a0_0 : Int) (a0_1 : Int) (a0_2 : Bool) (a0_3 : Int) (a0_4 : Int) (a0_5 : Int) (a0_6 : Int) (a0_7 : Int) (a0_8 : Int) (a0_9 : Int) (a0_10 : Int) (a0_11 : Int) : Option (List Int × Int) := (thalwegref04_Right.f k a0_0 a0_1 a0_2 a0_3 a0_4 a0_5 a0_6 a0_7 a0_8 a0_9 a0_10 a0_11).bind fun t277 => (if t277 = true then ((some (([(a0_0) % 256, (a0_1) % 256] : List Int) : List Int)).bind fun y278 => (if a0_0 = 2 then (thalwegref04_Bytes.j0 k y278 true a0_0 a0_1 a0_2 a0_3 a0_4 a0_5 a0_6 a0_7 a0_8 a0_9 a0_10 a0_11) else (thalwegref04_Bytes.j0 k y278 (a0_0 == 4) a0_0 a0_1 a0_2 a0_3 a0_4 a0_5 a0_6 a0_7 a0_8 a0_9 a0_10 a0_11))) else (some (([] : List Int), 1)))
set_option maxHeartbeats 8000000 in
set_option maxRecDepth 100000 in
theorem thalwegref04_Bytes.calls (k : Nat) (a0_0 : Int) (a0_1 : Int) (a0_2 : Bool) (a0_3 : Int) (a0_4 : Int) (a0_5 : Int) (a0_6 : Int) (a0_7 : Int) (a0_8 : Int) (a0_9 : Int) (a0_10 : Int) (a0_11 : Int) (r1 : List Int) (r2 : Int) (w : World) (h : thalwegref04_Bytes.f k a0_0 a0_1 a0_2 a0_3 a0_4 a0_5 a0_6 a0_7 a0_8 a0_9 a0_10 a0_11 = some (r1, r2)) :
    Calls Try.prog 24 #[.agg #[.int .i64 a0_0, .int .i64 a0_1, .bool a0_2, .int .i64 a0_3, .int .i64 a0_4, .int .i64 a0_5, .int .i64 a0_6, .int .i64 a0_7, .int .i64 a0_8, .int .i64 a0_9, .int .i64 a0_10, .int .i64 a0_11]] w fun e w' => ∃ v0_ : Value, e = .returned (.tuple #[v0_, .int .i64 r2]) ∧ Kd.R (Kd.int .u8) 5 w' w.heap.size (fun _ => True) v0_ r1 ∧ Below w.heap.size w w' := by
  have hu45 := Try.underlying45
  have hu41 := Try.underlying41
  have HB := YL (Below.refl w.heap.size w)
  have H : ((thalwegref04_Right.f k a0_0 a0_1 a0_2 a0_3 a0_4 a0_5 a0_6 a0_7 a0_8 a0_9 a0_10 a0_11).bind fun t277 => (if t277 = true then ((some (([(a0_0) % 256, (a0_1) % 256] : List Int) : List Int)).bind fun y278 => (if a0_0 = 2 then (thalwegref04_Bytes.j0 k y278 true a0_0 a0_1 a0_2 a0_3 a0_4 a0_5 a0_6 a0_7 a0_8 a0_9 a0_10 a0_11) else (thalwegref04_Bytes.j0 k y278 (a0_0 == 4) a0_0 a0_1 a0_2 a0_3 a0_4 a0_5 a0_6 a0_7 a0_8 a0_9 a0_10 a0_11))) else (some (([] : List Int), 1)))) = some (r1, r2) := h
  clear h; replace H := Option.bind_eq_some_iff.mp H; obtain ⟨t277, A20, H⟩ := H
  replace H : (if t277 = true then ((some (([(a0_0) % 256, (a0_1) % 256] : List Int) : List Int)).bind fun y278 => (if a0_0 = 2 then (thalwegref04_Bytes.j0 k y278 true a0_0 a0_1 a0_2 a0_3 a0_4 a0_5 a0_6 a0_7 a0_8 a0_9 a0_10 a0_11) else (thalwegref04_Bytes.j0 k y278 (a0_0 == 4) a0_0 a0_1 a0_2 a0_3 a0_4 a0_5 a0_6 a0_7 a0_8 a0_9 a0_10 a0_11))) else (some (([] : List Int), 1))) = some (r1, r2) := H
  have A2 := YL A20; clear A20
  by_cases c3 : t277 = true
  · subst c3
    have H1 : ((some (([(a0_0) % 256, (a0_1) % 256] : List Int) : List Int)).bind fun y278 => (if a0_0 = 2 then (thalwegref04_Bytes.j0 k y278 true a0_0 a0_1 a0_2 a0_3 a0_4 a0_5 a0_6 a0_7 a0_8 a0_9 a0_10 a0_11) else (thalwegref04_Bytes.j0 k y278 (a0_0 == 4) a0_0 a0_1 a0_2 a0_3 a0_4 a0_5 a0_6 a0_7 a0_8 a0_9 a0_10 a0_11))) = some (r1, r2) := by rw [if_pos rfl] at H; exact H
    clear H
    have H := H1
    clear H1
    obtain ⟨y278, hy278⟩ : ∃ y_ : List Int, y_ = (([(a0_0) % 256, (a0_1) % 256] : List Int)) := ⟨_, rfl⟩
    replace H : (if a0_0 = 2 then (thalwegref04_Bytes.j0 k y278 true a0_0 a0_1 a0_2 a0_3 a0_4 a0_5 a0_6 a0_7 a0_8 a0_9 a0_10 a0_11) else (thalwegref04_Bytes.j0 k y278 (a0_0 == 4) a0_0 a0_1 a0_2 a0_3 a0_4 a0_5 a0_6 a0_7 a0_8 a0_9 a0_10 a0_11)) = some (r1, r2) := by first | (rw [hy278]; with_reducible exact H) | (have H2_ := (Option.bind_some _ _).symm.trans H; rw [hy278]; with_reducible exact H2_) | (have H2_ := (Option.bind_some _ _).symm.trans H; with_reducible exact H2_) | with_reducible exact H | (rw [hy278]; exact H) | exact H
    have Ny278 := YL hy278; clear hy278; have HC4 := YL H; clear H
    go_enter Try.func24, Try.ntmps24
    go_upto_region 4 with (first | ((with_reducible refine gate_dst (N := 1) rfl ?_); refine box_event ?hg (N := 1) ?hd (cs := #[.int .i64 a0_0, .int .i64 a0_1, .bool a0_2, .int .i64 a0_3, .int .i64 a0_4, .int .i64 a0_5, .int .i64 a0_6, .int .i64 a0_7, .int .i64 a0_8, .int .i64 a0_9, .int .i64 a0_10, .int .i64 a0_11]) (t := 45) ?hr ?_; (case hd => rfl); (case hg => rfl); (case hr => first | (go_simp; done) | (go_simp; rfl)); intro gb276 hg w5 hbox hb; have n0_ := YL (YD (by repeat (first | (with_reducible first | exact HB.out | apply YA | apply YB | apply YC) | exact HB.out)) hb); have n1_ := YL (hbox); have n2_ := YL ((by rw [hg]; exact (YE (by repeat (first | (with_reducible first | exact HB.out | apply YA | apply YB | apply YC) | exact HB.out))) : w.heap.size ≤ gb276)); have n3_ := YL ((by rw [hg]; exact (YE (by repeat (first | (with_reducible first | exact HB.out | apply YA | apply YB | apply YC) | exact HB.out))) : w.heap.size ≤ gb276)); clear HB; have HB := n0_; have BK276 := n1_; have GW276 := n2_; have GE276 := n3_; clear n0_ n1_ n2_ n3_; clear hb hbox hg; have q6_0 : w5.cell? ⟨gb276, 0, none⟩ = some (.int .i64 a0_0) := (YI BK276.out 0).trans rfl; have q6_1 : w5.cell? ⟨gb276, 1, none⟩ = some (.int .i64 a0_1) := (YI BK276.out 1).trans rfl; have q6_2 : w5.cell? ⟨gb276, 2, none⟩ = some (.bool a0_2) := (YI BK276.out 2).trans rfl; have q6_3 : w5.cell? ⟨gb276, 3, none⟩ = some (.int .i64 a0_3) := (YI BK276.out 3).trans rfl; have q6_4 : w5.cell? ⟨gb276, 4, none⟩ = some (.int .i64 a0_4) := (YI BK276.out 4).trans rfl; have q6_5 : w5.cell? ⟨gb276, 5, none⟩ = some (.int .i64 a0_5) := (YI BK276.out 5).trans rfl; have q6_6 : w5.cell? ⟨gb276, 6, none⟩ = some (.int .i64 a0_6) := (YI BK276.out 6).trans rfl; have q6_7 : w5.cell? ⟨gb276, 7, none⟩ = some (.int .i64 a0_7) := (YI BK276.out 7).trans rfl; have q6_8 : w5.cell? ⟨gb276, 8, none⟩ = some (.int .i64 a0_8) := (YI BK276.out 8).trans rfl; have q6_9 : w5.cell? ⟨gb276, 9, none⟩ = some (.int .i64 a0_9) := (YI BK276.out 9).trans rfl; have q6_10 : w5.cell? ⟨gb276, 10, none⟩ = some (.int .i64 a0_10) := (YI BK276.out 10).trans rfl; have q6_11 : w5.cell? ⟨gb276, 11, none⟩ = some (.int .i64 a0_11) := (YI BK276.out 11).trans rfl; have f6_0 := YJ BK276.out 0; have f6_1 := YJ BK276.out 1; have f6_2 := YJ BK276.out 2; have f6_3 := YJ BK276.out 3; have f6_4 := YJ BK276.out 4; have f6_5 := YJ BK276.out 5; have f6_6 := YJ BK276.out 6; have f6_7 := YJ BK276.out 7; have f6_8 := YJ BK276.out 8; have f6_9 := YJ BK276.out 9; have f6_10 := YJ BK276.out 10; have f6_11 := YJ BK276.out 11) | ((with_reducible refine gate_callee (f := 37) rfl ?_); refine goesL_ (some 8) rfl rfl Try.func37 (by kernel_rfl) rfl #[.agg #[.int .i64 a0_0, .int .i64 a0_1, .bool a0_2, .int .i64 a0_3, .int .i64 a0_4, .int .i64 a0_5, .int .i64 a0_6, .int .i64 a0_7, .int .i64 a0_8, .int .i64 a0_9, .int .i64 a0_10, .int .i64 a0_11]] rfl (by (try simp only [YM, List.map_cons, List.map_nil]); first | done | rfl | (simp only [YO, YN]; rfl)) ?_; (with_reducible refine (thalwegref04_Right.calls k a0_0 a0_1 a0_2 a0_3 a0_4 a0_5 a0_6 a0_7 a0_8 a0_9 a0_10 a0_11 true _ A2.out).mono ?_); rintro e w7 ⟨rfl, hb⟩; refine ⟨_, rfl, ?_⟩; have n0_ := YL (YK (g := gb276) (o := .cells #[.int .i64 a0_0, .int .i64 a0_1, .bool a0_2, .int .i64 a0_3, .int .i64 a0_4, .int .i64 a0_5, .int .i64 a0_6, .int .i64 a0_7, .int .i64 a0_8, .int .i64 a0_9, .int .i64 a0_10, .int .i64 a0_11] 45 (0, 0)) (by (with_reducible repeat (first | refine YF ?_ _ | refine YG ?_ | refine YH ?_ _)); exact BK276.out) hb); have n1_ := YL (YD (by repeat (first | (with_reducible first | exact HB.out | apply YA | apply YB | apply YC | refine below_set ?_ GE276.out) | exact HB.out)) hb); clear BK276; clear HB; have BK276 := n0_; have HB := n1_; clear n0_ n1_; (try clear hb); (try clear hb2); (try clear hk); (try clear hi); have q8_0 : w7.cell? ⟨gb276, 0, none⟩ = some (.int .i64 a0_0) := (YI BK276.out 0).trans rfl; have q8_1 : w7.cell? ⟨gb276, 1, none⟩ = some (.int .i64 a0_1) := (YI BK276.out 1).trans rfl; have q8_2 : w7.cell? ⟨gb276, 2, none⟩ = some (.bool a0_2) := (YI BK276.out 2).trans rfl; have q8_3 : w7.cell? ⟨gb276, 3, none⟩ = some (.int .i64 a0_3) := (YI BK276.out 3).trans rfl; have q8_4 : w7.cell? ⟨gb276, 4, none⟩ = some (.int .i64 a0_4) := (YI BK276.out 4).trans rfl; have q8_5 : w7.cell? ⟨gb276, 5, none⟩ = some (.int .i64 a0_5) := (YI BK276.out 5).trans rfl; have q8_6 : w7.cell? ⟨gb276, 6, none⟩ = some (.int .i64 a0_6) := (YI BK276.out 6).trans rfl; have q8_7 : w7.cell? ⟨gb276, 7, none⟩ = some (.int .i64 a0_7) := (YI BK276.out 7).trans rfl; have q8_8 : w7.cell? ⟨gb276, 8, none⟩ = some (.int .i64 a0_8) := (YI BK276.out 8).trans rfl; have q8_9 : w7.cell? ⟨gb276, 9, none⟩ = some (.int .i64 a0_9) := (YI BK276.out 9).trans rfl; have q8_10 : w7.cell? ⟨gb276, 10, none⟩ = some (.int .i64 a0_10) := (YI BK276.out 10).trans rfl; have q8_11 : w7.cell? ⟨gb276, 11, none⟩ = some (.int .i64 a0_11) := (YI BK276.out 11).trans rfl; have f8_0 := YJ BK276.out 0; have f8_1 := YJ BK276.out 1; have f8_2 := YJ BK276.out 2; have f8_3 := YJ BK276.out 3; have f8_4 := YJ BK276.out 4; have f8_5 := YJ BK276.out 5; have f8_6 := YJ BK276.out 6; have f8_7 := YJ BK276.out 7; have f8_8 := YJ BK276.out 8; have f8_9 := YJ BK276.out 9; have f8_10 := YJ BK276.out 10; have f8_11 := YJ BK276.out 11) | ((with_reducible refine gate_dst (N := 16) rfl ?_); refine Kd.R_lit (Kd.int .u8) _ 5 ?hg (N := 16) ?hd (xs := ([(a0_0) % 256, (a0_1) % 256] : List Int)) (inner := [.int .u8 ((a0_0) % 256), .int .u8 ((a0_1) % 256)]) (ok := fun _ => True) (okp := fun _ => True) ?hr ?hp (fun _ hk => hk) trivial (Below.refl _ _) (Nat.le_refl _) (by simp) ?_; (case hd => rfl); (case hg => rfl); (case hr => first | (go_simp; done) | (go_simp; rfl)); (case hp => exact (Reps.one (show Kd.M (Kd.int .u8) _ _ _ ((a0_0) % 256) [.int .u8 ((a0_0) % 256)] from rfl) (Reps.one (show Kd.M (Kd.int .u8) _ _ _ ((a0_1) % 256) [.int .u8 ((a0_1) % 256)] from rfl) (Reps.none _ _)))); intro v279 w9 ho10 hb hg_ hnew_; clear hg_ hnew_; (first | rw [← Ny278.out] at ho10 | (simp only [Int.reduceToNat] at ho10; rw [← Ny278.out] at ho10)); have n0_ := YL (Kd.R_lower ho10 (YE (by repeat (first | (with_reducible first | exact HB.out | apply YA | apply YB | apply YC | refine below_set ?_ GE276.out) | exact HB.out)))); have n1_ := YL (YK (g := gb276) (o := .cells #[.int .i64 a0_0, .int .i64 a0_1, .bool a0_2, .int .i64 a0_3, .int .i64 a0_4, .int .i64 a0_5, .int .i64 a0_6, .int .i64 a0_7, .int .i64 a0_8, .int .i64 a0_9, .int .i64 a0_10, .int .i64 a0_11] 45 (0, 0)) (by (with_reducible repeat (first | refine YF ?_ _ | refine YG ?_ | refine YH ?_ _)); exact BK276.out) hb); have n2_ := YL (YD (by repeat (first | (with_reducible first | exact HB.out | apply YA | apply YB | apply YC | refine below_set ?_ GE276.out) | exact HB.out)) hb); clear BK276; clear HB; have HO280 := n0_; have BK276 := n1_; have HB := n2_; clear n0_ n1_ n2_; clear hb ho10))
    (try simp only [Act.put, List.setIfInBounds_toArray, List.set_cons_zero, List.set_cons_succ])
    go_cut [24] (fun v24 wc => ∃ (kq : Nat) (x24_3 : Bool), v24 = .bool x24_3 ∧ Aside0 (thalwegref04_Bytes.j0 kq y278 x24_3 a0_0 a0_1 a0_2 a0_3 a0_4 a0_5 a0_6 a0_7 a0_8 a0_9 a0_10 a0_11 = some (r1, r2)) ∧ Aside0 (kq ≤ k) ∧ Aside0 (Kd.R (Kd.int .u8) 5 wc w.heap.size (fun _ => True) v279 y278) ∧ Aside0 (wc.heap[gb276]? = some (.cells #[.int .i64 a0_0, .int .i64 a0_1, .bool a0_2, .int .i64 a0_3, .int .i64 a0_4, .int .i64 a0_5, .int .i64 a0_6, .int .i64 a0_7, .int .i64 a0_8, .int .i64 a0_9, .int .i64 a0_10, .int .i64 a0_11] 45 (0, 0))) ∧ Aside0 (Below w.heap.size w wc))
    case first =>
      have H := HC4.out
      clear HC4
      by_cases c11 : a0_0 = 2
      · rw [if_pos c11] at H
        have c11b0 : (a0_0 == 2) = true := beq_iff_eq.mpr c11
        have c11b1 : (a0_0 != 2) = false := bne_eq_false_iff_eq.mpr c11
        clear c11
        (first | rw [c11b0] | (simp only [i64_w, i32_w]; rw [c11b0]) | skip)
        have H' := YL H
        clear H
        have q12_0 : w9.cell? ⟨gb276, 0, none⟩ = some (.int .i64 a0_0) := (YI BK276.out 0).trans rfl
        have q12_1 : w9.cell? ⟨gb276, 1, none⟩ = some (.int .i64 a0_1) := (YI BK276.out 1).trans rfl
        have q12_2 : w9.cell? ⟨gb276, 2, none⟩ = some (.bool a0_2) := (YI BK276.out 2).trans rfl
        have q12_3 : w9.cell? ⟨gb276, 3, none⟩ = some (.int .i64 a0_3) := (YI BK276.out 3).trans rfl
        have q12_4 : w9.cell? ⟨gb276, 4, none⟩ = some (.int .i64 a0_4) := (YI BK276.out 4).trans rfl
        have q12_5 : w9.cell? ⟨gb276, 5, none⟩ = some (.int .i64 a0_5) := (YI BK276.out 5).trans rfl
        have q12_6 : w9.cell? ⟨gb276, 6, none⟩ = some (.int .i64 a0_6) := (YI BK276.out 6).trans rfl
        have q12_7 : w9.cell? ⟨gb276, 7, none⟩ = some (.int .i64 a0_7) := (YI BK276.out 7).trans rfl
        have q12_8 : w9.cell? ⟨gb276, 8, none⟩ = some (.int .i64 a0_8) := (YI BK276.out 8).trans rfl
        have q12_9 : w9.cell? ⟨gb276, 9, none⟩ = some (.int .i64 a0_9) := (YI BK276.out 9).trans rfl
        have q12_10 : w9.cell? ⟨gb276, 10, none⟩ = some (.int .i64 a0_10) := (YI BK276.out 10).trans rfl
        have q12_11 : w9.cell? ⟨gb276, 11, none⟩ = some (.int .i64 a0_11) := (YI BK276.out 11).trans rfl
        have f12_0 := YJ BK276.out 0
        have f12_1 := YJ BK276.out 1
        have f12_2 := YJ BK276.out 2
        have f12_3 := YJ BK276.out 3
        have f12_4 := YJ BK276.out 4
        have f12_5 := YJ BK276.out 5
        have f12_6 := YJ BK276.out 6
        have f12_7 := YJ BK276.out 7
        have f12_8 := YJ BK276.out 8
        have f12_9 := YJ BK276.out 9
        have f12_10 := YJ BK276.out 10
        have f12_11 := YJ BK276.out 11
        go_wp2
        go_meet
        case rel => exact ⟨_, (true), (by first | rfl | (simp; done) | (simp [*]; done)), H', ⟨by first | omega | exact Nat.le_refl _⟩, ⟨by (with_reducible repeat (first | apply YP | apply YQ | apply YR)); exact HO280.out⟩, ⟨by (with_reducible repeat (first | refine YF ?_ _ | refine YG ?_ | refine YH ?_ _)); exact BK276.out⟩, ⟨by repeat (first | (with_reducible first | exact HB.out | apply YA | apply YB | apply YC | refine below_set ?_ GE276.out) | exact HB.out)⟩⟩
      rw [if_neg c11] at H
      have c11b0 : (a0_0 == 2) = false := beq_eq_false_iff_ne.mpr c11
      have c11b1 : (a0_0 != 2) = true := bne_iff_ne.mpr c11
      (first | rw [c11b0] | (simp only [i64_w, i32_w]; rw [c11b0]) | skip)
      have H' := YL H
      clear H
      have q13_0 : w9.cell? ⟨gb276, 0, none⟩ = some (.int .i64 a0_0) := (YI BK276.out 0).trans rfl
      have q13_1 : w9.cell? ⟨gb276, 1, none⟩ = some (.int .i64 a0_1) := (YI BK276.out 1).trans rfl
      have q13_2 : w9.cell? ⟨gb276, 2, none⟩ = some (.bool a0_2) := (YI BK276.out 2).trans rfl
      have q13_3 : w9.cell? ⟨gb276, 3, none⟩ = some (.int .i64 a0_3) := (YI BK276.out 3).trans rfl
      have q13_4 : w9.cell? ⟨gb276, 4, none⟩ = some (.int .i64 a0_4) := (YI BK276.out 4).trans rfl
      have q13_5 : w9.cell? ⟨gb276, 5, none⟩ = some (.int .i64 a0_5) := (YI BK276.out 5).trans rfl
      have q13_6 : w9.cell? ⟨gb276, 6, none⟩ = some (.int .i64 a0_6) := (YI BK276.out 6).trans rfl
      have q13_7 : w9.cell? ⟨gb276, 7, none⟩ = some (.int .i64 a0_7) := (YI BK276.out 7).trans rfl
      have q13_8 : w9.cell? ⟨gb276, 8, none⟩ = some (.int .i64 a0_8) := (YI BK276.out 8).trans rfl
      have q13_9 : w9.cell? ⟨gb276, 9, none⟩ = some (.int .i64 a0_9) := (YI BK276.out 9).trans rfl
      have q13_10 : w9.cell? ⟨gb276, 10, none⟩ = some (.int .i64 a0_10) := (YI BK276.out 10).trans rfl
      have q13_11 : w9.cell? ⟨gb276, 11, none⟩ = some (.int .i64 a0_11) := (YI BK276.out 11).trans rfl
      have f13_0 := YJ BK276.out 0
      have f13_1 := YJ BK276.out 1
      have f13_2 := YJ BK276.out 2
      have f13_3 := YJ BK276.out 3
      have f13_4 := YJ BK276.out 4
      have f13_5 := YJ BK276.out 5
      have f13_6 := YJ BK276.out 6
      have f13_7 := YJ BK276.out 7
      have f13_8 := YJ BK276.out 8
      have f13_9 := YJ BK276.out 9
      have f13_10 := YJ BK276.out 10
      have f13_11 := YJ BK276.out 11
      go_wp2
      go_meet
      case rel => exact ⟨_, ((a0_0 == 4)), (by first | rfl | (simp; done) | (simp [*]; done)), H', ⟨by first | omega | exact Nat.le_refl _⟩, ⟨by (with_reducible repeat (first | apply YP | apply YQ | apply YR)); exact HO280.out⟩, ⟨by (with_reducible repeat (first | refine YF ?_ _ | refine YG ?_ | refine YH ?_ _)); exact BK276.out⟩, ⟨by repeat (first | (with_reducible first | exact HB.out | apply YA | apply YB | apply YC | refine below_set ?_ GE276.out) | exact HB.out)⟩⟩
    case rest =>
      clear HC4
      try clear c1; try clear c2
      try clear p2; try clear c3
      try clear c11; try clear c11b0
      try clear c11b1; try clear q12_0
      try clear q12_1; try clear q12_10
      try clear q12_11; try clear q12_2
      try clear q12_3; try clear q12_4
      try clear q12_5; try clear q12_6
      try clear q12_7; try clear q12_8
      try clear q12_9; try clear q13_0
      try clear q13_1; try clear q13_10
      try clear q13_11; try clear q13_2
      try clear q13_3; try clear q13_4
      try clear q13_5; try clear q13_6
      try clear q13_7; try clear q13_8
      try clear q13_9; try clear q6_0
      try clear q6_1; try clear q6_10
      try clear q6_11; try clear q6_2
      try clear q6_3; try clear q6_4
      try clear q6_5; try clear q6_6
      try clear q6_7; try clear q6_8
      try clear q6_9; try clear q8_0
      try clear q8_1; try clear q8_10
      try clear q8_11; try clear q8_2
      try clear q8_3; try clear q8_4
      try clear q8_5; try clear q8_6
      try clear q8_7; try clear q8_8
      try clear q8_9; try clear f12_0
      try clear f12_1; try clear f12_10
      try clear f12_11; try clear f12_2
      try clear f12_3; try clear f12_4
      try clear f12_5; try clear f12_6
      try clear f12_7; try clear f12_8
      try clear f12_9; try clear f13_0
      try clear f13_1; try clear f13_10
      try clear f13_11; try clear f13_2
      try clear f13_3; try clear f13_4
      try clear f13_5; try clear f13_6
      try clear f13_7; try clear f13_8
      try clear f13_9; try clear f6_0
      try clear f6_1; try clear f6_10
      try clear f6_11; try clear f6_2
      try clear f6_3; try clear f6_4
      try clear f6_5; try clear f6_6
      try clear f6_7; try clear f6_8
      try clear f6_9; try clear f8_0
      try clear f8_1; try clear f8_10
      try clear f8_11; try clear f8_2
      try clear f8_3; try clear f8_4
      try clear f8_5; try clear f8_6
      try clear f8_7; try clear f8_8; try clear f8_9
      obtain ⟨kq, x24_3, rfl, HA, HJ3, HO_4, BK276, HB⟩ := hcut
      cases kq with
      | zero => exact absurd HA.out (by simp [thalwegref04_Bytes.j0])
      | succ kj3 =>
        have H := HA.out
        clear HA
        simp only [thalwegref04_Bytes.j0] at H
        have HC14 := YL H; clear H
        go_upto_if 24 with (fail)
        go_cut [4] (fun v4 wc => ∃ (kq : Nat) (x4_13 : List Int), Aside0 (thalwegref04_Bytes.j1 kq x4_13 a0_0 a0_1 a0_2 a0_3 a0_4 a0_5 a0_6 a0_7 a0_8 a0_9 a0_10 a0_11 = some (r1, r2)) ∧ Aside0 (kq ≤ kj3) ∧ Aside0 (Kd.R (Kd.int .u8) 5 wc w.heap.size (fun _ => True) v4 x4_13) ∧ Aside0 (wc.heap[gb276]? = some (.cells #[.int .i64 a0_0, .int .i64 a0_1, .bool a0_2, .int .i64 a0_3, .int .i64 a0_4, .int .i64 a0_5, .int .i64 a0_6, .int .i64 a0_7, .int .i64 a0_8, .int .i64 a0_9, .int .i64 a0_10, .int .i64 a0_11] 45 (0, 0))) ∧ Aside0 (Below w.heap.size w wc))
        case first =>
          have H := HC14.out
          clear HC14
          by_cases c15 : x24_3 = true
          · subst c15
            have H1 : ((thalwegref02_Bytes.f kj3 a0_2 a0_3 a0_4 a0_5 a0_6 a0_7).bind fun bt281 => (if y278.length + bt281.1.length < 140737488355328 then (thalwegref04_Bytes.j1 kj3 (y278 ++ bt281.1) a0_0 a0_1 a0_2 a0_3 a0_4 a0_5 a0_6 a0_7 a0_8 a0_9 a0_10 a0_11) else (none))) = some (r1, r2) := by rw [if_pos rfl] at H; exact H
            clear H
            have H := H1
            clear H1; replace H := Option.bind_eq_some_iff.mp H
            obtain ⟨⟨t281, t284⟩, A160, H⟩ := H
            replace H : (if y278.length + t281.length < 140737488355328 then (thalwegref04_Bytes.j1 kj3 (y278 ++ t281) a0_0 a0_1 a0_2 a0_3 a0_4 a0_5 a0_6 a0_7 a0_8 a0_9 a0_10 a0_11) else (none)) = some (r1, r2) := H
            have A16 := YL A160; clear A160
            by_cases c17 : y278.length + t281.length < 140737488355328
            rotate_left
            · rw [if_neg c17] at H
              exact absurd H (by simp)
            rw [if_pos c17] at H; have LMc17 := YL c17; clear c17
            obtain ⟨y285, hy285⟩ : ∃ y_ : List Int, y_ = (y278 ++ t281) := ⟨_, rfl⟩
            replace H : (thalwegref04_Bytes.j1 kj3 y285 a0_0 a0_1 a0_2 a0_3 a0_4 a0_5 a0_6 a0_7 a0_8 a0_9 a0_10 a0_11) = some (r1, r2) := by first | (rw [hy285]; with_reducible exact H) | (have H2_ := (Option.bind_some _ _).symm.trans H; rw [hy285]; with_reducible exact H2_) | (have H2_ := (Option.bind_some _ _).symm.trans H; with_reducible exact H2_) | with_reducible exact H | (rw [hy285]; exact H) | exact H
            have Ny285 := YL hy285; clear hy285
            have H' := YL H
            clear H
            have q18_0 : wc.cell? ⟨gb276, 0, none⟩ = some (.int .i64 a0_0) := (YI BK276.out 0).trans rfl
            have q18_1 : wc.cell? ⟨gb276, 1, none⟩ = some (.int .i64 a0_1) := (YI BK276.out 1).trans rfl
            have q18_2 : wc.cell? ⟨gb276, 2, none⟩ = some (.bool a0_2) := (YI BK276.out 2).trans rfl
            have q18_3 : wc.cell? ⟨gb276, 3, none⟩ = some (.int .i64 a0_3) := (YI BK276.out 3).trans rfl
            have q18_4 : wc.cell? ⟨gb276, 4, none⟩ = some (.int .i64 a0_4) := (YI BK276.out 4).trans rfl
            have q18_5 : wc.cell? ⟨gb276, 5, none⟩ = some (.int .i64 a0_5) := (YI BK276.out 5).trans rfl
            have q18_6 : wc.cell? ⟨gb276, 6, none⟩ = some (.int .i64 a0_6) := (YI BK276.out 6).trans rfl
            have q18_7 : wc.cell? ⟨gb276, 7, none⟩ = some (.int .i64 a0_7) := (YI BK276.out 7).trans rfl
            have q18_8 : wc.cell? ⟨gb276, 8, none⟩ = some (.int .i64 a0_8) := (YI BK276.out 8).trans rfl
            have q18_9 : wc.cell? ⟨gb276, 9, none⟩ = some (.int .i64 a0_9) := (YI BK276.out 9).trans rfl
            have q18_10 : wc.cell? ⟨gb276, 10, none⟩ = some (.int .i64 a0_10) := (YI BK276.out 10).trans rfl
            have q18_11 : wc.cell? ⟨gb276, 11, none⟩ = some (.int .i64 a0_11) := (YI BK276.out 11).trans rfl
            have f18_0 := YJ BK276.out 0
            have f18_1 := YJ BK276.out 1
            have f18_2 := YJ BK276.out 2
            have f18_3 := YJ BK276.out 3
            have f18_4 := YJ BK276.out 4
            have f18_5 := YJ BK276.out 5
            have f18_6 := YJ BK276.out 6
            have f18_7 := YJ BK276.out 7
            have f18_8 := YJ BK276.out 8
            have f18_9 := YJ BK276.out 9
            have f18_10 := YJ BK276.out 10
            have f18_11 := YJ BK276.out 11
            go_wp2_with (first | ((with_reducible refine gate_callee (f := 38) rfl ?_); refine goesL_ (some 28) rfl rfl Try.func38 (by kernel_rfl) rfl #[.agg #[.bool a0_2, .int .i64 a0_3, .int .i64 a0_4, .int .i64 a0_5, .int .i64 a0_6, .int .i64 a0_7]] rfl (by (try simp only [YM, List.map_cons, List.map_nil]); first | done | rfl | (simp only [YO, YN]; rfl)) ?_; (with_reducible refine (thalwegref02_Bytes.calls kj3 a0_2 a0_3 a0_4 a0_5 a0_6 a0_7 t281 t284 _ A16.out).mono ?_); rintro e w19 ⟨v282, rfl, ho0, hb⟩; refine ⟨_, rfl, ?_⟩; have n0_ := YL (Kd.R_elder' (by (with_reducible repeat (first | apply YP | apply YQ | apply YR)); exact HO_4.out) (Kd.R_base ho0) hb); have n1_ := YL (Kd.R_lower (Kd.R_new' ho0 (Kd.R_lt (by (with_reducible repeat (first | apply YP | apply YQ | apply YR)); exact HO_4.out))) (YE (by repeat (first | (with_reducible first | exact HB.out | apply YA | apply YB | apply YC | refine below_set ?_ GE276.out) | exact HB.out)))); have n2_ := YL (YK (g := gb276) (o := .cells #[.int .i64 a0_0, .int .i64 a0_1, .bool a0_2, .int .i64 a0_3, .int .i64 a0_4, .int .i64 a0_5, .int .i64 a0_6, .int .i64 a0_7, .int .i64 a0_8, .int .i64 a0_9, .int .i64 a0_10, .int .i64 a0_11] 45 (0, 0)) (by (with_reducible repeat (first | refine YF ?_ _ | refine YG ?_ | refine YH ?_ _)); exact BK276.out) hb); have n3_ := YL (YD (by repeat (first | (with_reducible first | exact HB.out | apply YA | apply YB | apply YC | refine below_set ?_ GE276.out) | exact HB.out)) hb); clear HO_4; clear BK276; clear HB; have HO_4 := n0_; have HO283 := n1_; have BK276 := n2_; have HB := n3_; clear n0_ n1_ n2_ n3_; (try clear hb); (try clear hb2); (try clear hk); (try clear hi); (try clear ho0); obtain ⟨Ao21, co21, eo21⟩ := Kd.R_slice HO283.out; subst eo21) | ((with_reducible refine gate_builtin (b := .append) (xs := #[.tmp 31, .tmp 32]) rfl ?_); at_builtin; refine Kd.R_append_rows (Kd.int .u8) (w0 := w) w.heap.size rfl (.tmp 31) (.tmp 32) 26 5 (.int .u8 0) 1 rfl Try.underlying26 info5 rfl (by decide) (by omega) v279 y278 t281 _ _ _ (fun k_ => some k_ ≠ (.slice Ao21 t281.length co21 : Value).ownBlock) (fun _ => False) rfl rfl ?aO ?aR (fun _ _ h => h) (fun _ h => h.elim) ?aF ?aB ?aS ?aL ?_; (case aR => repeat (first | exact (Kd.R_reads' HO283.out).2.2 | (with_reducible refine Kd.C_alloc ?_ _) | (with_reducible refine Kd.C_drewN ?_ _) | (with_reducible refine Kd.C_drew ?_))); (case aB => exact (by repeat (first | (with_reducible first | exact HB.out | apply YA | apply YB | apply YC | refine below_set ?_ GE276.out) | exact HB.out))); (case aF => exact (fun k_ hk => Kd.fresh' (Kd.R_lt (by (with_reducible repeat (first | apply YP | apply YQ | apply YR)); exact HO283.out)) k_ hk)); (case aO => exact (by (with_reducible repeat (first | apply YP | apply YQ | apply YR)); exact Kd.R_mono HO_4.out (fun _ hk => by first | exact hk.2 | exact trivial | (simp [hk]; done) | simp_all))); (case aS => exact (YE (by repeat (first | (with_reducible first | exact HB.out | apply YA | apply YB | apply YC | refine below_set ?_ GE276.out) | exact HB.out)))); (case aL => have := LMc17.out; omega); intro v286 w20 ho hb hg hat; rw [← Ny285.out] at ho; have n0_ := YL (blk_grown (g := gb276) (o := .cells #[.int .i64 a0_0, .int .i64 a0_1, .bool a0_2, .int .i64 a0_3, .int .i64 a0_4, .int .i64 a0_5, .int .i64 a0_6, .int .i64 a0_7, .int .i64 a0_8, .int .i64 a0_9, .int .i64 a0_10, .int .i64 a0_11] 45 (0, 0)) (by (with_reducible repeat (first | refine YF ?_ _ | refine YG ?_ | refine YH ?_ _)); exact BK276.out) hg (Kd.R_ne HO_4.out BK276.out (by decide))); have n1_ := YL (Kd.R_after (ok := (fun _ => True)) (by (with_reducible repeat (first | apply YP | apply YQ | apply YR)); exact HO283.out) hg hat); have n2_ := YL (hb); have n3_ := YL (ho); clear BK276; clear HO283; clear HB; clear HO_4; have BK276 := n0_; have HO283 := n1_; have HB := n2_; have HO287 := n3_; clear n0_ n1_ n2_ n3_; clear ho hb hg hat))
            go_meet
            case rel => exact ⟨_, (y285), H', ⟨by have := HJ3.out; first | omega | exact Nat.le_refl _⟩, ⟨by (with_reducible repeat (first | apply YP | apply YQ | apply YR)); exact Kd.R_mono HO287.out (fun _ hk => trivial)⟩, ⟨by (with_reducible repeat (first | refine YF ?_ _ | refine YG ?_ | refine YH ?_ _)); exact BK276.out⟩, ⟨by repeat (first | (with_reducible first | exact HB.out | apply YA | apply YB | apply YC | refine below_set ?_ GE276.out) | exact HB.out)⟩⟩
          replace c15 := Bool.eq_false_iff.mpr c15
          subst c15
          have H1 : (thalwegref04_Bytes.j1 kj3 y278 a0_0 a0_1 a0_2 a0_3 a0_4 a0_5 a0_6 a0_7 a0_8 a0_9 a0_10 a0_11) = some (r1, r2) := by rw [if_neg (show ¬ (false = true) by decide)] at H; exact H
          clear H
          have H := H1
          clear H1
          have H' := YL H
          clear H
          go_wp2
          go_meet
          case rel => exact ⟨_, (y278), H', ⟨by have := HJ3.out; first | omega | exact Nat.le_refl _⟩, ⟨by (with_reducible repeat (first | apply YP | apply YQ | apply YR)); exact HO_4.out⟩, ⟨by (with_reducible repeat (first | refine YF ?_ _ | refine YG ?_ | refine YH ?_ _)); exact BK276.out⟩, ⟨by repeat (first | (with_reducible first | exact HB.out | apply YA | apply YB | apply YC | refine below_set ?_ GE276.out) | exact HB.out)⟩⟩
        case rest =>
          clear HC14
          try clear c1; try clear c2
          try clear p2; try clear c3
          try clear c11; try clear c11b0
          try clear c11b1; try clear c15
          try clear c17; try clear q12_0
          try clear q12_1; try clear q12_10
          try clear q12_11; try clear q12_2
          try clear q12_3; try clear q12_4
          try clear q12_5; try clear q12_6
          try clear q12_7; try clear q12_8
          try clear q12_9; try clear q13_0
          try clear q13_1; try clear q13_10
          try clear q13_11; try clear q13_2
          try clear q13_3; try clear q13_4
          try clear q13_5; try clear q13_6
          try clear q13_7; try clear q13_8
          try clear q13_9; try clear q18_0
          try clear q18_1; try clear q18_10
          try clear q18_11; try clear q18_2
          try clear q18_3; try clear q18_4
          try clear q18_5; try clear q18_6
          try clear q18_7; try clear q18_8
          try clear q18_9; try clear q6_0
          try clear q6_1; try clear q6_10
          try clear q6_11; try clear q6_2
          try clear q6_3; try clear q6_4
          try clear q6_5; try clear q6_6
          try clear q6_7; try clear q6_8
          try clear q6_9; try clear q8_0
          try clear q8_1; try clear q8_10
          try clear q8_11; try clear q8_2
          try clear q8_3; try clear q8_4
          try clear q8_5; try clear q8_6
          try clear q8_7; try clear q8_8
          try clear q8_9; try clear f12_0
          try clear f12_1; try clear f12_10
          try clear f12_11; try clear f12_2
          try clear f12_3; try clear f12_4
          try clear f12_5; try clear f12_6
          try clear f12_7; try clear f12_8
          try clear f12_9; try clear f13_0
          try clear f13_1; try clear f13_10
          try clear f13_11; try clear f13_2
          try clear f13_3; try clear f13_4
          try clear f13_5; try clear f13_6
          try clear f13_7; try clear f13_8
          try clear f13_9; try clear f18_0
          try clear f18_1; try clear f18_10
          try clear f18_11; try clear f18_2
          try clear f18_3; try clear f18_4
          try clear f18_5; try clear f18_6
          try clear f18_7; try clear f18_8
          try clear f18_9; try clear f6_0
          try clear f6_1; try clear f6_10
          try clear f6_11; try clear f6_2
          try clear f6_3; try clear f6_4
          try clear f6_5; try clear f6_6
          try clear f6_7; try clear f6_8
          try clear f6_9; try clear f8_0
          try clear f8_1; try clear f8_10
          try clear f8_11; try clear f8_2
          try clear f8_3; try clear f8_4
          try clear f8_5; try clear f8_6
          try clear f8_7; try clear f8_8
          try clear f8_9; try clear p2
          obtain ⟨kq, x4_13, HA, HJ13, HO_4, BK276, HB⟩ := hcut
          cases kq with
          | zero => exact absurd HA.out (by simp [thalwegref04_Bytes.j1])
          | succ kj13 =>
            have H := HA.out
            clear HA
            simp only [thalwegref04_Bytes.j1] at H
            by_cases c22 : a0_0 = 3
            · rw [if_pos c22] at H
              have c22b0 : (a0_0 == 3) = true := beq_iff_eq.mpr c22
              have c22b1 : (a0_0 != 3) = false := bne_eq_false_iff_eq.mpr c22
              clear c22; replace H := Option.bind_eq_some_iff.mp H; obtain ⟨t288, A230, H⟩ := H
              replace H : (if x4_13.length + t288.length < 140737488355328 then ((some (x4_13 ++ t288 : List Int)).bind fun y291 => ((some (([(a0_9) % 256, (a0_10) % 256] : List Int) : List Int)).bind fun y294 => (if y291.length + y294.length < 140737488355328 then (if a0_0 = 4 then (none) else (some ((y291 ++ y294), 0))) else (none)))) else (none)) = some (r1, r2) := H
              have A23 := YL A230; clear A230
              by_cases c24 : x4_13.length + t288.length < 140737488355328
              rotate_left
              · rw [if_neg c24] at H
                exact absurd H (by simp)
              rw [if_pos c24] at H; have LMc24 := YL c24; clear c24
              obtain ⟨y291, hy291⟩ : ∃ y_ : List Int, y_ = (x4_13 ++ t288) := ⟨_, rfl⟩
              replace H : ((some (([(a0_9) % 256, (a0_10) % 256] : List Int) : List Int)).bind fun y294 => (if y291.length + y294.length < 140737488355328 then (if a0_0 = 4 then (none) else (some ((y291 ++ y294), 0))) else (none))) = some (r1, r2) := by first | (rw [hy291]; with_reducible exact H) | (have H2_ := (Option.bind_some _ _).symm.trans H; rw [hy291]; with_reducible exact H2_) | (have H2_ := (Option.bind_some _ _).symm.trans H; with_reducible exact H2_) | with_reducible exact H | (rw [hy291]; exact H) | exact H
              have Ny291 := YL hy291; clear hy291
              obtain ⟨y294, hy294⟩ : ∃ y_ : List Int, y_ = (([(a0_9) % 256, (a0_10) % 256] : List Int)) := ⟨_, rfl⟩
              replace H : (if y291.length + y294.length < 140737488355328 then (if a0_0 = 4 then (none) else (some ((y291 ++ y294), 0))) else (none)) = some (r1, r2) := by first | (rw [hy294]; with_reducible exact H) | (have H2_ := (Option.bind_some _ _).symm.trans H; rw [hy294]; with_reducible exact H2_) | (have H2_ := (Option.bind_some _ _).symm.trans H; with_reducible exact H2_) | with_reducible exact H | (rw [hy294]; exact H) | exact H
              have Ny294 := YL hy294; clear hy294
              by_cases c25 : y291.length + y294.length < 140737488355328
              rotate_left
              · rw [if_neg c25] at H
                exact absurd H (by simp)
              rw [if_pos c25] at H; have LMc25 := YL c25; clear c25
              obtain ⟨y297, hy297⟩ : ∃ y_ : List Int, y_ = (y291 ++ y294) := ⟨_, rfl⟩
              replace H : (if a0_0 = 4 then (none) else (some (y297, 0))) = some (r1, r2) := by first | (rw [hy297]; with_reducible exact H) | (have H2_ := (Option.bind_some _ _).symm.trans H; rw [hy297]; with_reducible exact H2_) | (have H2_ := (Option.bind_some _ _).symm.trans H; with_reducible exact H2_) | with_reducible exact H | (rw [hy297]; exact H) | exact H
              have Ny297 := YL hy297; clear hy297
              by_cases c26 : a0_0 = 4
              · rw [if_pos c26] at H
                exact absurd H (by simp)
              rw [if_neg c26] at H
              have c26b0 : (a0_0 == 4) = false := beq_eq_false_iff_ne.mpr c26
              have c26b1 : (a0_0 != 4) = true := bne_iff_ne.mpr c26
              simp only [Option.some.injEq, Prod.mk.injEq] at H
              obtain ⟨rfl, rfl⟩ := H
              have q27_0 : wc.cell? ⟨gb276, 0, none⟩ = some (.int .i64 a0_0) := (YI BK276.out 0).trans rfl
              have q27_1 : wc.cell? ⟨gb276, 1, none⟩ = some (.int .i64 a0_1) := (YI BK276.out 1).trans rfl
              have q27_2 : wc.cell? ⟨gb276, 2, none⟩ = some (.bool a0_2) := (YI BK276.out 2).trans rfl
              have q27_3 : wc.cell? ⟨gb276, 3, none⟩ = some (.int .i64 a0_3) := (YI BK276.out 3).trans rfl
              have q27_4 : wc.cell? ⟨gb276, 4, none⟩ = some (.int .i64 a0_4) := (YI BK276.out 4).trans rfl
              have q27_5 : wc.cell? ⟨gb276, 5, none⟩ = some (.int .i64 a0_5) := (YI BK276.out 5).trans rfl
              have q27_6 : wc.cell? ⟨gb276, 6, none⟩ = some (.int .i64 a0_6) := (YI BK276.out 6).trans rfl
              have q27_7 : wc.cell? ⟨gb276, 7, none⟩ = some (.int .i64 a0_7) := (YI BK276.out 7).trans rfl
              have q27_8 : wc.cell? ⟨gb276, 8, none⟩ = some (.int .i64 a0_8) := (YI BK276.out 8).trans rfl
              have q27_9 : wc.cell? ⟨gb276, 9, none⟩ = some (.int .i64 a0_9) := (YI BK276.out 9).trans rfl
              have q27_10 : wc.cell? ⟨gb276, 10, none⟩ = some (.int .i64 a0_10) := (YI BK276.out 10).trans rfl
              have q27_11 : wc.cell? ⟨gb276, 11, none⟩ = some (.int .i64 a0_11) := (YI BK276.out 11).trans rfl
              have f27_0 := YJ BK276.out 0
              have f27_1 := YJ BK276.out 1
              have f27_2 := YJ BK276.out 2
              have f27_3 := YJ BK276.out 3
              have f27_4 := YJ BK276.out 4
              have f27_5 := YJ BK276.out 5
              have f27_6 := YJ BK276.out 6
              have f27_7 := YJ BK276.out 7
              have f27_8 := YJ BK276.out 8
              have f27_9 := YJ BK276.out 9
              have f27_10 := YJ BK276.out 10
              have f27_11 := YJ BK276.out 11
              go_wp2_with (first | ((with_reducible refine gate_callee (f := 39) rfl ?_); refine goesL_ (some 41) rfl rfl Try.func39 (by kernel_rfl) rfl #[.int .i64 a0_8] rfl (by (try simp only [YM, List.map_cons, List.map_nil]); first | done | rfl | (simp only [YO, YN]; rfl)) ?_; (with_reducible refine (thalwegref01_Int.calls kj13 a0_8 t288 _ A23.out).mono ?_); rintro e w28 ⟨v289, rfl, ho0, hb⟩; refine ⟨_, rfl, ?_⟩; have n0_ := YL (Kd.R_elder' (by (with_reducible repeat (first | apply YP | apply YQ | apply YR)); exact HO_4.out) (Kd.R_base ho0) hb); have n1_ := YL (Kd.R_lower (Kd.R_new' ho0 (Kd.R_lt (by (with_reducible repeat (first | apply YP | apply YQ | apply YR)); exact HO_4.out))) (YE (by repeat (first | (with_reducible first | exact HB.out | apply YA | apply YB | apply YC | refine below_set ?_ GE276.out) | exact HB.out)))); have n2_ := YL (YK (g := gb276) (o := .cells #[.int .i64 a0_0, .int .i64 a0_1, .bool a0_2, .int .i64 a0_3, .int .i64 a0_4, .int .i64 a0_5, .int .i64 a0_6, .int .i64 a0_7, .int .i64 a0_8, .int .i64 a0_9, .int .i64 a0_10, .int .i64 a0_11] 45 (0, 0)) (by (with_reducible repeat (first | refine YF ?_ _ | refine YG ?_ | refine YH ?_ _)); exact BK276.out) hb); have n3_ := YL (YD (by repeat (first | (with_reducible first | exact HB.out | apply YA | apply YB | apply YC | refine below_set ?_ GE276.out) | exact HB.out)) hb); clear HO_4; clear BK276; clear HB; have HO_4 := n0_; have HO290 := n1_; have BK276 := n2_; have HB := n3_; clear n0_ n1_ n2_ n3_; (try clear hb); (try clear hb2); (try clear hk); (try clear hi); (try clear ho0); obtain ⟨Ao30, co30, eo30⟩ := Kd.R_slice HO290.out; subst eo30) | ((with_reducible refine gate_builtin (b := .append) (xs := #[.tmp 37, .tmp 41]) rfl ?_); at_builtin; refine Kd.R_append_rows (Kd.int .u8) (w0 := w) w.heap.size rfl (.tmp 37) (.tmp 41) 26 5 (.int .u8 0) 1 rfl Try.underlying26 info5 rfl (by decide) (by omega) u4 x4_13 t288 _ _ _ (fun k_ => some k_ ≠ (.slice Ao30 t288.length co30 : Value).ownBlock) (fun _ => False) rfl rfl ?aO ?aR (fun _ _ h => h) (fun _ h => h.elim) ?aF ?aB ?aS ?aL ?_; (case aR => repeat (first | exact (Kd.R_reads' HO290.out).2.2 | (with_reducible refine Kd.C_alloc ?_ _) | (with_reducible refine Kd.C_drewN ?_ _) | (with_reducible refine Kd.C_drew ?_))); (case aB => exact (by repeat (first | (with_reducible first | exact HB.out | apply YA | apply YB | apply YC | refine below_set ?_ GE276.out) | exact HB.out))); (case aF => exact (fun k_ hk => Kd.fresh' (Kd.R_lt (by (with_reducible repeat (first | apply YP | apply YQ | apply YR)); exact HO290.out)) k_ hk)); (case aO => exact (by (with_reducible repeat (first | apply YP | apply YQ | apply YR)); exact Kd.R_mono HO_4.out (fun _ hk => by first | exact hk.2 | exact trivial | (simp [hk]; done) | simp_all))); (case aS => exact (YE (by repeat (first | (with_reducible first | exact HB.out | apply YA | apply YB | apply YC | refine below_set ?_ GE276.out) | exact HB.out)))); (case aL => have := LMc24.out; omega); intro v292 w29 ho hb hg hat; rw [← Ny291.out] at ho; have n0_ := YL (blk_grown (g := gb276) (o := .cells #[.int .i64 a0_0, .int .i64 a0_1, .bool a0_2, .int .i64 a0_3, .int .i64 a0_4, .int .i64 a0_5, .int .i64 a0_6, .int .i64 a0_7, .int .i64 a0_8, .int .i64 a0_9, .int .i64 a0_10, .int .i64 a0_11] 45 (0, 0)) (by (with_reducible repeat (first | refine YF ?_ _ | refine YG ?_ | refine YH ?_ _)); exact BK276.out) hg (Kd.R_ne HO_4.out BK276.out (by decide))); have n1_ := YL (Kd.R_after (ok := (fun _ => True)) (by (with_reducible repeat (first | apply YP | apply YQ | apply YR)); exact HO290.out) hg hat); have n2_ := YL (hb); have n3_ := YL (ho); clear BK276; clear HO290; clear HB; clear HO_4; have BK276 := n0_; have HO290 := n1_; have HB := n2_; have HO293 := n3_; clear n0_ n1_ n2_ n3_; clear ho hb hg hat; have q31_0 : w29.cell? ⟨gb276, 0, none⟩ = some (.int .i64 a0_0) := (YI BK276.out 0).trans rfl; have q31_1 : w29.cell? ⟨gb276, 1, none⟩ = some (.int .i64 a0_1) := (YI BK276.out 1).trans rfl; have q31_2 : w29.cell? ⟨gb276, 2, none⟩ = some (.bool a0_2) := (YI BK276.out 2).trans rfl; have q31_3 : w29.cell? ⟨gb276, 3, none⟩ = some (.int .i64 a0_3) := (YI BK276.out 3).trans rfl; have q31_4 : w29.cell? ⟨gb276, 4, none⟩ = some (.int .i64 a0_4) := (YI BK276.out 4).trans rfl; have q31_5 : w29.cell? ⟨gb276, 5, none⟩ = some (.int .i64 a0_5) := (YI BK276.out 5).trans rfl; have q31_6 : w29.cell? ⟨gb276, 6, none⟩ = some (.int .i64 a0_6) := (YI BK276.out 6).trans rfl; have q31_7 : w29.cell? ⟨gb276, 7, none⟩ = some (.int .i64 a0_7) := (YI BK276.out 7).trans rfl; have q31_8 : w29.cell? ⟨gb276, 8, none⟩ = some (.int .i64 a0_8) := (YI BK276.out 8).trans rfl; have q31_9 : w29.cell? ⟨gb276, 9, none⟩ = some (.int .i64 a0_9) := (YI BK276.out 9).trans rfl; have q31_10 : w29.cell? ⟨gb276, 10, none⟩ = some (.int .i64 a0_10) := (YI BK276.out 10).trans rfl; have q31_11 : w29.cell? ⟨gb276, 11, none⟩ = some (.int .i64 a0_11) := (YI BK276.out 11).trans rfl; have f31_0 := YJ BK276.out 0; have f31_1 := YJ BK276.out 1; have f31_2 := YJ BK276.out 2; have f31_3 := YJ BK276.out 3; have f31_4 := YJ BK276.out 4; have f31_5 := YJ BK276.out 5; have f31_6 := YJ BK276.out 6; have f31_7 := YJ BK276.out 7; have f31_8 := YJ BK276.out 8; have f31_9 := YJ BK276.out 9; have f31_10 := YJ BK276.out 10; have f31_11 := YJ BK276.out 11) | ((with_reducible refine gate_dst (N := 52) rfl ?_); refine Kd.R_lit (Kd.int .u8) _ 5 ?hg (N := 52) ?hd (xs := ([(a0_9) % 256, (a0_10) % 256] : List Int)) (inner := [.int .u8 ((a0_9) % 256), .int .u8 ((a0_10) % 256)]) (ok := fun _ => True) (okp := fun _ => True) ?hr ?hp (fun _ hk => hk) trivial (Below.refl _ _) (Nat.le_refl _) (by simp) ?_; (case hd => rfl); (case hg => rfl); (case hr => first | (go_simp; done) | (go_simp; rfl)); (case hp => exact (Reps.one (show Kd.M (Kd.int .u8) _ _ _ ((a0_9) % 256) [.int .u8 ((a0_9) % 256)] from rfl) (Reps.one (show Kd.M (Kd.int .u8) _ _ _ ((a0_10) % 256) [.int .u8 ((a0_10) % 256)] from rfl) (Reps.none _ _)))); intro v295 w32 ho33 hb hg_ hnew_; clear hg_ hnew_; (first | rw [← Ny294.out] at ho33 | (simp only [Int.reduceToNat] at ho33; rw [← Ny294.out] at ho33)); have n0_ := YL (Kd.R_elder' (by (with_reducible repeat (first | apply YP | apply YQ | apply YR)); exact HO290.out) (Kd.R_base ho33) hb); have n1_ := YL (Kd.R_elder' (by (with_reducible repeat (first | apply YP | apply YQ | apply YR)); exact HO293.out) (Kd.R_base ho33) hb); have n2_ := YL (Kd.R_lower (Kd.R_new' (Kd.R_new' ho33 (Kd.R_lt (by (with_reducible repeat (first | apply YP | apply YQ | apply YR)); exact HO290.out))) (Kd.R_lt (by (with_reducible repeat (first | apply YP | apply YQ | apply YR)); exact HO293.out))) (YE (by repeat (first | (with_reducible first | exact HB.out | apply YA | apply YB | apply YC | refine below_set ?_ GE276.out) | exact HB.out)))); have n3_ := YL (YK (g := gb276) (o := .cells #[.int .i64 a0_0, .int .i64 a0_1, .bool a0_2, .int .i64 a0_3, .int .i64 a0_4, .int .i64 a0_5, .int .i64 a0_6, .int .i64 a0_7, .int .i64 a0_8, .int .i64 a0_9, .int .i64 a0_10, .int .i64 a0_11] 45 (0, 0)) (by (with_reducible repeat (first | refine YF ?_ _ | refine YG ?_ | refine YH ?_ _)); exact BK276.out) hb); have n4_ := YL (YD (by repeat (first | (with_reducible first | exact HB.out | apply YA | apply YB | apply YC | refine below_set ?_ GE276.out) | exact HB.out)) hb); clear HO290; clear HO293; clear BK276; clear HB; have HO290 := n0_; have HO293 := n1_; have HO296 := n2_; have BK276 := n3_; have HB := n4_; clear n0_ n1_ n2_ n3_ n4_; clear hb ho33; obtain ⟨Ao35, co35, eo35⟩ := Kd.R_slice HO296.out; subst eo35) | ((with_reducible refine gate_builtin (b := .append) (xs := #[.tmp 43, .tmp 52]) rfl ?_); at_builtin; refine Kd.R_append_rows (Kd.int .u8) (w0 := w) w.heap.size rfl (.tmp 43) (.tmp 52) 26 5 (.int .u8 0) 1 rfl Try.underlying26 info5 rfl (by decide) (by omega) v292 y291 y294 _ _ _ (fun k_ => some k_ ≠ (.slice Ao30 t288.length co30 : Value).ownBlock ∧ some k_ ≠ (.slice Ao35 y294.length co35 : Value).ownBlock) (fun _ => False) rfl rfl ?aO ?aR (fun _ _ h => h) (fun _ h => h.elim) ?aF ?aB ?aS ?aL ?_; (case aR => repeat (first | exact (Kd.R_reads' HO296.out).2.2 | (with_reducible refine Kd.C_alloc ?_ _) | (with_reducible refine Kd.C_drewN ?_ _) | (with_reducible refine Kd.C_drew ?_))); (case aB => exact (by repeat (first | (with_reducible first | exact HB.out | apply YA | apply YB | apply YC | refine below_set ?_ GE276.out) | exact HB.out))); (case aF => exact (fun k_ hk => ⟨Kd.fresh' (Kd.R_lt (by (with_reducible repeat (first | apply YP | apply YQ | apply YR)); exact HO290.out)) k_ hk, Kd.fresh' (Kd.R_lt (by (with_reducible repeat (first | apply YP | apply YQ | apply YR)); exact HO296.out)) k_ hk⟩)); (case aO => exact (by (with_reducible repeat (first | apply YP | apply YQ | apply YR)); exact HO293.out)); (case aS => exact (YE (by repeat (first | (with_reducible first | exact HB.out | apply YA | apply YB | apply YC | refine below_set ?_ GE276.out) | exact HB.out)))); (case aL => have := LMc25.out; omega); intro v298 w34 ho hb hg hat; rw [← Ny297.out] at ho; have n0_ := YL (blk_grown (g := gb276) (o := .cells #[.int .i64 a0_0, .int .i64 a0_1, .bool a0_2, .int .i64 a0_3, .int .i64 a0_4, .int .i64 a0_5, .int .i64 a0_6, .int .i64 a0_7, .int .i64 a0_8, .int .i64 a0_9, .int .i64 a0_10, .int .i64 a0_11] 45 (0, 0)) (by (with_reducible repeat (first | refine YF ?_ _ | refine YG ?_ | refine YH ?_ _)); exact BK276.out) hg (Kd.R_ne HO293.out BK276.out (by decide))); have n1_ := YL (Kd.R_after (ok := (fun k_ => some k_ ≠ (.slice Ao35 y294.length co35 : Value).ownBlock)) (by (with_reducible repeat (first | apply YP | apply YQ | apply YR)); exact Kd.R_mono HO290.out (fun _ hk => by first | exact ⟨hk.2, hk.1.2⟩ | exact trivial | (simp [hk]; done) | simp_all)) hg hat); have n2_ := YL (Kd.R_after (ok := (fun k_ => some k_ ≠ (.slice Ao30 t288.length co30 : Value).ownBlock)) (by (with_reducible repeat (first | apply YP | apply YQ | apply YR)); exact Kd.R_mono HO296.out (fun _ hk => by first | exact ⟨hk.1.2, hk.2⟩ | exact trivial | (simp [hk]; done) | simp_all)) hg hat); have n3_ := YL (hb); have n4_ := YL (ho); clear BK276; clear HO290; clear HO296; clear HB; clear HO293; have BK276 := n0_; have HO290 := n1_; have HO296 := n2_; have HB := n3_; have HO299 := n4_; clear n0_ n1_ n2_ n3_ n4_; clear ho hb hg hat; have q36_0 : w34.cell? ⟨gb276, 0, none⟩ = some (.int .i64 a0_0) := (YI BK276.out 0).trans rfl; have q36_1 : w34.cell? ⟨gb276, 1, none⟩ = some (.int .i64 a0_1) := (YI BK276.out 1).trans rfl; have q36_2 : w34.cell? ⟨gb276, 2, none⟩ = some (.bool a0_2) := (YI BK276.out 2).trans rfl; have q36_3 : w34.cell? ⟨gb276, 3, none⟩ = some (.int .i64 a0_3) := (YI BK276.out 3).trans rfl; have q36_4 : w34.cell? ⟨gb276, 4, none⟩ = some (.int .i64 a0_4) := (YI BK276.out 4).trans rfl; have q36_5 : w34.cell? ⟨gb276, 5, none⟩ = some (.int .i64 a0_5) := (YI BK276.out 5).trans rfl; have q36_6 : w34.cell? ⟨gb276, 6, none⟩ = some (.int .i64 a0_6) := (YI BK276.out 6).trans rfl; have q36_7 : w34.cell? ⟨gb276, 7, none⟩ = some (.int .i64 a0_7) := (YI BK276.out 7).trans rfl; have q36_8 : w34.cell? ⟨gb276, 8, none⟩ = some (.int .i64 a0_8) := (YI BK276.out 8).trans rfl; have q36_9 : w34.cell? ⟨gb276, 9, none⟩ = some (.int .i64 a0_9) := (YI BK276.out 9).trans rfl; have q36_10 : w34.cell? ⟨gb276, 10, none⟩ = some (.int .i64 a0_10) := (YI BK276.out 10).trans rfl; have q36_11 : w34.cell? ⟨gb276, 11, none⟩ = some (.int .i64 a0_11) := (YI BK276.out 11).trans rfl; have f36_0 := YJ BK276.out 0; have f36_1 := YJ BK276.out 1; have f36_2 := YJ BK276.out 2; have f36_3 := YJ BK276.out 3; have f36_4 := YJ BK276.out 4; have f36_5 := YJ BK276.out 5; have f36_6 := YJ BK276.out 6; have f36_7 := YJ BK276.out 7; have f36_8 := YJ BK276.out 8; have f36_9 := YJ BK276.out 9; have f36_10 := YJ BK276.out 10; have f36_11 := YJ BK276.out 11))
              go_ret2
              exact ⟨_, by first | rfl | (simp [errW_none, errW_some] <;> rfl) | (simp [*, errW_none, errW_some] <;> rfl), by (with_reducible repeat (first | apply YP | apply YQ | apply YR)); exact Kd.R_mono HO299.out (fun _ hk => trivial), by repeat (first | (with_reducible first | exact HB.out | apply YA | apply YB | apply YC | refine below_set ?_ GE276.out) | exact HB.out)⟩
            rw [if_neg c22] at H
            have c22b0 : (a0_0 == 3) = false := beq_eq_false_iff_ne.mpr c22
            have c22b1 : (a0_0 != 3) = true := bne_iff_ne.mpr c22
            by_cases c37 : a0_0 = 4
            · rw [if_pos c37] at H
              have c37b0 : (a0_0 == 4) = true := beq_iff_eq.mpr c37
              have c37b1 : (a0_0 != 4) = false := bne_eq_false_iff_eq.mpr c37
              clear c37
              obtain ⟨y300, hy300⟩ : ∃ y_ : List Int, y_ = (([(wrap64 (Int.tdiv a0_11 256)) % 256, (Int.tmod a0_11 256) % 256] : List Int)) := ⟨_, rfl⟩
              replace H : (if x4_13.length + y300.length < 140737488355328 then (some ((x4_13 ++ y300), 0)) else (none)) = some (r1, r2) := by first | (rw [hy300]; with_reducible exact H) | (have H2_ := (Option.bind_some _ _).symm.trans H; rw [hy300]; with_reducible exact H2_) | (have H2_ := (Option.bind_some _ _).symm.trans H; with_reducible exact H2_) | with_reducible exact H | (rw [hy300]; exact H) | exact H
              have Ny300 := YL hy300; clear hy300
              by_cases c38 : x4_13.length + y300.length < 140737488355328
              rotate_left
              · rw [if_neg c38] at H
                exact absurd H (by simp)
              rw [if_pos c38] at H; have LMc38 := YL c38; clear c38
              obtain ⟨y303, hy303⟩ : ∃ y_ : List Int, y_ = (x4_13 ++ y300) := ⟨_, rfl⟩
              replace H : (some (y303, 0)) = some (r1, r2) := by first | (rw [hy303]; with_reducible exact H) | (have H2_ := (Option.bind_some _ _).symm.trans H; rw [hy303]; with_reducible exact H2_) | (have H2_ := (Option.bind_some _ _).symm.trans H; with_reducible exact H2_) | with_reducible exact H | (rw [hy303]; exact H) | exact H
              have Ny303 := YL hy303; clear hy303
              simp only [Option.some.injEq, Prod.mk.injEq] at H
              obtain ⟨rfl, rfl⟩ := H
              have q39_0 : wc.cell? ⟨gb276, 0, none⟩ = some (.int .i64 a0_0) := (YI BK276.out 0).trans rfl
              have q39_1 : wc.cell? ⟨gb276, 1, none⟩ = some (.int .i64 a0_1) := (YI BK276.out 1).trans rfl
              have q39_2 : wc.cell? ⟨gb276, 2, none⟩ = some (.bool a0_2) := (YI BK276.out 2).trans rfl
              have q39_3 : wc.cell? ⟨gb276, 3, none⟩ = some (.int .i64 a0_3) := (YI BK276.out 3).trans rfl
              have q39_4 : wc.cell? ⟨gb276, 4, none⟩ = some (.int .i64 a0_4) := (YI BK276.out 4).trans rfl
              have q39_5 : wc.cell? ⟨gb276, 5, none⟩ = some (.int .i64 a0_5) := (YI BK276.out 5).trans rfl
              have q39_6 : wc.cell? ⟨gb276, 6, none⟩ = some (.int .i64 a0_6) := (YI BK276.out 6).trans rfl
              have q39_7 : wc.cell? ⟨gb276, 7, none⟩ = some (.int .i64 a0_7) := (YI BK276.out 7).trans rfl
              have q39_8 : wc.cell? ⟨gb276, 8, none⟩ = some (.int .i64 a0_8) := (YI BK276.out 8).trans rfl
              have q39_9 : wc.cell? ⟨gb276, 9, none⟩ = some (.int .i64 a0_9) := (YI BK276.out 9).trans rfl
              have q39_10 : wc.cell? ⟨gb276, 10, none⟩ = some (.int .i64 a0_10) := (YI BK276.out 10).trans rfl
              have q39_11 : wc.cell? ⟨gb276, 11, none⟩ = some (.int .i64 a0_11) := (YI BK276.out 11).trans rfl
              have f39_0 := YJ BK276.out 0
              have f39_1 := YJ BK276.out 1
              have f39_2 := YJ BK276.out 2
              have f39_3 := YJ BK276.out 3
              have f39_4 := YJ BK276.out 4
              have f39_5 := YJ BK276.out 5
              have f39_6 := YJ BK276.out 6
              have f39_7 := YJ BK276.out 7
              have f39_8 := YJ BK276.out 8
              have f39_9 := YJ BK276.out 9
              have f39_10 := YJ BK276.out 10
              have f39_11 := YJ BK276.out 11
              go_wp2_with (first | ((with_reducible refine gate_dst (N := 66) rfl ?_); refine Kd.R_lit (Kd.int .u8) _ 5 ?hg (N := 66) ?hd (xs := ([(wrap64 (Int.tdiv a0_11 256)) % 256, (Int.tmod a0_11 256) % 256] : List Int)) (inner := [.int .u8 ((wrap64 (Int.tdiv a0_11 256)) % 256), .int .u8 ((Int.tmod a0_11 256) % 256)]) (ok := fun _ => True) (okp := fun _ => True) ?hr ?hp (fun _ hk => hk) trivial (Below.refl _ _) (Nat.le_refl _) (by simp) ?_; (case hd => rfl); (case hg => rfl); (case hr => first | (go_simp; done) | (go_simp; rfl)); (case hp => exact (Reps.one (show Kd.M (Kd.int .u8) _ _ _ ((wrap64 (Int.tdiv a0_11 256)) % 256) [.int .u8 ((wrap64 (Int.tdiv a0_11 256)) % 256)] from rfl) (Reps.one (show Kd.M (Kd.int .u8) _ _ _ ((Int.tmod a0_11 256) % 256) [.int .u8 ((Int.tmod a0_11 256) % 256)] from rfl) (Reps.none _ _)))); intro v301 w40 ho41 hb hg_ hnew_; clear hg_ hnew_; (first | rw [← Ny300.out] at ho41 | (simp only [Int.reduceToNat] at ho41; rw [← Ny300.out] at ho41)); have n0_ := YL (Kd.R_elder' (by (with_reducible repeat (first | apply YP | apply YQ | apply YR)); exact HO_4.out) (Kd.R_base ho41) hb); have n1_ := YL (Kd.R_lower (Kd.R_new' ho41 (Kd.R_lt (by (with_reducible repeat (first | apply YP | apply YQ | apply YR)); exact HO_4.out))) (YE (by repeat (first | (with_reducible first | exact HB.out | apply YA | apply YB | apply YC | refine below_set ?_ GE276.out) | exact HB.out)))); have n2_ := YL (YK (g := gb276) (o := .cells #[.int .i64 a0_0, .int .i64 a0_1, .bool a0_2, .int .i64 a0_3, .int .i64 a0_4, .int .i64 a0_5, .int .i64 a0_6, .int .i64 a0_7, .int .i64 a0_8, .int .i64 a0_9, .int .i64 a0_10, .int .i64 a0_11] 45 (0, 0)) (by (with_reducible repeat (first | refine YF ?_ _ | refine YG ?_ | refine YH ?_ _)); exact BK276.out) hb); have n3_ := YL (YD (by repeat (first | (with_reducible first | exact HB.out | apply YA | apply YB | apply YC | refine below_set ?_ GE276.out) | exact HB.out)) hb); clear HO_4; clear BK276; clear HB; have HO_4 := n0_; have HO302 := n1_; have BK276 := n2_; have HB := n3_; clear n0_ n1_ n2_ n3_; clear hb ho41; obtain ⟨Ao43, co43, eo43⟩ := Kd.R_slice HO302.out; subst eo43) | ((with_reducible refine gate_builtin (b := .append) (xs := #[.tmp 57, .tmp 66]) rfl ?_); at_builtin; refine Kd.R_append_rows (Kd.int .u8) (w0 := w) w.heap.size rfl (.tmp 57) (.tmp 66) 26 5 (.int .u8 0) 1 rfl Try.underlying26 info5 rfl (by decide) (by omega) u4 x4_13 y300 _ _ _ (fun k_ => some k_ ≠ (.slice Ao43 y300.length co43 : Value).ownBlock) (fun _ => False) rfl rfl ?aO ?aR (fun _ _ h => h) (fun _ h => h.elim) ?aF ?aB ?aS ?aL ?_; (case aR => repeat (first | exact (Kd.R_reads' HO302.out).2.2 | (with_reducible refine Kd.C_alloc ?_ _) | (with_reducible refine Kd.C_drewN ?_ _) | (with_reducible refine Kd.C_drew ?_))); (case aB => exact (by repeat (first | (with_reducible first | exact HB.out | apply YA | apply YB | apply YC | refine below_set ?_ GE276.out) | exact HB.out))); (case aF => exact (fun k_ hk => Kd.fresh' (Kd.R_lt (by (with_reducible repeat (first | apply YP | apply YQ | apply YR)); exact HO302.out)) k_ hk)); (case aO => exact (by (with_reducible repeat (first | apply YP | apply YQ | apply YR)); exact Kd.R_mono HO_4.out (fun _ hk => by first | exact hk.2 | exact trivial | (simp [hk]; done) | simp_all))); (case aS => exact (YE (by repeat (first | (with_reducible first | exact HB.out | apply YA | apply YB | apply YC | refine below_set ?_ GE276.out) | exact HB.out)))); (case aL => have := LMc38.out; omega); intro v304 w42 ho hb hg hat; rw [← Ny303.out] at ho; have n0_ := YL (blk_grown (g := gb276) (o := .cells #[.int .i64 a0_0, .int .i64 a0_1, .bool a0_2, .int .i64 a0_3, .int .i64 a0_4, .int .i64 a0_5, .int .i64 a0_6, .int .i64 a0_7, .int .i64 a0_8, .int .i64 a0_9, .int .i64 a0_10, .int .i64 a0_11] 45 (0, 0)) (by (with_reducible repeat (first | refine YF ?_ _ | refine YG ?_ | refine YH ?_ _)); exact BK276.out) hg (Kd.R_ne HO_4.out BK276.out (by decide))); have n1_ := YL (Kd.R_after (ok := (fun _ => True)) (by (with_reducible repeat (first | apply YP | apply YQ | apply YR)); exact HO302.out) hg hat); have n2_ := YL (hb); have n3_ := YL (ho); clear BK276; clear HO302; clear HB; clear HO_4; have BK276 := n0_; have HO302 := n1_; have HB := n2_; have HO305 := n3_; clear n0_ n1_ n2_ n3_; clear ho hb hg hat))
              go_ret2
              exact ⟨_, by first | rfl | (simp [errW_none, errW_some] <;> rfl) | (simp [*, errW_none, errW_some] <;> rfl), by (with_reducible repeat (first | apply YP | apply YQ | apply YR)); exact Kd.R_mono HO305.out (fun _ hk => trivial), by repeat (first | (with_reducible first | exact HB.out | apply YA | apply YB | apply YC | refine below_set ?_ GE276.out) | exact HB.out)⟩
            rw [if_neg c37] at H
            have c37b0 : (a0_0 == 4) = false := beq_eq_false_iff_ne.mpr c37
            have c37b1 : (a0_0 != 4) = true := bne_iff_ne.mpr c37
            simp only [Option.some.injEq, Prod.mk.injEq] at H
            obtain ⟨rfl, rfl⟩ := H
            have q44_0 : wc.cell? ⟨gb276, 0, none⟩ = some (.int .i64 a0_0) := (YI BK276.out 0).trans rfl
            have q44_1 : wc.cell? ⟨gb276, 1, none⟩ = some (.int .i64 a0_1) := (YI BK276.out 1).trans rfl
            have q44_2 : wc.cell? ⟨gb276, 2, none⟩ = some (.bool a0_2) := (YI BK276.out 2).trans rfl
            have q44_3 : wc.cell? ⟨gb276, 3, none⟩ = some (.int .i64 a0_3) := (YI BK276.out 3).trans rfl
            have q44_4 : wc.cell? ⟨gb276, 4, none⟩ = some (.int .i64 a0_4) := (YI BK276.out 4).trans rfl
            have q44_5 : wc.cell? ⟨gb276, 5, none⟩ = some (.int .i64 a0_5) := (YI BK276.out 5).trans rfl
            have q44_6 : wc.cell? ⟨gb276, 6, none⟩ = some (.int .i64 a0_6) := (YI BK276.out 6).trans rfl
            have q44_7 : wc.cell? ⟨gb276, 7, none⟩ = some (.int .i64 a0_7) := (YI BK276.out 7).trans rfl
            have q44_8 : wc.cell? ⟨gb276, 8, none⟩ = some (.int .i64 a0_8) := (YI BK276.out 8).trans rfl
            have q44_9 : wc.cell? ⟨gb276, 9, none⟩ = some (.int .i64 a0_9) := (YI BK276.out 9).trans rfl
            have q44_10 : wc.cell? ⟨gb276, 10, none⟩ = some (.int .i64 a0_10) := (YI BK276.out 10).trans rfl
            have q44_11 : wc.cell? ⟨gb276, 11, none⟩ = some (.int .i64 a0_11) := (YI BK276.out 11).trans rfl
            have f44_0 := YJ BK276.out 0
            have f44_1 := YJ BK276.out 1
            have f44_2 := YJ BK276.out 2
            have f44_3 := YJ BK276.out 3
            have f44_4 := YJ BK276.out 4
            have f44_5 := YJ BK276.out 5
            have f44_6 := YJ BK276.out 6
            have f44_7 := YJ BK276.out 7
            have f44_8 := YJ BK276.out 8
            have f44_9 := YJ BK276.out 9
            have f44_10 := YJ BK276.out 10
            have f44_11 := YJ BK276.out 11
            go_wp2
            go_ret2
            exact ⟨_, by first | rfl | (simp [errW_none, errW_some] <;> rfl) | (simp [*, errW_none, errW_some] <;> rfl), by (with_reducible repeat (first | apply YP | apply YQ | apply YR)); exact HO_4.out, by repeat (first | (with_reducible first | exact HB.out | apply YA | apply YB | apply YC | refine below_set ?_ GE276.out) | exact HB.out)⟩
  replace c3 := Bool.eq_false_iff.mpr c3
  subst c3
  have H1 : (some (([] : List Int), 1)) = some (r1, r2) := by rw [if_neg (show ¬ (false = true) by decide)] at H; exact H
  clear H
  have H := H1
  clear H1
  simp only [Option.some.injEq, Prod.mk.injEq] at H
  obtain ⟨rfl, rfl⟩ := H
  go_enter Try.func24, Try.ntmps24
  go_wp2_with (first | ((with_reducible refine gate_dst (N := 1) rfl ?_); refine box_event ?hg (N := 1) ?hd (cs := #[.int .i64 a0_0, .int .i64 a0_1, .bool a0_2, .int .i64 a0_3, .int .i64 a0_4, .int .i64 a0_5, .int .i64 a0_6, .int .i64 a0_7, .int .i64 a0_8, .int .i64 a0_9, .int .i64 a0_10, .int .i64 a0_11]) (t := 45) ?hr ?_; (case hd => rfl); (case hg => rfl); (case hr => first | (go_simp; done) | (go_simp; rfl)); intro gb276 hg w45 hbox hb; have n0_ := YL (YD (by repeat (first | (with_reducible first | exact HB.out | apply YA | apply YB | apply YC) | exact HB.out)) hb); have n1_ := YL (hbox); have n2_ := YL ((by rw [hg]; exact (YE (by repeat (first | (with_reducible first | exact HB.out | apply YA | apply YB | apply YC) | exact HB.out))) : w.heap.size ≤ gb276)); have n3_ := YL ((by rw [hg]; exact (YE (by repeat (first | (with_reducible first | exact HB.out | apply YA | apply YB | apply YC) | exact HB.out))) : w.heap.size ≤ gb276)); clear HB; have HB := n0_; have BK276 := n1_; have GW276 := n2_; have GE276 := n3_; clear n0_ n1_ n2_ n3_; clear hb hbox hg; have q46_0 : w45.cell? ⟨gb276, 0, none⟩ = some (.int .i64 a0_0) := (YI BK276.out 0).trans rfl; have q46_1 : w45.cell? ⟨gb276, 1, none⟩ = some (.int .i64 a0_1) := (YI BK276.out 1).trans rfl; have q46_2 : w45.cell? ⟨gb276, 2, none⟩ = some (.bool a0_2) := (YI BK276.out 2).trans rfl; have q46_3 : w45.cell? ⟨gb276, 3, none⟩ = some (.int .i64 a0_3) := (YI BK276.out 3).trans rfl; have q46_4 : w45.cell? ⟨gb276, 4, none⟩ = some (.int .i64 a0_4) := (YI BK276.out 4).trans rfl; have q46_5 : w45.cell? ⟨gb276, 5, none⟩ = some (.int .i64 a0_5) := (YI BK276.out 5).trans rfl; have q46_6 : w45.cell? ⟨gb276, 6, none⟩ = some (.int .i64 a0_6) := (YI BK276.out 6).trans rfl; have q46_7 : w45.cell? ⟨gb276, 7, none⟩ = some (.int .i64 a0_7) := (YI BK276.out 7).trans rfl; have q46_8 : w45.cell? ⟨gb276, 8, none⟩ = some (.int .i64 a0_8) := (YI BK276.out 8).trans rfl; have q46_9 : w45.cell? ⟨gb276, 9, none⟩ = some (.int .i64 a0_9) := (YI BK276.out 9).trans rfl; have q46_10 : w45.cell? ⟨gb276, 10, none⟩ = some (.int .i64 a0_10) := (YI BK276.out 10).trans rfl; have q46_11 : w45.cell? ⟨gb276, 11, none⟩ = some (.int .i64 a0_11) := (YI BK276.out 11).trans rfl; have f46_0 := YJ BK276.out 0; have f46_1 := YJ BK276.out 1; have f46_2 := YJ BK276.out 2; have f46_3 := YJ BK276.out 3; have f46_4 := YJ BK276.out 4; have f46_5 := YJ BK276.out 5; have f46_6 := YJ BK276.out 6; have f46_7 := YJ BK276.out 7; have f46_8 := YJ BK276.out 8; have f46_9 := YJ BK276.out 9; have f46_10 := YJ BK276.out 10; have f46_11 := YJ BK276.out 11) | ((with_reducible refine gate_callee (f := 37) rfl ?_); refine goesL_ (some 8) rfl rfl Try.func37 (by kernel_rfl) rfl #[.agg #[.int .i64 a0_0, .int .i64 a0_1, .bool a0_2, .int .i64 a0_3, .int .i64 a0_4, .int .i64 a0_5, .int .i64 a0_6, .int .i64 a0_7, .int .i64 a0_8, .int .i64 a0_9, .int .i64 a0_10, .int .i64 a0_11]] rfl (by (try simp only [YM, List.map_cons, List.map_nil]); first | done | rfl | (simp only [YO, YN]; rfl)) ?_; (with_reducible refine (thalwegref04_Right.calls k a0_0 a0_1 a0_2 a0_3 a0_4 a0_5 a0_6 a0_7 a0_8 a0_9 a0_10 a0_11 false _ A2.out).mono ?_); rintro e w47 ⟨rfl, hb⟩; refine ⟨_, rfl, ?_⟩; have n0_ := YL (YK (g := gb276) (o := .cells #[.int .i64 a0_0, .int .i64 a0_1, .bool a0_2, .int .i64 a0_3, .int .i64 a0_4, .int .i64 a0_5, .int .i64 a0_6, .int .i64 a0_7, .int .i64 a0_8, .int .i64 a0_9, .int .i64 a0_10, .int .i64 a0_11] 45 (0, 0)) (by (with_reducible repeat (first | refine YF ?_ _ | refine YG ?_ | refine YH ?_ _)); exact BK276.out) hb); have n1_ := YL (YD (by repeat (first | (with_reducible first | exact HB.out | apply YA | apply YB | apply YC | refine below_set ?_ GE276.out) | exact HB.out)) hb); clear BK276; clear HB; have BK276 := n0_; have HB := n1_; clear n0_ n1_; (try clear hb); (try clear hb2); (try clear hk); (try clear hi)))
  go_ret2
  exact ⟨_, by first | rfl | (simp [errW_none, errW_some] <;> rfl) | (simp [*, errW_none, errW_some] <;> rfl), by first | exact Kd.R_nil _ _ _ _ _ | exact Kd.N_nil _ _ _ _ _ | exact Kd.V_nil _ _ _ _ _ | exact Kd.Q_nil _ _ _ _ _ | exact Kd.S_nil _ _ _ _ _, by repeat (first | (with_reducible first | exact HB.out | apply YA | apply YB | apply YC | refine below_set ?_ GE276.out) | exact HB.out)⟩
end Go.Proofs.Ytfigbjjaffkidaa.P
namespace Go.Proofs.Ytfigbjjaffkidaa.P
open Go.RowKit YtfigbjjaffkidaaW.PrintWords YtfigbjjaffkidaaW.PrintLast YtfigbjjaffkidaaW.PrintMore
open YtfigbjjaffkidaaW.PrintWords renaming below_alloc → YA, pw_below_drewN → YB, below_drew1 → YC, below_step → YD, below_size → YE, blk_cell → YF, blk_frozen → YG
open YtfigbjjaffkidaaW.PrintWords.Aside0 renaming mk → YH
open List renaming map_toArray → YI, length_take → YJ, length_drop → YK
attribute [local go_sem] max2_int min2_int max_two min_two max_three min_three max_four min_four   -- for this text's walks alone
def thalwegref05_size.l0 : Nat → List (S45) → Int → Int → Option (Int)
  | 0, _, _, _ => none
  | k + 1, x0, x3, x4 => if x4 < (x0.length : Int) then (if 0 ≤ x4 then ((thalwegref04_Bytes.f k ((rd_T45 x0 x4).f0) ((rd_T45 x0 x4).f1) ((rd_T45 x0 x4).f2.f0) ((rd_T45 x0 x4).f2.f1) ((rd_T45 x0 x4).f2.f2) ((rd_T45 x0 x4).f2.f3) ((rd_T45 x0 x4).f2.f4) ((rd_T45 x0 x4).f2.f5) ((rd_T45 x0 x4).f3.f0) ((rd_T45 x0 x4).f3.f1) ((rd_T45 x0 x4).f3.f2) ((rd_T45 x0 x4).f4)).bind fun bt307 => (if bt307.2 = 0 then (thalwegref05_size.l0 k x0 (wrap64 (x3 + (bt307.1.length : Int))) (wrap64 (x4 + 1))) else (some (-1)))) else (none)) else (some x3)
def thalwegref05_size.f (k : Nat) (l0 : List (S45)) : Option (Int) := thalwegref05_size.l0 k l0 3 0
set_option maxHeartbeats 8000000 in
set_option maxRecDepth 100000 in
theorem thalwegref05_size.calls (k : Nat) (A0 : Option Addr) (c0 : Nat) (l0 : List (S45)) (r : Int) (w : World) (hr0 : Kd.C k45 w A0 l0.length l0) (hc0 : l0.length ≤ c0) (h : thalwegref05_size.f k l0 = some r) :
    Calls Try.prog 28 #[.slice A0 l0.length c0] w fun e w' => e = .returned (.int .i64 r) ∧ Below w.heap.size w w' := by
  have hu45 := Try.underlying45
  have HR0 := YH hr0; have HC0 := YH hc0; clear hr0 hc0
  have HB := YH (Below.refl w.heap.size w)
  have H : (thalwegref05_size.l0 k l0 3 0) = some r := h
  clear h
  have H' := YH H
  clear H
  go_enter Try.func28, Try.ntmps28
  go_wp2
  go_loopg [3, 4] k (fun kq v3 v4 w' => ∃ (x3_1 : Int) (x4_1 : Int), v3 = .int .i64 x3_1 ∧ v4 = .int .i64 x4_1 ∧ Aside0 (thalwegref05_size.l0 kq l0 x3_1 x4_1 = some r) ∧ Aside0 (kq ≤ k) ∧ Aside0 (Below w.heap.size w w'))
  case atStart => exact ⟨(3), (0), (by first | rfl | (simp; done) | (simp [*]; done)), (by first | rfl | (simp; done) | (simp [*]; done)), H', ⟨Nat.le_refl _⟩, ⟨by repeat (first | (with_reducible first | exact HB.out | apply YA | apply YB | apply YC) | exact HB.out)⟩⟩
  case round =>
    clear H'
    obtain ⟨x3_1, x4_1, rfl, rfl, HA, HK1, HB⟩ := hrel
    cases gk with
    | zero => exact absurd HA.out (by simp [thalwegref05_size.l0])
    | succ k1 =>
      have H := HA.out
      clear HA
      simp only [thalwegref05_size.l0] at H
      by_cases c2 : x4_1 < (l0.length : Int)
      · rw [if_pos c2] at H
        have c2b0 : decide (x4_1 < (l0.length : Int)) = true := decide_eq_true c2
        clear c2
        by_cases c3 : 0 ≤ x4_1
        rotate_left
        · rw [if_neg c3] at H
          exact absurd H (by simp)
        rw [if_pos c3] at H; have c3b0 : decide (0 ≤ x4_1) = true := decide_eq_true c3; clear c3; replace H := Option.bind_eq_some_iff.mp H
        obtain ⟨⟨t307, t310⟩, A40, H⟩ := H
        replace H : (if t310 = 0 then (thalwegref05_size.l0 k1 l0 (wrap64 (x3_1 + (t307.length : Int))) (wrap64 (x4_1 + 1))) else (some (-1))) = some r := H
        have A4 := YH A40; clear A40
        by_cases c5 : t310 = 0
        · rw [if_pos c5] at H
          have c5b0 : (t310 == 0) = true := beq_iff_eq.mpr c5
          have c5b1 : (t310 != 0) = false := bne_eq_false_iff_eq.mpr c5
          clear c5
          have H' := YH H
          clear H
          have p306 : 0 ≤ (x4_1 : Int) := of_decide_eq_true (by first | (with_reducible assumption) | assumption)
          have q306 : x4_1 < (l0.length : Int) := of_decide_eq_true (by first | (with_reducible assumption) | assumption)
          obtain ⟨ad306, e306, hx306_0, hx306_1, hx306_2, hx306_3, hx306_4, hx306_5, hx306_6, hx306_7, hx306_8, hx306_9, hx306_10, hx306_11⟩ := at_T45 HR0.out x4_1 p306 q306
          cases e306
          replace hx306_0 := (HB.out.cell (World.block_lt_of_cell? w _ hx306_0)).trans hx306_0
          replace hx306_1 := (HB.out.cell (World.block_lt_of_cell? w _ hx306_1)).trans hx306_1
          replace hx306_2 := (HB.out.cell (World.block_lt_of_cell? w _ hx306_2)).trans hx306_2
          replace hx306_3 := (HB.out.cell (World.block_lt_of_cell? w _ hx306_3)).trans hx306_3
          replace hx306_4 := (HB.out.cell (World.block_lt_of_cell? w _ hx306_4)).trans hx306_4
          replace hx306_5 := (HB.out.cell (World.block_lt_of_cell? w _ hx306_5)).trans hx306_5
          replace hx306_6 := (HB.out.cell (World.block_lt_of_cell? w _ hx306_6)).trans hx306_6
          replace hx306_7 := (HB.out.cell (World.block_lt_of_cell? w _ hx306_7)).trans hx306_7
          replace hx306_8 := (HB.out.cell (World.block_lt_of_cell? w _ hx306_8)).trans hx306_8
          replace hx306_9 := (HB.out.cell (World.block_lt_of_cell? w _ hx306_9)).trans hx306_9
          replace hx306_10 := (HB.out.cell (World.block_lt_of_cell? w _ hx306_10)).trans hx306_10
          replace hx306_11 := (HB.out.cell (World.block_lt_of_cell? w _ hx306_11)).trans hx306_11
          replace p306 := eq_true p306
          replace q306 := eq_true q306
          go_wp2_with (first | ((with_reducible refine gate_callee (f := 24) rfl ?_); refine goesL_ (some 18) rfl rfl Try.func24 (by kernel_rfl) rfl #[.agg #[.int .i64 ((rd_T45 l0 x4_1).f0), .int .i64 ((rd_T45 l0 x4_1).f1), .bool ((rd_T45 l0 x4_1).f2.f0), .int .i64 ((rd_T45 l0 x4_1).f2.f1), .int .i64 ((rd_T45 l0 x4_1).f2.f2), .int .i64 ((rd_T45 l0 x4_1).f2.f3), .int .i64 ((rd_T45 l0 x4_1).f2.f4), .int .i64 ((rd_T45 l0 x4_1).f2.f5), .int .i64 ((rd_T45 l0 x4_1).f3.f0), .int .i64 ((rd_T45 l0 x4_1).f3.f1), .int .i64 ((rd_T45 l0 x4_1).f3.f2), .int .i64 ((rd_T45 l0 x4_1).f4)]] rfl (by (try simp only [YI, List.map_cons, List.map_nil]); first | done | rfl | (simp only [YK, YJ]; rfl)) ?_; (with_reducible refine (thalwegref04_Bytes.calls k1 ((rd_T45 l0 x4_1).f0) ((rd_T45 l0 x4_1).f1) ((rd_T45 l0 x4_1).f2.f0) ((rd_T45 l0 x4_1).f2.f1) ((rd_T45 l0 x4_1).f2.f2) ((rd_T45 l0 x4_1).f2.f3) ((rd_T45 l0 x4_1).f2.f4) ((rd_T45 l0 x4_1).f2.f5) ((rd_T45 l0 x4_1).f3.f0) ((rd_T45 l0 x4_1).f3.f1) ((rd_T45 l0 x4_1).f3.f2) ((rd_T45 l0 x4_1).f4) t307 t310 _ A4.out).mono ?_); rintro e w6 ⟨v308, rfl, ho0, hb⟩; refine ⟨_, rfl, ?_⟩; have n0_ := YH (Kd.R_lower ho0 (YE (by repeat (first | (with_reducible first | exact HB.out | apply YA | apply YB | apply YC) | exact HB.out)))); have n1_ := YH (YD (by repeat (first | (with_reducible first | exact HB.out | apply YA | apply YB | apply YC) | exact HB.out)) hb); clear HB; have HO309 := n0_; have HB := n1_; clear n0_ n1_; (try clear hb); (try clear hb2); (try clear hk); (try clear hi); (try clear ho0); obtain ⟨Ao7, co7, eo7⟩ := Kd.R_slice HO309.out; subst eo7))
          go_roundg k1
          case measure => have := HK1.out; omega
          case rel => exact ⟨(wrap64 (x3_1 + (t307.length : Int))), (wrap64 (x4_1 + 1)), (by first | rfl | (simp; done) | (simp [*]; done)), (by first | rfl | (simp; done) | (simp [*]; done)), H', ⟨by have := HK1.out; omega⟩, ⟨by repeat (first | (with_reducible first | exact HB.out | apply YA | apply YB | apply YC) | exact HB.out)⟩⟩
        rw [if_neg c5] at H
        have c5b0 : (t310 == 0) = false := beq_eq_false_iff_ne.mpr c5
        have c5b1 : (t310 != 0) = true := bne_iff_ne.mpr c5
        obtain rfl := Option.some.inj H
        have p306 : 0 ≤ (x4_1 : Int) := of_decide_eq_true (by first | (with_reducible assumption) | assumption)
        have q306 : x4_1 < (l0.length : Int) := of_decide_eq_true (by first | (with_reducible assumption) | assumption)
        obtain ⟨ad306, e306, hx306_0, hx306_1, hx306_2, hx306_3, hx306_4, hx306_5, hx306_6, hx306_7, hx306_8, hx306_9, hx306_10, hx306_11⟩ := at_T45 HR0.out x4_1 p306 q306
        cases e306
        replace hx306_0 := (HB.out.cell (World.block_lt_of_cell? w _ hx306_0)).trans hx306_0
        replace hx306_1 := (HB.out.cell (World.block_lt_of_cell? w _ hx306_1)).trans hx306_1
        replace hx306_2 := (HB.out.cell (World.block_lt_of_cell? w _ hx306_2)).trans hx306_2
        replace hx306_3 := (HB.out.cell (World.block_lt_of_cell? w _ hx306_3)).trans hx306_3
        replace hx306_4 := (HB.out.cell (World.block_lt_of_cell? w _ hx306_4)).trans hx306_4
        replace hx306_5 := (HB.out.cell (World.block_lt_of_cell? w _ hx306_5)).trans hx306_5
        replace hx306_6 := (HB.out.cell (World.block_lt_of_cell? w _ hx306_6)).trans hx306_6
        replace hx306_7 := (HB.out.cell (World.block_lt_of_cell? w _ hx306_7)).trans hx306_7
        replace hx306_8 := (HB.out.cell (World.block_lt_of_cell? w _ hx306_8)).trans hx306_8
        replace hx306_9 := (HB.out.cell (World.block_lt_of_cell? w _ hx306_9)).trans hx306_9
        replace hx306_10 := (HB.out.cell (World.block_lt_of_cell? w _ hx306_10)).trans hx306_10
        replace hx306_11 := (HB.out.cell (World.block_lt_of_cell? w _ hx306_11)).trans hx306_11
        replace p306 := eq_true p306
        replace q306 := eq_true q306
        go_wp2_with (first | ((with_reducible refine gate_callee (f := 24) rfl ?_); refine goesL_ (some 18) rfl rfl Try.func24 (by kernel_rfl) rfl #[.agg #[.int .i64 ((rd_T45 l0 x4_1).f0), .int .i64 ((rd_T45 l0 x4_1).f1), .bool ((rd_T45 l0 x4_1).f2.f0), .int .i64 ((rd_T45 l0 x4_1).f2.f1), .int .i64 ((rd_T45 l0 x4_1).f2.f2), .int .i64 ((rd_T45 l0 x4_1).f2.f3), .int .i64 ((rd_T45 l0 x4_1).f2.f4), .int .i64 ((rd_T45 l0 x4_1).f2.f5), .int .i64 ((rd_T45 l0 x4_1).f3.f0), .int .i64 ((rd_T45 l0 x4_1).f3.f1), .int .i64 ((rd_T45 l0 x4_1).f3.f2), .int .i64 ((rd_T45 l0 x4_1).f4)]] rfl (by (try simp only [YI, List.map_cons, List.map_nil]); first | done | rfl | (simp only [YK, YJ]; rfl)) ?_; (with_reducible refine (thalwegref04_Bytes.calls k1 ((rd_T45 l0 x4_1).f0) ((rd_T45 l0 x4_1).f1) ((rd_T45 l0 x4_1).f2.f0) ((rd_T45 l0 x4_1).f2.f1) ((rd_T45 l0 x4_1).f2.f2) ((rd_T45 l0 x4_1).f2.f3) ((rd_T45 l0 x4_1).f2.f4) ((rd_T45 l0 x4_1).f2.f5) ((rd_T45 l0 x4_1).f3.f0) ((rd_T45 l0 x4_1).f3.f1) ((rd_T45 l0 x4_1).f3.f2) ((rd_T45 l0 x4_1).f4) t307 t310 _ A4.out).mono ?_); rintro e w8 ⟨v308, rfl, ho0, hb⟩; refine ⟨_, rfl, ?_⟩; have n0_ := YH (Kd.R_lower ho0 (YE (by repeat (first | (with_reducible first | exact HB.out | apply YA | apply YB | apply YC) | exact HB.out)))); have n1_ := YH (YD (by repeat (first | (with_reducible first | exact HB.out | apply YA | apply YB | apply YC) | exact HB.out)) hb); clear HB; have HO309 := n0_; have HB := n1_; clear n0_ n1_; (try clear hb); (try clear hb2); (try clear hk); (try clear hi); (try clear ho0)))
        go_ret
        exact ⟨by first | rfl | (simp [errW_none, errW_some] <;> rfl) | (simp [*, errW_none, errW_some] <;> rfl), by repeat (first | (with_reducible first | exact HB.out | apply YA | apply YB | apply YC) | exact HB.out)⟩
      rw [if_neg c2] at H
      have c2b0 : decide (x4_1 < (l0.length : Int)) = false := decide_eq_false c2
      clear c2
      obtain rfl := Option.some.inj H
      go_wp2
      go_ret
      exact ⟨by first | rfl | (simp [errW_none, errW_some] <;> rfl) | (simp [*, errW_none, errW_some] <;> rfl), by repeat (first | (with_reducible first | exact HB.out | apply YA | apply YB | apply YC) | exact HB.out)⟩
def thalwegref05_Right.f (k : Nat) (a0_0 : Int) (l0_1 : List (S45)) : Option (Bool) := if a0_0 < 0 then (some false) else (if a0_0 > 65535 then (some false) else (if (l0_1.length : Int) < 1 then (some false) else (if (l0_1.length : Int) > 32 then (some false) else ((thalwegref05_size.f k l0_1).bind fun t312 => (if t312 ≥ 0 then (some (decide (t312 ≤ 512))) else (some false))))))
end Go.Proofs.Ytfigbjjaffkidaa.P
namespace Go.Proofs.Ytfigbjjaffkidaa.P
open Go.RowKit YtfigbjjaffkidaaW.PrintWords YtfigbjjaffkidaaW.PrintLast YtfigbjjaffkidaaW.PrintMore
open YtfigbjjaffkidaaW.PrintWords renaming below_alloc → YA, pw_below_drewN → YB, below_drew1 → YC, below_step → YD, below_size → YE, blk_drewN → YF, blk_drew → YG, blk_alloc → YH, blk_cell → YI, blk_frozen → YJ, blk_below → YK
open YtfigbjjaffkidaaW.PrintWords.Aside0 renaming mk → YL
open List renaming map_toArray → YM, length_take → YN, length_drop → YO
open YtfigbjjaffkidaaW.PrintWords.Kd renaming R_alloc → YP, R_drewN → YQ, R_drew → YR
attribute [local go_sem] max2_int min2_int max_two min_two max_three min_three max_four min_four   -- for this text's walks alone
def thalwegref05_Bytes.l0 : Nat → List Int → Int → Int → List (S45) → Option (List Int × Int)
  | 0, _, _, _, _ => none
  | k + 1, x4, x5, x314000, x314001 => if x5 < (x314001.length : Int) then (if 0 ≤ x5 then ((thalwegref04_Bytes.f k ((rd_T45 x314001 x5).f0) ((rd_T45 x314001 x5).f1) ((rd_T45 x314001 x5).f2.f0) ((rd_T45 x314001 x5).f2.f1) ((rd_T45 x314001 x5).f2.f2) ((rd_T45 x314001 x5).f2.f3) ((rd_T45 x314001 x5).f2.f4) ((rd_T45 x314001 x5).f2.f5) ((rd_T45 x314001 x5).f3.f0) ((rd_T45 x314001 x5).f3.f1) ((rd_T45 x314001 x5).f3.f2) ((rd_T45 x314001 x5).f4)).bind fun bt319 => (if x4.length + bt319.1.length < 140737488355328 then (thalwegref05_Bytes.l0 k (x4 ++ bt319.1) (wrap64 (x5 + 1)) x314000 x314001) else (none))) else (none)) else (some (x4, 0))
def thalwegref05_Bytes.f (k : Nat) (a0_0 : Int) (l0_1 : List (S45)) : Option (List Int × Int) := (thalwegref05_Right.f k a0_0 l0_1).bind fun t314 => (if t314 = true then (thalwegref05_Bytes.l0 k (([(wrap64 (Int.tdiv a0_0 256)) % 256, (Int.tmod a0_0 256) % 256, ((l0_1.length : Int)) % 256] : List Int)) 0 a0_0 l0_1) else (some (([] : List Int), 1)))
def thalweglaw05_awake.f (k : Nat)  : Option (Bool) := (batch_Bytes.f k 7 (([(⟨1, 5, (⟨false, 0, 0, 0, 0, 0⟩ : S41), (⟨0, 0, 0⟩ : S43), 0⟩ : S45), (⟨1, 6, (⟨false, 0, 0, 0, 0, 0⟩ : S41), (⟨0, 0, 0⟩ : S43), 0⟩ : S45)] : List (S45)))).bind fun bt329 => (if (strOfNums bt329.1).toList = ([0, 7, 2, 1, 5, 1, 6] : List UInt8) then (some (bt329.2 == 0)) else (none))
theorem thalweglaw05_awake.mono : ∀ k, LeO (thalweglaw05_awake.f k ) (thalweglaw05_awake.f (k + 1) ) := by
  intro  k
  unfold thalweglaw05_awake.f
  repeat' first
      | (with_reducible exact batch_Bytes.mono _ _ _)
      | (with_reducible exact LeO.refl _)
      | (with_reducible exact LeO.none _)
      | (with_reducible refine LeO.ite ?_ ?_)
      | (with_reducible refine LeO.bind ?_ (fun _ => ?_))
      | exact batch_Bytes.mono _ _ _
      | exact LeO.none _
      | refine LeO.ite ?_ ?_
      | refine LeO.bind ?_ (fun _ => ?_)
set_option maxHeartbeats 8000000 in
set_option maxRecDepth 100000 in
theorem thalweglaw05_awake.calls (k : Nat)  (r : Bool) (w : World) (h : thalweglaw05_awake.f k  = some r) :
    Calls Try.prog 11 #[] w fun e w' => e = .returned (.bool r) ∧ Below w.heap.size w w' := by
  have hu45 := Try.underlying45
  have hu24 := Try.underlying24
  have HB := YL (Below.refl w.heap.size w)
  have H : ((batch_Bytes.f k 7 (([(⟨1, 5, (⟨false, 0, 0, 0, 0, 0⟩ : S41), (⟨0, 0, 0⟩ : S43), 0⟩ : S45), (⟨1, 6, (⟨false, 0, 0, 0, 0, 0⟩ : S41), (⟨0, 0, 0⟩ : S43), 0⟩ : S45)] : List (S45)))).bind fun bt329 => (if (strOfNums bt329.1).toList = ([0, 7, 2, 1, 5, 1, 6] : List UInt8) then (some (bt329.2 == 0)) else (none))) = some r := h
  clear h
  obtain ⟨y326, hy326⟩ : ∃ y_ : List (S45), y_ = (([(⟨1, 5, (⟨false, 0, 0, 0, 0, 0⟩ : S41), (⟨0, 0, 0⟩ : S43), 0⟩ : S45), (⟨1, 6, (⟨false, 0, 0, 0, 0, 0⟩ : S41), (⟨0, 0, 0⟩ : S43), 0⟩ : S45)] : List (S45))) := ⟨_, rfl⟩
  replace H : ((batch_Bytes.f k 7 y326).bind fun bt329 => (if (strOfNums bt329.1).toList = ([0, 7, 2, 1, 5, 1, 6] : List UInt8) then (some (bt329.2 == 0)) else (none))) = some r := by first | (rw [hy326]; with_reducible exact H) | (have H2_ := (Option.bind_some _ _).symm.trans H; rw [hy326]; with_reducible exact H2_) | (have H2_ := (Option.bind_some _ _).symm.trans H; with_reducible exact H2_) | with_reducible exact H | (rw [hy326]; exact H) | exact H
  have Ny326 := YL hy326; clear hy326; replace H := Option.bind_eq_some_iff.mp H
  obtain ⟨⟨t329, t332⟩, A10, H⟩ := H
  replace H : (if (strOfNums t329).toList = ([0, 7, 2, 1, 5, 1, 6] : List UInt8) then (some (t332 == 0)) else (none)) = some r := H
  have A1 := YL A10; clear A10
  by_cases c2 : (strOfNums t329).toList = ([0, 7, 2, 1, 5, 1, 6] : List UInt8)
  rotate_left
  · rw [if_neg c2] at H
    exact absurd H (by simp)
  rw [if_pos c2] at H
  have c2b0 : ((strOfNums t329).toList == ([0, 7, 2, 1, 5, 1, 6] : List UInt8)) = true := beq_iff_eq.mpr c2
  have c2b1 : ((strOfNums t329).toList != ([0, 7, 2, 1, 5, 1, 6] : List UInt8)) = false := bne_eq_false_iff_eq.mpr c2
  clear c2
  obtain rfl := Option.some.inj H
  go_enter Try.func11, Try.ntmps11
  go_wp2_with (first | ((with_reducible refine gate_dst (N := 6) rfl ?_); refine Kd.R_lit k45 _ 45 ?hg (N := 6) ?hd (xs := ([(⟨1, 5, (⟨false, 0, 0, 0, 0, 0⟩ : S41), (⟨0, 0, 0⟩ : S43), 0⟩ : S45), (⟨1, 6, (⟨false, 0, 0, 0, 0, 0⟩ : S41), (⟨0, 0, 0⟩ : S43), 0⟩ : S45)] : List (S45))) (inner := [.int .i64 1, .int .i64 5, .bool false, .int .i64 0, .int .i64 0, .int .i64 0, .int .i64 0, .int .i64 0, .int .i64 0, .int .i64 0, .int .i64 0, .int .i64 0, .int .i64 1, .int .i64 6, .bool false, .int .i64 0, .int .i64 0, .int .i64 0, .int .i64 0, .int .i64 0, .int .i64 0, .int .i64 0, .int .i64 0, .int .i64 0]) (ok := fun _ => True) (okp := fun _ => True) ?hr ?hp (fun _ hk => hk) trivial (Below.refl _ _) (Nat.le_refl _) (by simp) ?_; (case hd => rfl); (case hg => rfl); (case hr => first | (go_simp; done) | (go_simp; rfl)); (case hp => exact (Reps.front (show Kd.M k45 _ _ _ (⟨1, 5, (⟨false, 0, 0, 0, 0, 0⟩ : S41), (⟨0, 0, 0⟩ : S43), 0⟩ : S45) [.int .i64 1, .int .i64 5, .bool false, .int .i64 0, .int .i64 0, .int .i64 0, .int .i64 0, .int .i64 0, .int .i64 0, .int .i64 0, .int .i64 0, .int .i64 0] from (k45_mkM _ _ _ (⟨1, 5, (⟨false, 0, 0, 0, 0, 0⟩ : S41), (⟨0, 0, 0⟩ : S43), 0⟩ : S45) )) rfl (Reps.front (show Kd.M k45 _ _ _ (⟨1, 6, (⟨false, 0, 0, 0, 0, 0⟩ : S41), (⟨0, 0, 0⟩ : S43), 0⟩ : S45) [.int .i64 1, .int .i64 6, .bool false, .int .i64 0, .int .i64 0, .int .i64 0, .int .i64 0, .int .i64 0, .int .i64 0, .int .i64 0, .int .i64 0, .int .i64 0] from (k45_mkM _ _ _ (⟨1, 6, (⟨false, 0, 0, 0, 0, 0⟩ : S41), (⟨0, 0, 0⟩ : S43), 0⟩ : S45) )) rfl (Reps.none _ _) rfl) rfl)); intro v327 w3 ho4 hb hg_ hnew_; clear hg_ hnew_; (first | rw [← Ny326.out] at ho4 | (simp only [Int.reduceToNat] at ho4; rw [← Ny326.out] at ho4)); have n0_ := YL (Kd.R_lower ho4 (YE (by repeat (first | (with_reducible first | exact HB.out | apply YA | apply YB | apply YC) | exact HB.out)))); have n1_ := YL (YD (by repeat (first | (with_reducible first | exact HB.out | apply YA | apply YB | apply YC) | exact HB.out)) hb); clear HB; have HO328 := n0_; have HB := n1_; clear n0_ n1_; clear hb ho4; obtain ⟨Ao5, co5, eo5⟩ := Kd.R_slice HO328.out; subst eo5) | ((with_reducible refine gate_callee (f := 9) rfl ?_); refine goesL_ (some 8) rfl rfl Try.func9 (by kernel_rfl) rfl #[.agg #[.int .i64 7, .slice Ao5 y326.length co5]] rfl (by (try simp only [YM, List.map_cons, List.map_nil]); first | done | rfl | (simp only [YO, YN]; rfl)) ?_; (with_reducible refine (batch_Bytes.calls k 7 _ _ y326 t329 t332 _ ?side1 ?side2 A1.out).mono ?_); (case side1 => repeat (first | exact (Kd.R_reads' HO328.out).2.2 | (with_reducible refine Kd.C_alloc ?_ _) | (with_reducible refine Kd.C_drewN ?_ _) | (with_reducible refine Kd.C_drew ?_))); (case side2 => exact (Kd.R_reads' HO328.out).2.1); rintro e w6 ⟨v330, rfl, ho0, hb⟩; refine ⟨_, rfl, ?_⟩; have n0_ := YL (Kd.R_below (by (with_reducible repeat (first | apply YP | apply YQ | apply YR)); exact HO328.out) hb); have n1_ := YL (Kd.R_lower ho0 (YE (by repeat (first | (with_reducible first | exact HB.out | apply YA | apply YB | apply YC) | exact HB.out)))); have n2_ := YL (YD (by repeat (first | (with_reducible first | exact HB.out | apply YA | apply YB | apply YC) | exact HB.out)) hb); clear HO328; clear HB; have HO328 := n0_; have HO331 := n1_; have HB := n2_; clear n0_ n1_ n2_; (try clear hb); (try clear hb2); (try clear hk); (try clear hi); (try clear ho0); have hcv7 := own_string (P := Try.prog) Try.underlying26 Try.underlying5 Try.underlying9 (Kd.own_of_R HO331.out)))
  go_ret
  exact ⟨by first | rfl | (simp [errW_none, errW_some] <;> rfl) | (simp [*, errW_none, errW_some] <;> rfl), by repeat (first | (with_reducible first | exact HB.out | apply YA | apply YB | apply YC) | exact HB.out)⟩
end Go.Proofs.Ytfigbjjaffkidaa.P
namespace Go.Proofs.Ytfigbjjaffkidaa.P
open Go.RowKit YtfigbjjaffkidaaW.PrintWords YtfigbjjaffkidaaW.PrintLast YtfigbjjaffkidaaW.PrintMore
open YtfigbjjaffkidaaW.PrintWords.Aside0 renaming mk → YA
attribute [local go_sem] max2_int min2_int max_two min_two max_three min_three max_four min_four   -- for this text's walks alone
attribute [local go_sem high] eqA45
def thalwegref04_Same.l0 : Nat → List (S45) → List (S45) → Int → Option (Bool)
  | 0, _, _, _ => none
  | k + 1, x0, x1, x5 => if x5 < (x0.length : Int) then (if 0 ≤ x5 then (if x5 < (x1.length : Int) then (if (!(((rd_T45 x0 x5).f0) == ((rd_T45 x1 x5).f0)) || (!(((rd_T45 x0 x5).f1) == ((rd_T45 x1 x5).f1)) || ((!(((rd_T45 x0 x5).f2.f0) == ((rd_T45 x1 x5).f2.f0)) || (!(((rd_T45 x0 x5).f2.f1) == ((rd_T45 x1 x5).f2.f1)) || (!(((rd_T45 x0 x5).f2.f2) == ((rd_T45 x1 x5).f2.f2)) || (!(((rd_T45 x0 x5).f2.f3) == ((rd_T45 x1 x5).f2.f3)) || (!(((rd_T45 x0 x5).f2.f4) == ((rd_T45 x1 x5).f2.f4)) || (!(((rd_T45 x0 x5).f2.f5) == ((rd_T45 x1 x5).f2.f5)))))))) || ((!(((rd_T45 x0 x5).f3.f0) == ((rd_T45 x1 x5).f3.f0)) || (!(((rd_T45 x0 x5).f3.f1) == ((rd_T45 x1 x5).f3.f1)) || (!(((rd_T45 x0 x5).f3.f2) == ((rd_T45 x1 x5).f3.f2))))) || (!(((rd_T45 x0 x5).f4) == ((rd_T45 x1 x5).f4))))))) = true then (some false) else (thalwegref04_Same.l0 k x0 x1 (wrap64 (x5 + 1)))) else (none)) else (none)) else (some true)
def thalwegref04_Same.f (k : Nat) (l0 : List (S45)) (l1 : List (S45)) : Option (Bool) := if (l0.length : Int) = (l1.length : Int) then (thalwegref04_Same.l0 k l0 l1 0) else (some false)
set_option maxHeartbeats 8000000 in
set_option maxRecDepth 100000 in
theorem thalwegref04_Same.calls (k : Nat) (A0 : Option Addr) (c0 : Nat) (l0 : List (S45)) (A1 : Option Addr) (c1 : Nat) (l1 : List (S45)) (r : Bool) (w : World) (hr0 : Kd.C k45 w A0 l0.length l0) (hc0 : l0.length ≤ c0) (hr1 : Kd.C k45 w A1 l1.length l1) (hc1 : l1.length ≤ c1) (h : thalwegref04_Same.f k l0 l1 = some r) :
    Calls Try.prog 14 #[.slice A0 l0.length c0, .slice A1 l1.length c1] w fun e w' => e = .returned (.bool r) ∧ Drawn0 w w' := by
  have hu45 := Try.underlying45
  have HR0 := YA hr0; have HC0 := YA hc0; clear hr0 hc0; have HR1 := YA hr1; have HC1 := YA hc1; clear hr1 hc1
  have H : (if (l0.length : Int) = (l1.length : Int) then (thalwegref04_Same.l0 k l0 l1 0) else (some false)) = some r := h
  clear h
  by_cases c3 : (l0.length : Int) = (l1.length : Int)
  · rw [if_pos c3] at H
    have c3b0 : ((l0.length : Int) == (l1.length : Int)) = true := beq_iff_eq.mpr c3
    have c3b1 : ((l0.length : Int) != (l1.length : Int)) = false := bne_eq_false_iff_eq.mpr c3
    have c3b2 : (l0.length == l1.length) = true := by first | simpa using c3 | (simp at c3 ⊢; omega)
    clear c3
    have H' := YA H
    clear H
    go_enter Try.func14, Try.ntmps14
    go_wp2
    repeat (go_quiet (fail); try go_wp2)
    go_loopg [5] k (fun kq v5 w' => ∃ (x5_1 : Int), v5 = .int .i64 x5_1 ∧ Aside0 (thalwegref04_Same.l0 kq l0 l1 x5_1 = some r) ∧ Aside0 (kq ≤ k) ∧ Drawn0 w w')
    case atStart => exact ⟨(0), (by first | rfl | (simp; done) | (simp [*]; done)), H', ⟨Nat.le_refl _⟩, by repeat (first | exact Drawn0.refl _ | apply Drawn0.step)⟩
    case round =>
      clear H'
      try clear c1; try clear p2
      try clear c3; try clear c3b0
      try clear c3b1; try clear c3b2
      obtain ⟨x5_1, rfl, HA, HK1, ⟨m1, rfl⟩⟩ := hrel
      cases gk with
      | zero => exact absurd HA.out (by simp [thalwegref04_Same.l0])
      | succ k1 =>
        have H := HA.out
        clear HA
        simp only [thalwegref04_Same.l0] at H
        by_cases c4 : x5_1 < (l0.length : Int)
        · rw [if_pos c4] at H
          have c4b0 : decide (x5_1 < (l0.length : Int)) = true := decide_eq_true c4
          clear c4
          by_cases c5 : 0 ≤ x5_1
          rotate_left
          · rw [if_neg c5] at H
            exact absurd H (by simp)
          rw [if_pos c5] at H; have c5b0 : decide (0 ≤ x5_1) = true := decide_eq_true c5; clear c5
          by_cases c6 : x5_1 < (l1.length : Int)
          rotate_left
          · rw [if_neg c6] at H
            exact absurd H (by simp)
          rw [if_pos c6] at H
          have c6b0 : decide (x5_1 < (l1.length : Int)) = true := decide_eq_true c6
          clear c6
          by_cases c7 : (!(((rd_T45 l0 x5_1).f0) == ((rd_T45 l1 x5_1).f0)) || (!(((rd_T45 l0 x5_1).f1) == ((rd_T45 l1 x5_1).f1)) || ((!(((rd_T45 l0 x5_1).f2.f0) == ((rd_T45 l1 x5_1).f2.f0)) || (!(((rd_T45 l0 x5_1).f2.f1) == ((rd_T45 l1 x5_1).f2.f1)) || (!(((rd_T45 l0 x5_1).f2.f2) == ((rd_T45 l1 x5_1).f2.f2)) || (!(((rd_T45 l0 x5_1).f2.f3) == ((rd_T45 l1 x5_1).f2.f3)) || (!(((rd_T45 l0 x5_1).f2.f4) == ((rd_T45 l1 x5_1).f2.f4)) || (!(((rd_T45 l0 x5_1).f2.f5) == ((rd_T45 l1 x5_1).f2.f5)))))))) || ((!(((rd_T45 l0 x5_1).f3.f0) == ((rd_T45 l1 x5_1).f3.f0)) || (!(((rd_T45 l0 x5_1).f3.f1) == ((rd_T45 l1 x5_1).f3.f1)) || (!(((rd_T45 l0 x5_1).f3.f2) == ((rd_T45 l1 x5_1).f3.f2))))) || (!(((rd_T45 l0 x5_1).f4) == ((rd_T45 l1 x5_1).f4))))))) = true
          · rw [if_pos c7] at H
            have c7b0 : (!(((rd_T45 l0 x5_1).f0) == ((rd_T45 l1 x5_1).f0)) || (!(((rd_T45 l0 x5_1).f1) == ((rd_T45 l1 x5_1).f1)) || ((!(((rd_T45 l0 x5_1).f2.f0) == ((rd_T45 l1 x5_1).f2.f0)) || (!(((rd_T45 l0 x5_1).f2.f1) == ((rd_T45 l1 x5_1).f2.f1)) || (!(((rd_T45 l0 x5_1).f2.f2) == ((rd_T45 l1 x5_1).f2.f2)) || (!(((rd_T45 l0 x5_1).f2.f3) == ((rd_T45 l1 x5_1).f2.f3)) || (!(((rd_T45 l0 x5_1).f2.f4) == ((rd_T45 l1 x5_1).f2.f4)) || (!(((rd_T45 l0 x5_1).f2.f5) == ((rd_T45 l1 x5_1).f2.f5)))))))) || ((!(((rd_T45 l0 x5_1).f3.f0) == ((rd_T45 l1 x5_1).f3.f0)) || (!(((rd_T45 l0 x5_1).f3.f1) == ((rd_T45 l1 x5_1).f3.f1)) || (!(((rd_T45 l0 x5_1).f3.f2) == ((rd_T45 l1 x5_1).f3.f2))))) || (!(((rd_T45 l0 x5_1).f4) == ((rd_T45 l1 x5_1).f4))))))) = true := c7
            clear c7
            obtain rfl := Option.some.inj H
            have p333 : 0 ≤ (x5_1 : Int) := of_decide_eq_true (by first | (with_reducible assumption) | assumption)
            have q333 : x5_1 < (l0.length : Int) := of_decide_eq_true (by first | (with_reducible assumption) | assumption)
            obtain ⟨ad333, e333, hx333_0, hx333_1, hx333_2, hx333_3, hx333_4, hx333_5, hx333_6, hx333_7, hx333_8, hx333_9, hx333_10, hx333_11⟩ := at_T45 HR0.out x5_1 p333 q333
            cases e333
            replace p333 := eq_true p333
            replace q333 := eq_true q333
            have p334 : 0 ≤ (x5_1 : Int) := of_decide_eq_true (by first | (with_reducible assumption) | assumption)
            have q334 : x5_1 < (l1.length : Int) := of_decide_eq_true (by first | (with_reducible assumption) | assumption)
            obtain ⟨ad334, e334, hx334_0, hx334_1, hx334_2, hx334_3, hx334_4, hx334_5, hx334_6, hx334_7, hx334_8, hx334_9, hx334_10, hx334_11⟩ := at_T45 HR1.out x5_1 p334 q334
            cases e334
            replace p334 := eq_true p334
            replace q334 := eq_true q334
            go_wp2
            repeat (go_quiet (fail); try go_wp2)
            go_ret
            exact ⟨by first | rfl | (simp; done) | (simp [*]; done), by repeat (first | exact Drawn0.refl _ | apply Drawn0.step)⟩
          rw [if_neg c7] at H
          have c7b0 : (!(((rd_T45 l0 x5_1).f0) == ((rd_T45 l1 x5_1).f0)) || (!(((rd_T45 l0 x5_1).f1) == ((rd_T45 l1 x5_1).f1)) || ((!(((rd_T45 l0 x5_1).f2.f0) == ((rd_T45 l1 x5_1).f2.f0)) || (!(((rd_T45 l0 x5_1).f2.f1) == ((rd_T45 l1 x5_1).f2.f1)) || (!(((rd_T45 l0 x5_1).f2.f2) == ((rd_T45 l1 x5_1).f2.f2)) || (!(((rd_T45 l0 x5_1).f2.f3) == ((rd_T45 l1 x5_1).f2.f3)) || (!(((rd_T45 l0 x5_1).f2.f4) == ((rd_T45 l1 x5_1).f2.f4)) || (!(((rd_T45 l0 x5_1).f2.f5) == ((rd_T45 l1 x5_1).f2.f5)))))))) || ((!(((rd_T45 l0 x5_1).f3.f0) == ((rd_T45 l1 x5_1).f3.f0)) || (!(((rd_T45 l0 x5_1).f3.f1) == ((rd_T45 l1 x5_1).f3.f1)) || (!(((rd_T45 l0 x5_1).f3.f2) == ((rd_T45 l1 x5_1).f3.f2))))) || (!(((rd_T45 l0 x5_1).f4) == ((rd_T45 l1 x5_1).f4))))))) = false := by simpa using c7
          clear c7
          have H' := YA H
          clear H
          have p333 : 0 ≤ (x5_1 : Int) := of_decide_eq_true (by first | (with_reducible assumption) | assumption)
          have q333 : x5_1 < (l0.length : Int) := of_decide_eq_true (by first | (with_reducible assumption) | assumption)
          obtain ⟨ad333, e333, hx333_0, hx333_1, hx333_2, hx333_3, hx333_4, hx333_5, hx333_6, hx333_7, hx333_8, hx333_9, hx333_10, hx333_11⟩ := at_T45 HR0.out x5_1 p333 q333
          cases e333
          replace p333 := eq_true p333
          replace q333 := eq_true q333
          have p334 : 0 ≤ (x5_1 : Int) := of_decide_eq_true (by first | (with_reducible assumption) | assumption)
          have q334 : x5_1 < (l1.length : Int) := of_decide_eq_true (by first | (with_reducible assumption) | assumption)
          obtain ⟨ad334, e334, hx334_0, hx334_1, hx334_2, hx334_3, hx334_4, hx334_5, hx334_6, hx334_7, hx334_8, hx334_9, hx334_10, hx334_11⟩ := at_T45 HR1.out x5_1 p334 q334
          cases e334
          replace p334 := eq_true p334
          replace q334 := eq_true q334
          go_wp2
          repeat (go_quiet (fail); try go_wp2)
          go_roundg k1
          case measure => have := HK1.out; omega
          case rel => exact ⟨(wrap64 (x5_1 + 1)), (by first | rfl | (simp; done) | (simp [*]; done)), H', ⟨by have := HK1.out; omega⟩, by repeat (first | exact Drawn0.refl _ | apply Drawn0.step)⟩
        rw [if_neg c4] at H
        have c4b0 : decide (x5_1 < (l0.length : Int)) = false := decide_eq_false c4
        clear c4
        obtain rfl := Option.some.inj H
        go_wp2
        repeat (go_quiet (fail); try go_wp2)
        go_ret
        exact ⟨by first | rfl | (simp; done) | (simp [*]; done), by repeat (first | exact Drawn0.refl _ | apply Drawn0.step)⟩
  rw [if_neg c3] at H
  have c3b0 : ((l0.length : Int) == (l1.length : Int)) = false := beq_eq_false_iff_ne.mpr c3
  have c3b1 : ((l0.length : Int) != (l1.length : Int)) = true := bne_iff_ne.mpr c3
  have c3b2 : (l0.length == l1.length) = false := by first | simpa using c3 | (simp at c3 ⊢; omega)
  obtain rfl := Option.some.inj H
  go_enter Try.func14, Try.ntmps14
  go_wp2
  repeat (go_quiet (fail); try go_wp2)
  go_ret
  exact ⟨by first | rfl | (simp; done) | (simp [*]; done), by repeat (first | exact Drawn0.refl _ | apply Drawn0.step)⟩
end Go.Proofs.Ytfigbjjaffkidaa.P
namespace Go.Proofs.Ytfigbjjaffkidaa.P
open Go.RowKit YtfigbjjaffkidaaW.PrintWords YtfigbjjaffkidaaW.PrintLast YtfigbjjaffkidaaW.PrintMore
attribute [local go_sem] max2_int min2_int max_two min_two max_three min_three max_four min_four   -- for this text's walks alone
def serial_Next.f (a0 : Int) : Option (Int) := some (wrap64 (IntKind.u16.wrap ((IntKind.u16.wrap (a0)) + 1)))
set_option maxHeartbeats 8000000 in
set_option maxRecDepth 100000 in
theorem serial_Next.calls (a0 : Int) (r : Int) (w : World) (h : serial_Next.f a0 = some r) :
    Calls Try.prog 20 #[.int .i64 a0] w fun e w' => e = .returned (.int .i64 r) ∧ Drawn0 w w' := by
  have H : (some (wrap64 (IntKind.u16.wrap ((IntKind.u16.wrap (a0)) + 1)))) = some r := h
  clear h
  obtain rfl := Option.some.inj H
  go_enter Try.func20, Try.ntmps20
  go_wp2
  go_ret
  exact ⟨by first | rfl | (simp; done) | (simp [*]; done), by repeat (first | exact Drawn0.refl _ | apply Drawn0.step)⟩
end Go.Proofs.Ytfigbjjaffkidaa.P
namespace Go.Proofs.Ytfigbjjaffkidaa.P
open Go.RowKit YtfigbjjaffkidaaW.PrintWords YtfigbjjaffkidaaW.PrintLast YtfigbjjaffkidaaW.PrintMore
open YtfigbjjaffkidaaW.PrintWords renaming below_alloc → YA, pw_below_drewN → YB, below_drew1 → YC, below_step → YD, below_size → YE, blk_drewN → YF, blk_drew → YG, blk_alloc → YH, blk_cell → YI, blk_frozen → YJ, blk_below → YK
open YtfigbjjaffkidaaW.PrintWords.Aside0 renaming mk → YL
open List renaming setIfInBounds_toArray → YM, set_cons_zero → YN, set_cons_succ → YO, map_toArray → YP, length_take → YQ, length_drop → YR
open YtfigbjjaffkidaaW.PrintWords.Kd renaming R_alloc → YS, R_drewN → YT, R_drew → YU, R_below → YV
attribute [local go_sem] max2_int min2_int max_two min_two max_three min_three max_four min_four   -- for this text's walks alone
mutual
def batch_Pack.j0 : Nat → List (S45) → Int → Int → Bool → Option ((List (S24)) × Int)
  | 0, _, _, _, _ => none
  | k + 1, x0, x1, x2, x14 => if x14 = true then (some (([] : List (S24)), 1)) else (if (x0.length : Int) > 1024 then (some (([] : List (S24)), 2)) else (batch_Pack.l0 k x0 x2 ([] : List (S24)) (wrap64 (x2 - 3)) x0 (x0.length : Int) 0 (Go.bits .and .i64 x1 65535) ([] : List (S45))))
def batch_Pack.l0 : Nat → List (S45) → Int → List (S24) → Int → List (S45) → Int → Int → Int → List (S45) → Option ((List (S24)) × Int)
  | 0, _, _, _, _, _, _, _, _, _ => none
  | k + 1, x0, x2, x8, x10, x34, x35, x36, x354000, x354001 => if x36 < x35 then (if 0 ≤ x36 then (if x36 < (x34.length : Int) then ((object_Size.f k ((rd_T45 x34 x36).f0) ((rd_T45 x34 x36).f1) ((rd_T45 x34 x36).f2.f0) ((rd_T45 x34 x36).f2.f1) ((rd_T45 x34 x36).f2.f2) ((rd_T45 x34 x36).f2.f3) ((rd_T45 x34 x36).f2.f4) ((rd_T45 x34 x36).f2.f5) ((rd_T45 x34 x36).f3.f0) ((rd_T45 x34 x36).f3.f1) ((rd_T45 x34 x36).f3.f2) ((rd_T45 x34 x36).f4)).bind fun t359 => (if t359 ≤ x10 then (if (x354001.length : Int) < 32 then (if x36 < (x0.length : Int) then (if x354001.length < 1466015503701 then (batch_Pack.l0 k x0 x2 x8 (wrap64 (x10 - t359)) x34 x35 (wrap64 (x36 + 1)) x354000 (x354001 ++ [(⟨(rd_T45 x0 x36).f0, (rd_T45 x0 x36).f1, (⟨(rd_T45 x0 x36).f2.f0, (rd_T45 x0 x36).f2.f1, (rd_T45 x0 x36).f2.f2, (rd_T45 x0 x36).f2.f3, (rd_T45 x0 x36).f2.f4, (rd_T45 x0 x36).f2.f5⟩ : S41), (⟨(rd_T45 x0 x36).f3.f0, (rd_T45 x0 x36).f3.f1, (rd_T45 x0 x36).f3.f2⟩ : S43), (rd_T45 x0 x36).f4⟩ : S45)])) else (none)) else (none)) else (if x8.length < 4398046511104 then ((serial_Next.f x354000).bind fun t367 => (batch_Pack.l0 k x0 x2 (x8 ++ [(⟨x354000, x354001⟩ : S24)]) (wrap64 ((wrap64 (x2 - 3)) - t359)) x34 x35 (wrap64 (x36 + 1)) t367 (([(⟨(rd_T45 x34 x36).f0, (rd_T45 x34 x36).f1, (⟨(rd_T45 x34 x36).f2.f0, (rd_T45 x34 x36).f2.f1, (rd_T45 x34 x36).f2.f2, (rd_T45 x34 x36).f2.f3, (rd_T45 x34 x36).f2.f4, (rd_T45 x34 x36).f2.f5⟩ : S41), (⟨(rd_T45 x34 x36).f3.f0, (rd_T45 x34 x36).f3.f1, (rd_T45 x34 x36).f3.f2⟩ : S43), (rd_T45 x34 x36).f4⟩ : S45)] : List (S45))))) else (none))) else (if x8.length < 4398046511104 then ((serial_Next.f x354000).bind fun t374 => (batch_Pack.l0 k x0 x2 (x8 ++ [(⟨x354000, x354001⟩ : S24)]) (wrap64 ((wrap64 (x2 - 3)) - t359)) x34 x35 (wrap64 (x36 + 1)) t374 (([(⟨(rd_T45 x34 x36).f0, (rd_T45 x34 x36).f1, (⟨(rd_T45 x34 x36).f2.f0, (rd_T45 x34 x36).f2.f1, (rd_T45 x34 x36).f2.f2, (rd_T45 x34 x36).f2.f3, (rd_T45 x34 x36).f2.f4, (rd_T45 x34 x36).f2.f5⟩ : S41), (⟨(rd_T45 x34 x36).f3.f0, (rd_T45 x34 x36).f3.f1, (rd_T45 x34 x36).f3.f2⟩ : S43), (rd_T45 x34 x36).f4⟩ : S45)] : List (S45))))) else (none)))) else (none)) else (none)) else (if (x354001.length : Int) > 0 then (if x8.length < 4398046511104 then (some ((x8 ++ [(⟨x354000, x354001⟩ : S24)]), 0)) else (none)) else (some (x8, 0)))
end
def batch_Pack.f (k : Nat) (l0 : List (S45)) (a1 : Int) (a2 : Int) : Option ((List (S24)) × Int) := if a2 < 40 then (batch_Pack.j0 k l0 a1 a2 true) else (if a2 > 512 then (batch_Pack.j0 k l0 a1 a2 true) else ((api_Object_25.f k l0).bind fun t352 => (batch_Pack.j0 k l0 a1 a2 t352)))
def batch_Pack.T13 : Bool × List (List Nat × List Nat) := (true, [([], []), ([0], [0]), ([], []), ([], []), ([2, 3], [2, 3]), ([4], [4]), ([5], [5]), ([1, 6], [1, 6]), ([0, 1, 2, 3, 4, 5, 6, 7], []), ([8, 7, 7, 0, 1, 2, 3, 4, 5, 6, 7], [7, 8])])
def batch_Pack.B13 : List Nat := [0, 1, 0, 0, 12, 28, 60, 127, 255, 511]
theorem batch_Pack.tab13 : rtab .any (opsOf Try.f15 13) = batch_Pack.T13 := by kernel_rfl
theorem batch_Pack.bits13 : waitsOk batch_Pack.T13.2 batch_Pack.B13 = true := by kernel_rfl
set_option maxHeartbeats 8000000 in
set_option maxRecDepth 100000 in
theorem batch_Pack.calls (k : Nat) (A0 : Option Addr) (c0 : Nat) (l0 : List (S45)) (a1 : Int) (a2 : Int) (r1 : List (S24)) (r2 : Int) (w : World) (hr0 : Kd.C k45 w A0 l0.length l0) (hc0 : l0.length ≤ c0) (h : batch_Pack.f k l0 a1 a2 = some (r1, r2)) :
    Calls Try.prog 15 #[.slice A0 l0.length c0, .int .i64 a1, .int .i64 a2] w fun e w' => ∃ v0_ : Value, e = .returned (.tuple #[v0_, .int .i64 r2]) ∧ Kd.S k24 24 w' w.heap.size (fun _ => True) v0_ r1 ∧ Below w.heap.size w w' := by
  have hu24 := Try.underlying24
  have hu45 := Try.underlying45
  have HR0 := YL hr0; have HC0 := YL hc0; clear hr0 hc0
  have HB := YL (Below.refl w.heap.size w)
  have H : (if a2 < 40 then (batch_Pack.j0 k l0 a1 a2 true) else (if a2 > 512 then (batch_Pack.j0 k l0 a1 a2 true) else ((api_Object_25.f k l0).bind fun t352 => (batch_Pack.j0 k l0 a1 a2 t352)))) = some (r1, r2) := h
  clear h; have HC4 := YL H; clear H
  go_enter Try.func15, Try.ntmps15
  go_upto_region 1 with (go_step3)
  go_cut [14] (fun v14 wc => ∃ (kq : Nat) (x14_3 : Bool), v14 = .bool x14_3 ∧ Aside0 (batch_Pack.j0 kq l0 a1 a2 x14_3 = some (r1, r2)) ∧ Aside0 (kq ≤ k) ∧ Aside0 (Below w.heap.size w wc))
  case first =>
    have H := HC4.out
    clear HC4
    by_cases c5 : a2 < 40
    · rw [if_pos c5] at H
      have c5b0 : decide (a2 < 40) = true := decide_eq_true c5; clear c5
      (first | rw [c5b0] | (simp only [i64_w, i32_w]; rw [c5b0]) | skip)
      have H' := YL H
      clear H
      go_wp2_with (go_step3)
      go_meet
      case rel => exact ⟨_, (true), (by first | rfl | (simp; done) | (simp [*]; done)), H', ⟨by first | omega | exact Nat.le_refl _⟩, ⟨by repeat (first | (with_reducible first | exact HB.out | apply YA | apply YB | apply YC) | exact HB.out)⟩⟩
    rw [if_neg c5] at H; have c5b0 : decide (a2 < 40) = false := decide_eq_false c5; clear c5
    (first | rw [c5b0] | (simp only [i64_w, i32_w]; rw [c5b0]) | skip)
    by_cases c6 : a2 > 512
    · rw [if_pos c6] at H
      have c6b0 : decide (512 < a2) = true := decide_eq_true c6; clear c6
      have H' := YL H
      clear H
      go_wp2_with (go_step3)
      go_meet
      case rel => exact ⟨_, (true), (by first | rfl | (simp; done) | (simp [*]; done)), H', ⟨by first | omega | exact Nat.le_refl _⟩, ⟨by repeat (first | (with_reducible first | exact HB.out | apply YA | apply YB | apply YC) | exact HB.out)⟩⟩
    rw [if_neg c6] at H; have c6b0 : decide (512 < a2) = false := decide_eq_false c6; clear c6; replace H := Option.bind_eq_some_iff.mp H; obtain ⟨t352, A70, H⟩ := H
    replace H : (batch_Pack.j0 k l0 a1 a2 t352) = some (r1, r2) := H
    have A7 := YL A70; clear A70
    have H' := YL H
    clear H
    go_wp2_with (first | go_step3 | (go_at_call 25; (with_reducible refine (api_Object_25.calls k _ _ l0  t352 _ ?side1 ?side2 A7.out).mono ?_); (case side1 => repeat (first | exact (Kd.C_below HR0.out HB.out) | (with_reducible refine Kd.C_alloc ?_ _) | (with_reducible refine Kd.C_drewN ?_ _) | (with_reducible refine Kd.C_drew ?_))); (case side2 => exact HC0.out); rintro e w8 ⟨rfl, hb⟩; have n0_ := YL (YD (by repeat (first | (with_reducible first | exact HB.out | apply YA | apply YB | apply YC) | exact HB.out)) hb); clear HB; have HB := n0_; clear n0_; (try clear hb); (try clear hb2); (try clear hk); (try clear hi)))
    go_meet
    case rel => exact ⟨_, (t352), (by first | rfl | (simp; done) | (simp [*]; done)), H', ⟨by first | omega | exact Nat.le_refl _⟩, ⟨by repeat (first | (with_reducible first | exact HB.out | apply YA | apply YB | apply YC) | exact HB.out)⟩⟩
  case rest =>
    clear HC4
    try clear c1; try clear p2
    try clear c5; try clear c5b0
    try clear c6; try clear c6b0
    obtain ⟨kq, x14_3, rfl, HA, HJ3, HB⟩ := hcut
    cases kq with
    | zero => exact absurd HA.out (by simp [batch_Pack.j0])
    | succ kj3 =>
      have H := HA.out
      clear HA
      simp only [batch_Pack.j0] at H
      by_cases c9 : x14_3 = true
      · subst c9
        have H1 : (some (([] : List (S24)), 1)) = some (r1, r2) := by rw [if_pos rfl] at H; exact H
        clear H
        have H := H1
        clear H1
        simp only [Option.some.injEq, Prod.mk.injEq] at H
        obtain ⟨rfl, rfl⟩ := H
        go_wp2_with (go_step3)
        (try simp only [Exit.noGoto_ret])
        go_ret2
        exact ⟨_, by first | rfl | (simp [errW_none, errW_some] <;> rfl) | (simp [*, errW_none, errW_some] <;> rfl), by first | exact Kd.S_nil _ _ _ _ _ | exact Kd.N_nil _ _ _ _ _ | exact Kd.V_nil _ _ _ _ _ | exact Kd.Q_nil _ _ _ _ _ | exact Kd.R_nil _ _ _ _ _, by repeat (first | (with_reducible first | exact HB.out | apply YA | apply YB | apply YC) | exact HB.out)⟩
      replace c9 := Bool.eq_false_iff.mpr c9
      subst c9
      have H1 : (if (l0.length : Int) > 1024 then (some (([] : List (S24)), 2)) else (batch_Pack.l0 kj3 l0 a2 ([] : List (S24)) (wrap64 (a2 - 3)) l0 (l0.length : Int) 0 (Go.bits .and .i64 a1 65535) ([] : List (S45)))) = some (r1, r2) := by rw [if_neg (show ¬ (false = true) by decide)] at H; exact H
      clear H
      have H := H1
      clear H1
      by_cases c10 : (l0.length : Int) > 1024
      · rw [if_pos c10] at H
        have c10b0 : decide (1024 < (l0.length : Int)) = true := decide_eq_true c10
        have c10b1 : decide (1024 < l0.length) = true := decide_eq_true (by omega)
        clear c10
        simp only [Option.some.injEq, Prod.mk.injEq] at H
        obtain ⟨rfl, rfl⟩ := H
        go_wp2_with (go_step3)
        (try simp only [Exit.noGoto_ret])
        go_ret2
        exact ⟨_, by first | rfl | (simp [errW_none, errW_some] <;> rfl) | (simp [*, errW_none, errW_some] <;> rfl), by first | exact Kd.S_nil _ _ _ _ _ | exact Kd.N_nil _ _ _ _ _ | exact Kd.V_nil _ _ _ _ _ | exact Kd.Q_nil _ _ _ _ _ | exact Kd.R_nil _ _ _ _ _, by repeat (first | (with_reducible first | exact HB.out | apply YA | apply YB | apply YC) | exact HB.out)⟩
      rw [if_neg c10] at H
      have c10b0 : decide (1024 < (l0.length : Int)) = false := decide_eq_false c10
      have c10b1 : decide (1024 < l0.length) = false := decide_eq_false (by omega)
      clear c10
      have H' := YL H
      clear H
      go_wp2_with (first | go_step3 | ((with_reducible refine gate_dst (N := 9) rfl ?_); (try (refine gate_guard (by rfl) ?_; dsimp only)); refine box_event ?hg (N := 9) ?hd (cs := #[.int .i64 0, .slice none 0 0]) (t := 24) ?hr ?_; (case hd => rfl); (case hg => rfl); (case hr => first | (go_simp; done) | (go_simp; rfl)); intro gb353 hg w11 hbox hb; have n0_ := YL (YD (by repeat (first | (with_reducible first | exact HB.out | apply YA | apply YB | apply YC) | exact HB.out)) hb); have n1_ := YL (hbox); have n2_ := YL ((by rw [hg]; exact (YE (by repeat (first | (with_reducible first | exact HB.out | apply YA | apply YB | apply YC) | exact HB.out))) : w.heap.size ≤ gb353)); have n3_ := YL ((by rw [hg]; exact (YE (by repeat (first | (with_reducible first | exact HB.out | apply YA | apply YB | apply YC) | exact HB.out))) : w.heap.size ≤ gb353)); clear HB; have HB := n0_; have BK353 := n1_; have GW353 := n2_; have GE353 := n3_; clear n0_ n1_ n2_ n3_; clear hb hbox hg; have q12_0 : w11.cell? ⟨gb353, 0, none⟩ = some (.int .i64 0) := (YI BK353.out 0).trans rfl; have q12_1 : w11.cell? ⟨gb353, 1, none⟩ = some (.slice none 0 0) := (YI BK353.out 1).trans rfl; have f12_0 := YJ BK353.out 0; have f12_1 := YJ BK353.out 1))
      go_loopg [8, 10, 36] kj3 (fun kq v8 v10 v36 w' => ∃ (x8_2 : List (S24)) (x10_2 : Int) (x36_2 : Int) (x354000_2 : Int) (x354001_2 : List (S45)) (u354001 : Value), v10 = .int .i64 x10_2 ∧ v36 = .int .i64 x36_2 ∧ Aside0 (batch_Pack.l0 kq l0 a2 x8_2 x10_2 l0 (l0.length : Int) x36_2 x354000_2 x354001_2 = some (r1, r2)) ∧ Aside0 (kq ≤ kj3) ∧ Aside0 (Kd.S k24 24 w' w.heap.size (fun k_ => some k_ ≠ (u354001 : Value).ownBlock ∧ k_ ≠ gb353) v8 x8_2) ∧ Aside0 (Kd.R k45 45 w' w.heap.size (fun _ => True) u354001 x354001_2) ∧ Aside0 (w'.heap[gb353]? = some (.cells #[.int .i64 x354000_2, u354001] 24 (0, 0))) ∧ Aside0 (Below w.heap.size w w'))
      case atStart => exact ⟨(([] : List (S24))), (wrap64 (a2 - 3)), (0), (Go.bits .and .i64 a1 65535), (([] : List (S45))), (.slice none 0 0), (by first | rfl | (simp; done) | (simp [*]; done)), (by first | rfl | (simp; done) | (simp [*]; done)), H', ⟨Nat.le_refl _⟩, ⟨by first | exact Kd.S_nil _ _ _ _ _ | exact Kd.N_nil _ _ _ _ _ | exact Kd.V_nil _ _ _ _ _ | exact Kd.Q_nil _ _ _ _ _ | exact Kd.R_nil _ _ _ _ _⟩, ⟨by first | exact Kd.R_nil _ _ _ _ _ | exact Kd.N_nil _ _ _ _ _ | exact Kd.V_nil _ _ _ _ _ | exact Kd.Q_nil _ _ _ _ _ | exact Kd.S_nil _ _ _ _ _⟩, ⟨by (with_reducible repeat (first | refine YF ?_ _ | refine YG ?_ | refine YH ?_ _)); refine blk_put (cs := #[.int .i64 (Go.bits .and .i64 a1 65535), .slice none 0 0]) ?_ 1 _ rfl; (with_reducible repeat (first | refine YF ?_ _ | refine YG ?_ | refine YH ?_ _)); refine blk_put (cs := #[.int .i64 0, .slice none 0 0]) ?_ 0 _ rfl; (with_reducible repeat (first | refine YF ?_ _ | refine YG ?_ | refine YH ?_ _)); exact BK353.out⟩, ⟨by repeat (first | (with_reducible first | exact HB.out | apply YA | apply YB | apply YC | refine below_set ?_ GE353.out) | exact HB.out)⟩⟩
      case round =>
        clear H'
        try clear c1; try clear p2
        try clear c5; try clear c5b0
        try clear c6; try clear c6b0
        try clear p6; try clear c9
        try clear c10; try clear c10b0
        try clear c10b1; try clear q12_0
        try clear q12_1; try clear f12_0
        try clear f12_1; try clear p2
        obtain ⟨x8_2, x10_2, x36_2, x354000_2, x354001_2, u354001, rfl, rfl, HA, HK2, HO_8, HO_354001, BK353, HB⟩ := hrel
        cases gk with
        | zero => exact absurd HA.out (by simp [batch_Pack.l0])
        | succ k2 =>
          have H := HA.out
          clear HA
          simp only [batch_Pack.l0] at H
          by_cases c13 : x36_2 < (l0.length : Int)
          · rw [if_pos c13] at H
            have c13b0 : decide (x36_2 < (l0.length : Int)) = true := decide_eq_true c13
            clear c13
            by_cases c14 : 0 ≤ x36_2
            rotate_left
            · rw [if_neg c14] at H
              exact absurd H (by simp)
            rw [if_pos c14] at H; have c14b0 : decide (0 ≤ x36_2) = true := decide_eq_true c14; clear c14
            by_cases c15 : x36_2 < (l0.length : Int)
            rotate_left
            · rw [if_neg c15] at H
              exact absurd H (by simp)
            rw [if_pos c15] at H
            have c15b0 : decide (x36_2 < (l0.length : Int)) = true := decide_eq_true c15
            clear c15; replace H := Option.bind_eq_some_iff.mp H; obtain ⟨t359, A160, H⟩ := H
            replace H : (if t359 ≤ x10_2 then (if (x354001_2.length : Int) < 32 then (if x36_2 < (l0.length : Int) then (if x354001_2.length < 1466015503701 then (batch_Pack.l0 k2 l0 a2 x8_2 (wrap64 (x10_2 - t359)) l0 (l0.length : Int) (wrap64 (x36_2 + 1)) x354000_2 (x354001_2 ++ [(⟨(rd_T45 l0 x36_2).f0, (rd_T45 l0 x36_2).f1, (⟨(rd_T45 l0 x36_2).f2.f0, (rd_T45 l0 x36_2).f2.f1, (rd_T45 l0 x36_2).f2.f2, (rd_T45 l0 x36_2).f2.f3, (rd_T45 l0 x36_2).f2.f4, (rd_T45 l0 x36_2).f2.f5⟩ : S41), (⟨(rd_T45 l0 x36_2).f3.f0, (rd_T45 l0 x36_2).f3.f1, (rd_T45 l0 x36_2).f3.f2⟩ : S43), (rd_T45 l0 x36_2).f4⟩ : S45)])) else (none)) else (none)) else (if x8_2.length < 4398046511104 then ((serial_Next.f x354000_2).bind fun t367 => (batch_Pack.l0 k2 l0 a2 (x8_2 ++ [(⟨x354000_2, x354001_2⟩ : S24)]) (wrap64 ((wrap64 (a2 - 3)) - t359)) l0 (l0.length : Int) (wrap64 (x36_2 + 1)) t367 (([(⟨(rd_T45 l0 x36_2).f0, (rd_T45 l0 x36_2).f1, (⟨(rd_T45 l0 x36_2).f2.f0, (rd_T45 l0 x36_2).f2.f1, (rd_T45 l0 x36_2).f2.f2, (rd_T45 l0 x36_2).f2.f3, (rd_T45 l0 x36_2).f2.f4, (rd_T45 l0 x36_2).f2.f5⟩ : S41), (⟨(rd_T45 l0 x36_2).f3.f0, (rd_T45 l0 x36_2).f3.f1, (rd_T45 l0 x36_2).f3.f2⟩ : S43), (rd_T45 l0 x36_2).f4⟩ : S45)] : List (S45))))) else (none))) else (if x8_2.length < 4398046511104 then ((serial_Next.f x354000_2).bind fun t374 => (batch_Pack.l0 k2 l0 a2 (x8_2 ++ [(⟨x354000_2, x354001_2⟩ : S24)]) (wrap64 ((wrap64 (a2 - 3)) - t359)) l0 (l0.length : Int) (wrap64 (x36_2 + 1)) t374 (([(⟨(rd_T45 l0 x36_2).f0, (rd_T45 l0 x36_2).f1, (⟨(rd_T45 l0 x36_2).f2.f0, (rd_T45 l0 x36_2).f2.f1, (rd_T45 l0 x36_2).f2.f2, (rd_T45 l0 x36_2).f2.f3, (rd_T45 l0 x36_2).f2.f4, (rd_T45 l0 x36_2).f2.f5⟩ : S41), (⟨(rd_T45 l0 x36_2).f3.f0, (rd_T45 l0 x36_2).f3.f1, (rd_T45 l0 x36_2).f3.f2⟩ : S43), (rd_T45 l0 x36_2).f4⟩ : S45)] : List (S45))))) else (none))) = some (r1, r2) := H
            have A16 := YL A160; clear A160
            by_cases c17 : t359 ≤ x10_2
            · rw [if_pos c17] at H
              have c17b0 : decide (t359 ≤ x10_2) = true := decide_eq_true c17; clear c17
              by_cases c18 : (x354001_2.length : Int) < 32
              · rw [if_pos c18] at H
                have c18b0 : decide ((x354001_2.length : Int) < 32) = true := decide_eq_true c18
                have c18b1 : decide (x354001_2.length < 32) = true := decide_eq_true (by omega)
                clear c18
                by_cases c19 : x36_2 < (l0.length : Int)
                rotate_left
                · rw [if_neg c19] at H
                  exact absurd H (by simp)
                rw [if_pos c19] at H
                have c19b0 : decide (x36_2 < (l0.length : Int)) = true := decide_eq_true c19
                clear c19
                by_cases c20 : x354001_2.length < 1466015503701
                rotate_left
                · rw [if_neg c20] at H
                  exact absurd H (by simp)
                rw [if_pos c20] at H; have LMc20 := YL c20; clear c20
                obtain ⟨y361, hy361⟩ : ∃ y_ : List (S45), y_ = (x354001_2 ++ [(⟨(rd_T45 l0 x36_2).f0, (rd_T45 l0 x36_2).f1, (⟨(rd_T45 l0 x36_2).f2.f0, (rd_T45 l0 x36_2).f2.f1, (rd_T45 l0 x36_2).f2.f2, (rd_T45 l0 x36_2).f2.f3, (rd_T45 l0 x36_2).f2.f4, (rd_T45 l0 x36_2).f2.f5⟩ : S41), (⟨(rd_T45 l0 x36_2).f3.f0, (rd_T45 l0 x36_2).f3.f1, (rd_T45 l0 x36_2).f3.f2⟩ : S43), (rd_T45 l0 x36_2).f4⟩ : S45)]) := ⟨_, rfl⟩
                replace H : (batch_Pack.l0 k2 l0 a2 x8_2 (wrap64 (x10_2 - t359)) l0 (l0.length : Int) (wrap64 (x36_2 + 1)) x354000_2 y361) = some (r1, r2) := by first | (rw [hy361]; with_reducible exact H) | (have H2_ := (Option.bind_some _ _).symm.trans H; rw [hy361]; with_reducible exact H2_) | (have H2_ := (Option.bind_some _ _).symm.trans H; with_reducible exact H2_) | with_reducible exact H | (rw [hy361]; exact H) | exact H
                have Ny361 := YL hy361; clear hy361
                have H' := YL H
                clear H
                have p357 : 0 ≤ (x36_2 : Int) := of_decide_eq_true (by first | (with_reducible assumption) | assumption)
                have q357 : x36_2 < (l0.length : Int) := of_decide_eq_true (by first | (with_reducible assumption) | assumption)
                obtain ⟨ad357, e357, hx357_0, hx357_1, hx357_2, hx357_3, hx357_4, hx357_5, hx357_6, hx357_7, hx357_8, hx357_9, hx357_10, hx357_11⟩ := at_T45 HR0.out x36_2 p357 q357
                cases e357
                replace hx357_0 := (HB.out.cell (World.block_lt_of_cell? w _ hx357_0)).trans hx357_0
                replace hx357_1 := (HB.out.cell (World.block_lt_of_cell? w _ hx357_1)).trans hx357_1
                replace hx357_2 := (HB.out.cell (World.block_lt_of_cell? w _ hx357_2)).trans hx357_2
                replace hx357_3 := (HB.out.cell (World.block_lt_of_cell? w _ hx357_3)).trans hx357_3
                replace hx357_4 := (HB.out.cell (World.block_lt_of_cell? w _ hx357_4)).trans hx357_4
                replace hx357_5 := (HB.out.cell (World.block_lt_of_cell? w _ hx357_5)).trans hx357_5
                replace hx357_6 := (HB.out.cell (World.block_lt_of_cell? w _ hx357_6)).trans hx357_6
                replace hx357_7 := (HB.out.cell (World.block_lt_of_cell? w _ hx357_7)).trans hx357_7
                replace hx357_8 := (HB.out.cell (World.block_lt_of_cell? w _ hx357_8)).trans hx357_8
                replace hx357_9 := (HB.out.cell (World.block_lt_of_cell? w _ hx357_9)).trans hx357_9
                replace hx357_10 := (HB.out.cell (World.block_lt_of_cell? w _ hx357_10)).trans hx357_10
                replace hx357_11 := (HB.out.cell (World.block_lt_of_cell? w _ hx357_11)).trans hx357_11
                replace p357 := eq_true p357
                replace q357 := eq_true q357
                try go_wp2_with (first | go_step3 | ((with_reducible refine gate_dst (N := 12) rfl ?_); (try (refine gate_guard (by rfl) ?_; dsimp only)); refine box_event ?hg (N := 12) ?hd (cs := #[.int .i64 0, .int .i64 0, .bool false, .int .i64 0, .int .i64 0, .int .i64 0, .int .i64 0, .int .i64 0, .int .i64 0, .int .i64 0, .int .i64 0, .int .i64 0]) (t := 45) ?hr ?_; (case hd => rfl); (case hg => rfl); (case hr => first | (go_simp; done) | (go_simp; rfl)); intro gb358 hg w21 hbox hb; have n0_ := YL (Kd.S_below (Kd.S_elderB (by (with_reducible repeat (first | apply Kd.S_alloc | apply Kd.S_drewN | apply Kd.S_drew)); exact HO_8.out) gb358 (Nat.le_of_eq hg.symm)) hb); have n1_ := YL (YV (Kd.R_elderB (by (with_reducible repeat (first | apply YS | apply YT | apply YU)); exact HO_354001.out) gb358 (Nat.le_of_eq hg.symm)) hb); have n2_ := YL (YK (g := gb353) (o := .cells #[.int .i64 x354000_2, u354001] 24 (0, 0)) (by (with_reducible repeat (first | refine YF ?_ _ | refine YG ?_ | refine YH ?_ _)); exact BK353.out) hb); have n3_ := YL (YD (by repeat (first | (with_reducible first | exact HB.out | apply YA | apply YB | apply YC | refine below_set ?_ GE353.out) | exact HB.out)) hb); have n4_ := YL (hbox); have n5_ := YL ((by rw [hg]; exact (YE (by repeat (first | (with_reducible first | exact HB.out | apply YA | apply YB | apply YC | refine below_set ?_ GE353.out) | exact HB.out))) : w.heap.size ≤ gb358)); have n6_ := YL ((by rw [hg]; exact (YE (by repeat (first | (with_reducible first | exact HB.out | apply YA | apply YB | apply YC | refine below_set ?_ GE353.out) | exact HB.out))) : w.heap.size ≤ gb358)); have n7_ := YL ((by rw [hg]; exact Nat.ne_of_lt (blk_lt (g := gb353) (o := .cells #[.int .i64 x354000_2, u354001] 24 (0, 0)) (by (with_reducible repeat (first | refine YF ?_ _ | refine YG ?_ | refine YH ?_ _)); exact BK353.out)) : gb353 ≠ gb358)); have n8_ := YL ((by rw [hg]; exact Nat.ne_of_gt (blk_lt (g := gb353) (o := .cells #[.int .i64 x354000_2, u354001] 24 (0, 0)) (by (with_reducible repeat (first | refine YF ?_ _ | refine YG ?_ | refine YH ?_ _)); exact BK353.out)) : gb358 ≠ gb353)); clear HO_8; clear HO_354001; clear BK353; clear HB; have HO_8 := n0_; have HO_354001 := n1_; have BK353 := n2_; have HB := n3_; have BK358 := n4_; have GW358 := n5_; have GE358 := n6_; have NB353_358 := n7_; have NB358_353 := n8_; clear n0_ n1_ n2_ n3_ n4_ n5_ n6_ n7_ n8_; clear hb hbox hg; have hnb22 := NB358_353.out; have hnc22 := NB353_358.out; have q23_0 : w21.cell? ⟨gb358, 0, none⟩ = some (.int .i64 0) := (YI BK358.out 0).trans rfl; have q23_1 : w21.cell? ⟨gb358, 1, none⟩ = some (.int .i64 0) := (YI BK358.out 1).trans rfl; have q23_2 : w21.cell? ⟨gb358, 2, none⟩ = some (.bool false) := (YI BK358.out 2).trans rfl; have q23_3 : w21.cell? ⟨gb358, 3, none⟩ = some (.int .i64 0) := (YI BK358.out 3).trans rfl; have q23_4 : w21.cell? ⟨gb358, 4, none⟩ = some (.int .i64 0) := (YI BK358.out 4).trans rfl; have q23_5 : w21.cell? ⟨gb358, 5, none⟩ = some (.int .i64 0) := (YI BK358.out 5).trans rfl; have q23_6 : w21.cell? ⟨gb358, 6, none⟩ = some (.int .i64 0) := (YI BK358.out 6).trans rfl; have q23_7 : w21.cell? ⟨gb358, 7, none⟩ = some (.int .i64 0) := (YI BK358.out 7).trans rfl; have q23_8 : w21.cell? ⟨gb358, 8, none⟩ = some (.int .i64 0) := (YI BK358.out 8).trans rfl; have q23_9 : w21.cell? ⟨gb358, 9, none⟩ = some (.int .i64 0) := (YI BK358.out 9).trans rfl; have q23_10 : w21.cell? ⟨gb358, 10, none⟩ = some (.int .i64 0) := (YI BK358.out 10).trans rfl; have q23_11 : w21.cell? ⟨gb358, 11, none⟩ = some (.int .i64 0) := (YI BK358.out 11).trans rfl; have f23_0 := YJ BK358.out 0; have f23_1 := YJ BK358.out 1; have f23_2 := YJ BK358.out 2; have f23_3 := YJ BK358.out 3; have f23_4 := YJ BK358.out 4; have f23_5 := YJ BK358.out 5; have f23_6 := YJ BK358.out 6; have f23_7 := YJ BK358.out 7; have f23_8 := YJ BK358.out 8; have f23_9 := YJ BK358.out 9; have f23_10 := YJ BK358.out 10; have f23_11 := YJ BK358.out 11) | ((with_reducible refine gate_callee (f := 18) rfl ?_); refine goesL_ (some 42) rfl rfl Try.func18 (by kernel_rfl) rfl #[.agg #[.int .i64 ((rd_T45 l0 x36_2).f0), .int .i64 ((rd_T45 l0 x36_2).f1), .bool ((rd_T45 l0 x36_2).f2.f0), .int .i64 ((rd_T45 l0 x36_2).f2.f1), .int .i64 ((rd_T45 l0 x36_2).f2.f2), .int .i64 ((rd_T45 l0 x36_2).f2.f3), .int .i64 ((rd_T45 l0 x36_2).f2.f4), .int .i64 ((rd_T45 l0 x36_2).f2.f5), .int .i64 ((rd_T45 l0 x36_2).f3.f0), .int .i64 ((rd_T45 l0 x36_2).f3.f1), .int .i64 ((rd_T45 l0 x36_2).f3.f2), .int .i64 ((rd_T45 l0 x36_2).f4)]] rfl (by (try simp only [YP, List.map_cons, List.map_nil]); first | done | rfl | (simp only [YR, YQ]; rfl)) ?_; (with_reducible refine (object_Size.calls k2 ((rd_T45 l0 x36_2).f0) ((rd_T45 l0 x36_2).f1) ((rd_T45 l0 x36_2).f2.f0) ((rd_T45 l0 x36_2).f2.f1) ((rd_T45 l0 x36_2).f2.f2) ((rd_T45 l0 x36_2).f2.f3) ((rd_T45 l0 x36_2).f2.f4) ((rd_T45 l0 x36_2).f2.f5) ((rd_T45 l0 x36_2).f3.f0) ((rd_T45 l0 x36_2).f3.f1) ((rd_T45 l0 x36_2).f3.f2) ((rd_T45 l0 x36_2).f4) t359 _ A16.out).mono ?_); rintro e w24 ⟨rfl, hb⟩; refine ⟨_, rfl, ?_⟩; have n0_ := YL (Kd.S_below (by (with_reducible repeat (first | apply Kd.S_alloc | apply Kd.S_drewN | apply Kd.S_drew)); exact (Kd.S_mono (Kd.S_far (p := ⟨gb358, 11, none⟩) (Kd.S_far (p := ⟨gb358, 10, none⟩) (Kd.S_far (p := ⟨gb358, 9, none⟩) (Kd.S_far (p := ⟨gb358, 8, none⟩) (Kd.S_far (p := ⟨gb358, 7, none⟩) (Kd.S_far (p := ⟨gb358, 6, none⟩) (Kd.S_far (p := ⟨gb358, 5, none⟩) (Kd.S_far (p := ⟨gb358, 4, none⟩) (Kd.S_far (p := ⟨gb358, 3, none⟩) (Kd.S_far (p := ⟨gb358, 2, none⟩) (Kd.S_far (p := ⟨gb358, 1, none⟩) (Kd.S_far (p := ⟨gb358, 0, none⟩) (Kd.S_mono HO_8.out (fun k_ hk => (⟨hk, hk.2⟩ : _ ∧ k_ ≠ gb358))) (fun _ hk => hk.2) (.int .i64 ((rd_T45 l0 x36_2).f0))) (fun _ hk => hk.2) (.int .i64 ((rd_T45 l0 x36_2).f1))) (fun _ hk => hk.2) (.bool ((rd_T45 l0 x36_2).f2.f0))) (fun _ hk => hk.2) (.int .i64 ((rd_T45 l0 x36_2).f2.f1))) (fun _ hk => hk.2) (.int .i64 ((rd_T45 l0 x36_2).f2.f2))) (fun _ hk => hk.2) (.int .i64 ((rd_T45 l0 x36_2).f2.f3))) (fun _ hk => hk.2) (.int .i64 ((rd_T45 l0 x36_2).f2.f4))) (fun _ hk => hk.2) (.int .i64 ((rd_T45 l0 x36_2).f2.f5))) (fun _ hk => hk.2) (.int .i64 ((rd_T45 l0 x36_2).f3.f0))) (fun _ hk => hk.2) (.int .i64 ((rd_T45 l0 x36_2).f3.f1))) (fun _ hk => hk.2) (.int .i64 ((rd_T45 l0 x36_2).f3.f2))) (fun _ hk => hk.2) (.int .i64 ((rd_T45 l0 x36_2).f4))) (fun _ h_ => h_.1))) hb); have n1_ := YL (YV (by (with_reducible repeat (first | apply YS | apply YT | apply YU)); exact (Kd.R_mono (Kd.R_far (p := ⟨gb358, 11, none⟩) (Kd.R_far (p := ⟨gb358, 10, none⟩) (Kd.R_far (p := ⟨gb358, 9, none⟩) (Kd.R_far (p := ⟨gb358, 8, none⟩) (Kd.R_far (p := ⟨gb358, 7, none⟩) (Kd.R_far (p := ⟨gb358, 6, none⟩) (Kd.R_far (p := ⟨gb358, 5, none⟩) (Kd.R_far (p := ⟨gb358, 4, none⟩) (Kd.R_far (p := ⟨gb358, 3, none⟩) (Kd.R_far (p := ⟨gb358, 2, none⟩) (Kd.R_far (p := ⟨gb358, 1, none⟩) (Kd.R_far (p := ⟨gb358, 0, none⟩) (Kd.R_mono HO_354001.out (fun k_ hk => (⟨hk, hk.2⟩ : _ ∧ k_ ≠ gb358))) (fun _ hk => hk.2) (.int .i64 ((rd_T45 l0 x36_2).f0))) (fun _ hk => hk.2) (.int .i64 ((rd_T45 l0 x36_2).f1))) (fun _ hk => hk.2) (.bool ((rd_T45 l0 x36_2).f2.f0))) (fun _ hk => hk.2) (.int .i64 ((rd_T45 l0 x36_2).f2.f1))) (fun _ hk => hk.2) (.int .i64 ((rd_T45 l0 x36_2).f2.f2))) (fun _ hk => hk.2) (.int .i64 ((rd_T45 l0 x36_2).f2.f3))) (fun _ hk => hk.2) (.int .i64 ((rd_T45 l0 x36_2).f2.f4))) (fun _ hk => hk.2) (.int .i64 ((rd_T45 l0 x36_2).f2.f5))) (fun _ hk => hk.2) (.int .i64 ((rd_T45 l0 x36_2).f3.f0))) (fun _ hk => hk.2) (.int .i64 ((rd_T45 l0 x36_2).f3.f1))) (fun _ hk => hk.2) (.int .i64 ((rd_T45 l0 x36_2).f3.f2))) (fun _ hk => hk.2) (.int .i64 ((rd_T45 l0 x36_2).f4))) (fun _ h_ => h_.1))) hb); have n2_ := YL (YK (g := gb353) (o := .cells #[.int .i64 x354000_2, u354001] 24 (0, 0)) (by (with_reducible repeat (first | refine YF ?_ _ | refine YG ?_ | refine YH ?_ _)); refine blk_far ?_ NB353_358.out _; (with_reducible repeat (first | refine YF ?_ _ | refine YG ?_ | refine YH ?_ _)); refine blk_far ?_ NB353_358.out _; (with_reducible repeat (first | refine YF ?_ _ | refine YG ?_ | refine YH ?_ _)); refine blk_far ?_ NB353_358.out _; (with_reducible repeat (first | refine YF ?_ _ | refine YG ?_ | refine YH ?_ _)); refine blk_far ?_ NB353_358.out _; (with_reducible repeat (first | refine YF ?_ _ | refine YG ?_ | refine YH ?_ _)); refine blk_far ?_ NB353_358.out _; (with_reducible repeat (first | refine YF ?_ _ | refine YG ?_ | refine YH ?_ _)); refine blk_far ?_ NB353_358.out _; (with_reducible repeat (first | refine YF ?_ _ | refine YG ?_ | refine YH ?_ _)); refine blk_far ?_ NB353_358.out _; (with_reducible repeat (first | refine YF ?_ _ | refine YG ?_ | refine YH ?_ _)); refine blk_far ?_ NB353_358.out _; (with_reducible repeat (first | refine YF ?_ _ | refine YG ?_ | refine YH ?_ _)); refine blk_far ?_ NB353_358.out _; (with_reducible repeat (first | refine YF ?_ _ | refine YG ?_ | refine YH ?_ _)); refine blk_far ?_ NB353_358.out _; (with_reducible repeat (first | refine YF ?_ _ | refine YG ?_ | refine YH ?_ _)); refine blk_far ?_ NB353_358.out _; (with_reducible repeat (first | refine YF ?_ _ | refine YG ?_ | refine YH ?_ _)); refine blk_far ?_ NB353_358.out _; (with_reducible repeat (first | refine YF ?_ _ | refine YG ?_ | refine YH ?_ _)); exact BK353.out) hb); have n3_ := YL (YK (g := gb358) (o := .cells #[.int .i64 ((rd_T45 l0 x36_2).f0), .int .i64 ((rd_T45 l0 x36_2).f1), .bool ((rd_T45 l0 x36_2).f2.f0), .int .i64 ((rd_T45 l0 x36_2).f2.f1), .int .i64 ((rd_T45 l0 x36_2).f2.f2), .int .i64 ((rd_T45 l0 x36_2).f2.f3), .int .i64 ((rd_T45 l0 x36_2).f2.f4), .int .i64 ((rd_T45 l0 x36_2).f2.f5), .int .i64 ((rd_T45 l0 x36_2).f3.f0), .int .i64 ((rd_T45 l0 x36_2).f3.f1), .int .i64 ((rd_T45 l0 x36_2).f3.f2), .int .i64 ((rd_T45 l0 x36_2).f4)] 45 (0, 0)) (by (with_reducible repeat (first | refine YF ?_ _ | refine YG ?_ | refine YH ?_ _)); refine blk_put (cs := #[.int .i64 ((rd_T45 l0 x36_2).f0), .int .i64 ((rd_T45 l0 x36_2).f1), .bool ((rd_T45 l0 x36_2).f2.f0), .int .i64 ((rd_T45 l0 x36_2).f2.f1), .int .i64 ((rd_T45 l0 x36_2).f2.f2), .int .i64 ((rd_T45 l0 x36_2).f2.f3), .int .i64 ((rd_T45 l0 x36_2).f2.f4), .int .i64 ((rd_T45 l0 x36_2).f2.f5), .int .i64 ((rd_T45 l0 x36_2).f3.f0), .int .i64 ((rd_T45 l0 x36_2).f3.f1), .int .i64 ((rd_T45 l0 x36_2).f3.f2), .int .i64 0]) ?_ 11 _ rfl; (with_reducible repeat (first | refine YF ?_ _ | refine YG ?_ | refine YH ?_ _)); refine blk_put (cs := #[.int .i64 ((rd_T45 l0 x36_2).f0), .int .i64 ((rd_T45 l0 x36_2).f1), .bool ((rd_T45 l0 x36_2).f2.f0), .int .i64 ((rd_T45 l0 x36_2).f2.f1), .int .i64 ((rd_T45 l0 x36_2).f2.f2), .int .i64 ((rd_T45 l0 x36_2).f2.f3), .int .i64 ((rd_T45 l0 x36_2).f2.f4), .int .i64 ((rd_T45 l0 x36_2).f2.f5), .int .i64 ((rd_T45 l0 x36_2).f3.f0), .int .i64 ((rd_T45 l0 x36_2).f3.f1), .int .i64 0, .int .i64 0]) ?_ 10 _ rfl; (with_reducible repeat (first | refine YF ?_ _ | refine YG ?_ | refine YH ?_ _)); refine blk_put (cs := #[.int .i64 ((rd_T45 l0 x36_2).f0), .int .i64 ((rd_T45 l0 x36_2).f1), .bool ((rd_T45 l0 x36_2).f2.f0), .int .i64 ((rd_T45 l0 x36_2).f2.f1), .int .i64 ((rd_T45 l0 x36_2).f2.f2), .int .i64 ((rd_T45 l0 x36_2).f2.f3), .int .i64 ((rd_T45 l0 x36_2).f2.f4), .int .i64 ((rd_T45 l0 x36_2).f2.f5), .int .i64 ((rd_T45 l0 x36_2).f3.f0), .int .i64 0, .int .i64 0, .int .i64 0]) ?_ 9 _ rfl; (with_reducible repeat (first | refine YF ?_ _ | refine YG ?_ | refine YH ?_ _)); refine blk_put (cs := #[.int .i64 ((rd_T45 l0 x36_2).f0), .int .i64 ((rd_T45 l0 x36_2).f1), .bool ((rd_T45 l0 x36_2).f2.f0), .int .i64 ((rd_T45 l0 x36_2).f2.f1), .int .i64 ((rd_T45 l0 x36_2).f2.f2), .int .i64 ((rd_T45 l0 x36_2).f2.f3), .int .i64 ((rd_T45 l0 x36_2).f2.f4), .int .i64 ((rd_T45 l0 x36_2).f2.f5), .int .i64 0, .int .i64 0, .int .i64 0, .int .i64 0]) ?_ 8 _ rfl; (with_reducible repeat (first | refine YF ?_ _ | refine YG ?_ | refine YH ?_ _)); refine blk_put (cs := #[.int .i64 ((rd_T45 l0 x36_2).f0), .int .i64 ((rd_T45 l0 x36_2).f1), .bool ((rd_T45 l0 x36_2).f2.f0), .int .i64 ((rd_T45 l0 x36_2).f2.f1), .int .i64 ((rd_T45 l0 x36_2).f2.f2), .int .i64 ((rd_T45 l0 x36_2).f2.f3), .int .i64 ((rd_T45 l0 x36_2).f2.f4), .int .i64 0, .int .i64 0, .int .i64 0, .int .i64 0, .int .i64 0]) ?_ 7 _ rfl; (with_reducible repeat (first | refine YF ?_ _ | refine YG ?_ | refine YH ?_ _)); refine blk_put (cs := #[.int .i64 ((rd_T45 l0 x36_2).f0), .int .i64 ((rd_T45 l0 x36_2).f1), .bool ((rd_T45 l0 x36_2).f2.f0), .int .i64 ((rd_T45 l0 x36_2).f2.f1), .int .i64 ((rd_T45 l0 x36_2).f2.f2), .int .i64 ((rd_T45 l0 x36_2).f2.f3), .int .i64 0, .int .i64 0, .int .i64 0, .int .i64 0, .int .i64 0, .int .i64 0]) ?_ 6 _ rfl; (with_reducible repeat (first | refine YF ?_ _ | refine YG ?_ | refine YH ?_ _)); refine blk_put (cs := #[.int .i64 ((rd_T45 l0 x36_2).f0), .int .i64 ((rd_T45 l0 x36_2).f1), .bool ((rd_T45 l0 x36_2).f2.f0), .int .i64 ((rd_T45 l0 x36_2).f2.f1), .int .i64 ((rd_T45 l0 x36_2).f2.f2), .int .i64 0, .int .i64 0, .int .i64 0, .int .i64 0, .int .i64 0, .int .i64 0, .int .i64 0]) ?_ 5 _ rfl; (with_reducible repeat (first | refine YF ?_ _ | refine YG ?_ | refine YH ?_ _)); refine blk_put (cs := #[.int .i64 ((rd_T45 l0 x36_2).f0), .int .i64 ((rd_T45 l0 x36_2).f1), .bool ((rd_T45 l0 x36_2).f2.f0), .int .i64 ((rd_T45 l0 x36_2).f2.f1), .int .i64 0, .int .i64 0, .int .i64 0, .int .i64 0, .int .i64 0, .int .i64 0, .int .i64 0, .int .i64 0]) ?_ 4 _ rfl; (with_reducible repeat (first | refine YF ?_ _ | refine YG ?_ | refine YH ?_ _)); refine blk_put (cs := #[.int .i64 ((rd_T45 l0 x36_2).f0), .int .i64 ((rd_T45 l0 x36_2).f1), .bool ((rd_T45 l0 x36_2).f2.f0), .int .i64 0, .int .i64 0, .int .i64 0, .int .i64 0, .int .i64 0, .int .i64 0, .int .i64 0, .int .i64 0, .int .i64 0]) ?_ 3 _ rfl; (with_reducible repeat (first | refine YF ?_ _ | refine YG ?_ | refine YH ?_ _)); refine blk_put (cs := #[.int .i64 ((rd_T45 l0 x36_2).f0), .int .i64 ((rd_T45 l0 x36_2).f1), .bool false, .int .i64 0, .int .i64 0, .int .i64 0, .int .i64 0, .int .i64 0, .int .i64 0, .int .i64 0, .int .i64 0, .int .i64 0]) ?_ 2 _ rfl; (with_reducible repeat (first | refine YF ?_ _ | refine YG ?_ | refine YH ?_ _)); refine blk_put (cs := #[.int .i64 ((rd_T45 l0 x36_2).f0), .int .i64 0, .bool false, .int .i64 0, .int .i64 0, .int .i64 0, .int .i64 0, .int .i64 0, .int .i64 0, .int .i64 0, .int .i64 0, .int .i64 0]) ?_ 1 _ rfl; (with_reducible repeat (first | refine YF ?_ _ | refine YG ?_ | refine YH ?_ _)); refine blk_put (cs := #[.int .i64 0, .int .i64 0, .bool false, .int .i64 0, .int .i64 0, .int .i64 0, .int .i64 0, .int .i64 0, .int .i64 0, .int .i64 0, .int .i64 0, .int .i64 0]) ?_ 0 _ rfl; (with_reducible repeat (first | refine YF ?_ _ | refine YG ?_ | refine YH ?_ _)); exact BK358.out) hb); have n4_ := YL (YD (by repeat (first | (with_reducible first | exact HB.out | apply YA | apply YB | apply YC | refine below_set ?_ GE353.out | refine below_set ?_ GE358.out) | exact HB.out)) hb); clear HO_8; clear HO_354001; clear BK353; clear BK358; clear HB; have HO_8 := n0_; have HO_354001 := n1_; have BK353 := n2_; have BK358 := n3_; have HB := n4_; clear n0_ n1_ n2_ n3_ n4_; (try clear hb); (try clear hb2); (try clear hk); (try clear hi); have q25_0 : w24.cell? ⟨gb353, 0, none⟩ = some (.int .i64 x354000_2) := (YI BK353.out 0).trans rfl; have q25_1 : w24.cell? ⟨gb353, 1, none⟩ = some (u354001) := (YI BK353.out 1).trans rfl; have f25_0 := YJ BK353.out 0; have f25_1 := YJ BK353.out 1; obtain ⟨Ao26, co26, eo26⟩ := Kd.R_slice HO_354001.out; subst eo26))
                have n0_ := YL (Kd.S_drew HO_8.out)
                have n1_ := YL (YU HO_354001.out)
                have n2_ := YL (YG BK353.out)
                have n3_ := YL (YG BK358.out)
                have n4_ := YL (YC HB.out)
                clear HO_8; clear HO_354001; clear BK353; clear BK358; clear HB; have HO_8 := n0_; have HO_354001 := n1_; have BK353 := n2_; have BK358 := n3_; have HB := n4_; clear n0_ n1_ n2_ n3_ n4_
                have p360 : 0 ≤ (x36_2 : Int) := of_decide_eq_true (by first | (with_reducible assumption) | assumption)
                have q360 : x36_2 < (l0.length : Int) := of_decide_eq_true (by first | (with_reducible assumption) | assumption)
                obtain ⟨ad360, e360, hx360_0, hx360_1, hx360_2, hx360_3, hx360_4, hx360_5, hx360_6, hx360_7, hx360_8, hx360_9, hx360_10, hx360_11⟩ := at_T45 HR0.out x36_2 p360 q360
                have hw360_11 := hx360_11
                have hw360_10 := hx360_10
                have hw360_9 := hx360_9
                have hw360_8 := hx360_8
                have hw360_7 := hx360_7
                have hw360_6 := hx360_6
                have hw360_5 := hx360_5
                have hw360_4 := hx360_4
                have hw360_3 := hx360_3
                have hw360_2 := hx360_2
                have hw360_1 := hx360_1
                have hw360_0 := hx360_0
                obtain rfl : ad357 = ad360 := (by injection e360)
                replace hx360_0 := (HB.out.cell (World.block_lt_of_cell? w _ hx360_0)).trans hx360_0
                replace hx360_1 := (HB.out.cell (World.block_lt_of_cell? w _ hx360_1)).trans hx360_1
                replace hx360_2 := (HB.out.cell (World.block_lt_of_cell? w _ hx360_2)).trans hx360_2
                replace hx360_3 := (HB.out.cell (World.block_lt_of_cell? w _ hx360_3)).trans hx360_3
                replace hx360_4 := (HB.out.cell (World.block_lt_of_cell? w _ hx360_4)).trans hx360_4
                replace hx360_5 := (HB.out.cell (World.block_lt_of_cell? w _ hx360_5)).trans hx360_5
                replace hx360_6 := (HB.out.cell (World.block_lt_of_cell? w _ hx360_6)).trans hx360_6
                replace hx360_7 := (HB.out.cell (World.block_lt_of_cell? w _ hx360_7)).trans hx360_7
                replace hx360_8 := (HB.out.cell (World.block_lt_of_cell? w _ hx360_8)).trans hx360_8
                replace hx360_9 := (HB.out.cell (World.block_lt_of_cell? w _ hx360_9)).trans hx360_9
                replace hx360_10 := (HB.out.cell (World.block_lt_of_cell? w _ hx360_10)).trans hx360_10
                replace hx360_11 := (HB.out.cell (World.block_lt_of_cell? w _ hx360_11)).trans hx360_11
                replace p360 := eq_true p360
                replace q360 := eq_true q360
                refine start_ (n := 10) (S := fun w' => w'.cell? ⟨gb353, 0, none⟩ = some (.int .i64 x354000_2) ∧ w'.cell? ⟨gb353, 1, none⟩ = some (.slice Ao26 x354001_2.length co26) ∧ w'.cell? (ad357.add ((x36_2).toNat * 12)) = some (.int .i64 ((rd_T45 l0 x36_2).f0)) ∧ w'.cell? ⟨(ad357.add ((x36_2).toNat * 12)).block, (ad357.add ((x36_2).toNat * 12)).off + 1, none⟩ = some (.int .i64 ((rd_T45 l0 x36_2).f1)) ∧ w'.cell? ⟨(ad357.add ((x36_2).toNat * 12)).block, (ad357.add ((x36_2).toNat * 12)).off + 2, none⟩ = some (.bool ((rd_T45 l0 x36_2).f2.f0)) ∧ w'.cell? ⟨(ad357.add ((x36_2).toNat * 12)).block, (ad357.add ((x36_2).toNat * 12)).off + 3, none⟩ = some (.int .i64 ((rd_T45 l0 x36_2).f2.f1)) ∧ w'.cell? ⟨(ad357.add ((x36_2).toNat * 12)).block, (ad357.add ((x36_2).toNat * 12)).off + 4, none⟩ = some (.int .i64 ((rd_T45 l0 x36_2).f2.f2)) ∧ w'.cell? ⟨(ad357.add ((x36_2).toNat * 12)).block, (ad357.add ((x36_2).toNat * 12)).off + 5, none⟩ = some (.int .i64 ((rd_T45 l0 x36_2).f2.f3)) ∧ w'.cell? ⟨(ad357.add ((x36_2).toNat * 12)).block, (ad357.add ((x36_2).toNat * 12)).off + 6, none⟩ = some (.int .i64 ((rd_T45 l0 x36_2).f2.f4)) ∧ w'.cell? ⟨(ad357.add ((x36_2).toNat * 12)).block, (ad357.add ((x36_2).toNat * 12)).off + 7, none⟩ = some (.int .i64 ((rd_T45 l0 x36_2).f2.f5)) ∧ w'.cell? ⟨(ad357.add ((x36_2).toNat * 12)).block, (ad357.add ((x36_2).toNat * 12)).off + 8, none⟩ = some (.int .i64 ((rd_T45 l0 x36_2).f3.f0)) ∧ w'.cell? ⟨(ad357.add ((x36_2).toNat * 12)).block, (ad357.add ((x36_2).toNat * 12)).off + 9, none⟩ = some (.int .i64 ((rd_T45 l0 x36_2).f3.f1)) ∧ w'.cell? ⟨(ad357.add ((x36_2).toNat * 12)).block, (ad357.add ((x36_2).toNat * 12)).off + 10, none⟩ = some (.int .i64 ((rd_T45 l0 x36_2).f3.f2)) ∧ w'.cell? ⟨(ad357.add ((x36_2).toNat * 12)).block, (ad357.add ((x36_2).toNat * 12)).off + 11, none⟩ = some (.int .i64 ((rd_T45 l0 x36_2).f4))) (ds := [9]) #[false, false, false, false, false, false, false, false, false, false] (by kernel_rfl) rfl rfl ⟨(YI BK353.out 0).trans rfl, (YI BK353.out 1).trans rfl, ((HB.out.cell (World.block_lt_of_cell? w _ hw360_0)).trans hw360_0), ((HB.out.cell (World.block_lt_of_cell? w _ hw360_1)).trans hw360_1), ((HB.out.cell (World.block_lt_of_cell? w _ hw360_2)).trans hw360_2), ((HB.out.cell (World.block_lt_of_cell? w _ hw360_3)).trans hw360_3), ((HB.out.cell (World.block_lt_of_cell? w _ hw360_4)).trans hw360_4), ((HB.out.cell (World.block_lt_of_cell? w _ hw360_5)).trans hw360_5), ((HB.out.cell (World.block_lt_of_cell? w _ hw360_6)).trans hw360_6), ((HB.out.cell (World.block_lt_of_cell? w _ hw360_7)).trans hw360_7), ((HB.out.cell (World.block_lt_of_cell? w _ hw360_8)).trans hw360_8), ((HB.out.cell (World.block_lt_of_cell? w _ hw360_9)).trans hw360_9), ((HB.out.cell (World.block_lt_of_cell? w _ hw360_10)).trans hw360_10), ((HB.out.cell (World.block_lt_of_cell? w _ hw360_11)).trans hw360_11)⟩ (fun hHeld => ?_); refine with_tabW batch_Pack.tab13 batch_Pack.bits13 (fun HT_ HW_ => ?_)
                generalize w24.drew = w27 at HO_8 HO_354001 BK353 BK358 HB hx360_0 hx360_1 hx360_10 hx360_11 hx360_2 hx360_3 hx360_4 hx360_5 hx360_6 hx360_7 hx360_8 hx360_9 hHeld ⊢
                refine pure_ (i := 0) (N := some 52) (v := ?_) (a' := ?_) #[true, false, false, false, false, false, false, false, false, false] rfl rfl (any_of HT_.out (by kernel_rfl)) (fun _ _ _ h => h) (Or.inl ⟨by rfl, ?_⟩) ?_ ?_
                rotate_left
                · intro w'
                  go_simp; with_reducible rfl
                rotate_left
                · simp only [Act.put, YM, YN, YO, i64_w, i32_w]
                  rfl
                refine pure_ (i := 2) (N := some 54) (v := ?_) (a' := ?_) #[true, false, true, false, false, false, false, false, false, false] rfl rfl (any_of HT_.out (by kernel_rfl)) (fun _ _ _ h => h) (Or.inl ⟨by rfl, ?_⟩) ?_ ?_
                rotate_left
                · intro w'
                  go_simp; with_reducible rfl
                rotate_left
                · simp only [Act.put, YM, YN, YO, i64_w, i32_w]
                  rfl
                refine pure_ (i := 3) (N := some 55) (v := ?_) (a' := ?_) #[true, false, true, true, false, false, false, false, false, false] rfl rfl (any_of HT_.out (by kernel_rfl)) (fun _ _ _ h => h) (Or.inl ⟨by rfl, ?_⟩) ?_ ?_
                rotate_left
                · intro w'
                  go_simp; with_reducible rfl
                rotate_left
                · simp only [Act.put, YM, YN, YO, i64_w, i32_w]
                  rfl
                refine pure_ (i := 4) (N := some 56) (v := ?_) (a' := ?_) #[true, false, true, true, true, false, false, false, false, false] rfl rfl (any_of HT_.out (by kernel_rfl)) (fun _ _ _ h => h) (Or.inl ⟨by rfl, ?_⟩) ?_ ?_
                rotate_left
                · intro w'
                  go_simp; with_reducible rfl
                rotate_left
                · simp only [Act.put, YM, YN, YO, i64_w, i32_w]
                  rfl
                refine take_ (i := 1) (N := some 53) (v := ?_) (a' := ?_) #[true, true, true, true, true, false, false, false, false, false] rfl rfl (take_ofW HT_.out HW_.out (by kernel_rfl)) (fun _ _ _ h => h) (Or.inl ⟨by rfl, ?_⟩) hHeld ?_ ?_
                rotate_left
                · rintro w' ⟨s0, s1, s2, s3, s4, s5, s6, s7, s8, s9, s10, s11, s12, s13⟩
                  go_simp; with_reducible rfl
                rotate_left
                · simp only [Act.put, YM, YN, YO, i64_w, i32_w]
                  rfl
                refine take_ (i := 5) (N := some 57) (v := ?_) (a' := ?_) #[true, true, true, true, true, true, false, false, false, false] rfl rfl (take_ofW HT_.out HW_.out (by kernel_rfl)) (fun _ _ _ h => h) (Or.inl ⟨by rfl, ?_⟩) hHeld ?_ ?_
                rotate_left
                · rintro w' ⟨s0, s1, s2, s3, s4, s5, s6, s7, s8, s9, s10, s11, s12, s13⟩
                  go_simp; with_reducible rfl
                rotate_left
                · simp only [Act.put, YM, YN, YO, i64_w, i32_w]
                  rfl
                refine one_ (i := 6) (N := some 58) #[true, true, true, true, true, true, true, false, false, false] rfl rfl (one_of HT_.out (by kernel_rfl)) (by decide) (fun K hK => ?_)
                refine value_ (w1 := ?_) (v := ?_) (by rfl) rfl ?_ ?_
                rotate_left 2
                · go_simp
                  constructor
                  · rfl
                  rfl
                refine hK.out _ _ ⟨(YI (YH BK353.out _) 0).trans rfl, (YI (YH BK353.out _) 1).trans rfl, (World.cell?_alloc_lt _ _ _ (World.block_lt_of_cell? _ _ (((HB.out.cell (World.block_lt_of_cell? w _ hw360_0)).trans hw360_0)))).trans (((HB.out.cell (World.block_lt_of_cell? w _ hw360_0)).trans hw360_0)), (World.cell?_alloc_lt _ _ _ (World.block_lt_of_cell? _ _ (((HB.out.cell (World.block_lt_of_cell? w _ hw360_1)).trans hw360_1)))).trans (((HB.out.cell (World.block_lt_of_cell? w _ hw360_1)).trans hw360_1)), (World.cell?_alloc_lt _ _ _ (World.block_lt_of_cell? _ _ (((HB.out.cell (World.block_lt_of_cell? w _ hw360_2)).trans hw360_2)))).trans (((HB.out.cell (World.block_lt_of_cell? w _ hw360_2)).trans hw360_2)), (World.cell?_alloc_lt _ _ _ (World.block_lt_of_cell? _ _ (((HB.out.cell (World.block_lt_of_cell? w _ hw360_3)).trans hw360_3)))).trans (((HB.out.cell (World.block_lt_of_cell? w _ hw360_3)).trans hw360_3)), (World.cell?_alloc_lt _ _ _ (World.block_lt_of_cell? _ _ (((HB.out.cell (World.block_lt_of_cell? w _ hw360_4)).trans hw360_4)))).trans (((HB.out.cell (World.block_lt_of_cell? w _ hw360_4)).trans hw360_4)), (World.cell?_alloc_lt _ _ _ (World.block_lt_of_cell? _ _ (((HB.out.cell (World.block_lt_of_cell? w _ hw360_5)).trans hw360_5)))).trans (((HB.out.cell (World.block_lt_of_cell? w _ hw360_5)).trans hw360_5)), (World.cell?_alloc_lt _ _ _ (World.block_lt_of_cell? _ _ (((HB.out.cell (World.block_lt_of_cell? w _ hw360_6)).trans hw360_6)))).trans (((HB.out.cell (World.block_lt_of_cell? w _ hw360_6)).trans hw360_6)), (World.cell?_alloc_lt _ _ _ (World.block_lt_of_cell? _ _ (((HB.out.cell (World.block_lt_of_cell? w _ hw360_7)).trans hw360_7)))).trans (((HB.out.cell (World.block_lt_of_cell? w _ hw360_7)).trans hw360_7)), (World.cell?_alloc_lt _ _ _ (World.block_lt_of_cell? _ _ (((HB.out.cell (World.block_lt_of_cell? w _ hw360_8)).trans hw360_8)))).trans (((HB.out.cell (World.block_lt_of_cell? w _ hw360_8)).trans hw360_8)), (World.cell?_alloc_lt _ _ _ (World.block_lt_of_cell? _ _ (((HB.out.cell (World.block_lt_of_cell? w _ hw360_9)).trans hw360_9)))).trans (((HB.out.cell (World.block_lt_of_cell? w _ hw360_9)).trans hw360_9)), (World.cell?_alloc_lt _ _ _ (World.block_lt_of_cell? _ _ (((HB.out.cell (World.block_lt_of_cell? w _ hw360_10)).trans hw360_10)))).trans (((HB.out.cell (World.block_lt_of_cell? w _ hw360_10)).trans hw360_10)), (World.cell?_alloc_lt _ _ _ (World.block_lt_of_cell? _ _ (((HB.out.cell (World.block_lt_of_cell? w _ hw360_11)).trans hw360_11)))).trans (((HB.out.cell (World.block_lt_of_cell? w _ hw360_11)).trans hw360_11))⟩ (fun hHeld => ?_)
                clear hK K
                refine norm_ (a' := ?_) ?_ ?_
                rotate_left
                · show Act.put _ (some 58) _ = _
                  simp only [Act.put, YM, YN, YO, i64_w, i32_w]
                  rfl
                refine one_ (i := 7) (N := some 59) #[true, true, true, true, true, true, true, true, false, false] rfl rfl (one_of HT_.out (by kernel_rfl)) (by decide) (fun K hK => ?_)
                refine Kd.R_append_step k45 (w0 := w) w.heap.size (by rfl) (.tmp 53) (.tmp 58) 22 45 (.agg #[(.int .i64 0), (.int .i64 0), (.bool false), (.int .i64 0), (.int .i64 0), (.int .i64 0), (.int .i64 0), (.int .i64 0), (.int .i64 0), (.int .i64 0), (.int .i64 0), (.int .i64 0)]) 96 rfl Try.underlying22 info45 rfl (by decide) (by omega) (.slice Ao26 x354001_2.length co26) x354001_2 (⟨(rd_T45 l0 x36_2).f0, (rd_T45 l0 x36_2).f1, (⟨(rd_T45 l0 x36_2).f2.f0, (rd_T45 l0 x36_2).f2.f1, (rd_T45 l0 x36_2).f2.f2, (rd_T45 l0 x36_2).f2.f3, (rd_T45 l0 x36_2).f2.f4, (rd_T45 l0 x36_2).f2.f5⟩ : S41), (⟨(rd_T45 l0 x36_2).f3.f0, (rd_T45 l0 x36_2).f3.f1, (rd_T45 l0 x36_2).f3.f2⟩ : S43), (rd_T45 l0 x36_2).f4⟩ : S45) [.int .i64 ((rd_T45 l0 x36_2).f0), .int .i64 ((rd_T45 l0 x36_2).f1), .bool ((rd_T45 l0 x36_2).f2.f0), .int .i64 ((rd_T45 l0 x36_2).f2.f1), .int .i64 ((rd_T45 l0 x36_2).f2.f2), .int .i64 ((rd_T45 l0 x36_2).f2.f3), .int .i64 ((rd_T45 l0 x36_2).f2.f4), .int .i64 ((rd_T45 l0 x36_2).f2.f5), .int .i64 ((rd_T45 l0 x36_2).f3.f0), .int .i64 ((rd_T45 l0 x36_2).f3.f1), .int .i64 ((rd_T45 l0 x36_2).f3.f2), .int .i64 ((rd_T45 l0 x36_2).f4)] (fun k_ => k_ ≠ gb358) (fun _ => False) rfl rfl ?aP (fun _ hk => hk.elim) ?aF ?aO ?aB ?aS ?aL ?_
                (case aP => exact k45_mkM _ _ _ (⟨(rd_T45 l0 x36_2).f0, (rd_T45 l0 x36_2).f1, (⟨(rd_T45 l0 x36_2).f2.f0, (rd_T45 l0 x36_2).f2.f1, (rd_T45 l0 x36_2).f2.f2, (rd_T45 l0 x36_2).f2.f3, (rd_T45 l0 x36_2).f2.f4, (rd_T45 l0 x36_2).f2.f5⟩ : S41), (⟨(rd_T45 l0 x36_2).f3.f0, (rd_T45 l0 x36_2).f3.f1, (rd_T45 l0 x36_2).f3.f2⟩ : S43), (rd_T45 l0 x36_2).f4⟩ : S45))
                (case aB => exact (by repeat (first | (with_reducible first | exact HB.out | apply YA | apply YB | apply YC | refine below_set ?_ GE353.out | refine below_set ?_ GE358.out) | exact HB.out)))
                (case aF => exact (fun k_ hk => Kd.freshB (g := gb358) (o := .cells #[.int .i64 ((rd_T45 l0 x36_2).f0), .int .i64 ((rd_T45 l0 x36_2).f1), .bool ((rd_T45 l0 x36_2).f2.f0), .int .i64 ((rd_T45 l0 x36_2).f2.f1), .int .i64 ((rd_T45 l0 x36_2).f2.f2), .int .i64 ((rd_T45 l0 x36_2).f2.f3), .int .i64 ((rd_T45 l0 x36_2).f2.f4), .int .i64 ((rd_T45 l0 x36_2).f2.f5), .int .i64 ((rd_T45 l0 x36_2).f3.f0), .int .i64 ((rd_T45 l0 x36_2).f3.f1), .int .i64 ((rd_T45 l0 x36_2).f3.f2), .int .i64 ((rd_T45 l0 x36_2).f4)] 45 (0, 0)) (by (with_reducible repeat (first | refine YF ?_ _ | refine YG ?_ | refine YH ?_ _)); exact BK358.out) k_ hk))
                (case aO => exact (by (with_reducible repeat (first | apply YS | apply YT | apply YU)); exact Kd.R_mono HO_354001.out (fun _ hk => by first | exact hk.2 | exact trivial | (simp [hk]; done) | simp_all)))
                (case aS => exact (YE (by repeat (first | (with_reducible first | exact HB.out | apply YA | apply YB | apply YC | refine below_set ?_ GE353.out | refine below_set ?_ GE358.out) | exact HB.out))))
                (case aL => have := LMc20.out; omega)
                intro v362 w28 ho hb hg hat
                rw [← Ny361.out] at ho
                have n0_ := YL (Kd.S_after (ok := (fun k_ => k_ ≠ gb353 ∧ k_ ≠ gb358)) (by (with_reducible repeat (first | apply Kd.S_alloc | apply Kd.S_drewN | apply Kd.S_drew)); exact Kd.S_mono HO_8.out (fun _ hk => by first | exact ⟨⟨hk.1.2, hk.2⟩, hk.1.1⟩ | exact trivial | (simp [hk]; done) | simp_all)) hg hat)
                have n1_ := YL (blk_grown (g := gb353) (o := .cells #[.int .i64 x354000_2, .slice Ao26 x354001_2.length co26] 24 (0, 0)) (by (with_reducible repeat (first | refine YF ?_ _ | refine YG ?_ | refine YH ?_ _)); exact BK353.out) hg (Kd.R_ne HO_354001.out BK353.out (by decide)))
                have n2_ := YL (blk_grown (g := gb358) (o := .cells #[.int .i64 ((rd_T45 l0 x36_2).f0), .int .i64 ((rd_T45 l0 x36_2).f1), .bool ((rd_T45 l0 x36_2).f2.f0), .int .i64 ((rd_T45 l0 x36_2).f2.f1), .int .i64 ((rd_T45 l0 x36_2).f2.f2), .int .i64 ((rd_T45 l0 x36_2).f2.f3), .int .i64 ((rd_T45 l0 x36_2).f2.f4), .int .i64 ((rd_T45 l0 x36_2).f2.f5), .int .i64 ((rd_T45 l0 x36_2).f3.f0), .int .i64 ((rd_T45 l0 x36_2).f3.f1), .int .i64 ((rd_T45 l0 x36_2).f3.f2), .int .i64 ((rd_T45 l0 x36_2).f4)] 45 (0, 0)) (by (with_reducible repeat (first | refine YF ?_ _ | refine YG ?_ | refine YH ?_ _)); exact BK358.out) hg (Kd.R_away HO_354001.out (fun _ hk => hk.2)))
                have n3_ := YL (hb)
                have n4_ := YL (ho)
                clear HO_8; clear BK353; clear BK358; clear HB; clear HO_354001; have HO_8 := n0_; have BK353 := n1_; have BK358 := n2_; have HB := n3_; have HO363 := n4_; clear n0_ n1_ n2_ n3_ n4_; clear ho hb hg hat
                obtain ⟨Ao29, co29, eo29⟩ := Kd.R_slice HO363.out
                (first | subst eo29 | (injection eo29 with f1_ f2_ f3_; have f4_ := f1_.symm; have f5_ := f3_.symm; clear f1_ f2_ f3_; subst f4_; subst f5_))
                refine hK.out _ _ ⟨(YI BK353.out 0).trans rfl, (YI BK353.out 1).trans rfl, ((HB.out.cell (World.block_lt_of_cell? w _ hw360_0)).trans hw360_0), ((HB.out.cell (World.block_lt_of_cell? w _ hw360_1)).trans hw360_1), ((HB.out.cell (World.block_lt_of_cell? w _ hw360_2)).trans hw360_2), ((HB.out.cell (World.block_lt_of_cell? w _ hw360_3)).trans hw360_3), ((HB.out.cell (World.block_lt_of_cell? w _ hw360_4)).trans hw360_4), ((HB.out.cell (World.block_lt_of_cell? w _ hw360_5)).trans hw360_5), ((HB.out.cell (World.block_lt_of_cell? w _ hw360_6)).trans hw360_6), ((HB.out.cell (World.block_lt_of_cell? w _ hw360_7)).trans hw360_7), ((HB.out.cell (World.block_lt_of_cell? w _ hw360_8)).trans hw360_8), ((HB.out.cell (World.block_lt_of_cell? w _ hw360_9)).trans hw360_9), ((HB.out.cell (World.block_lt_of_cell? w _ hw360_10)).trans hw360_10), ((HB.out.cell (World.block_lt_of_cell? w _ hw360_11)).trans hw360_11)⟩ (fun hHeld => ?_)
                clear hK K
                refine norm_ (a' := ?_) ?_ ?_
                rotate_left
                · show Act.put _ (some 59) _ = _
                  simp only [Act.put, YM, YN, YO, i64_w, i32_w]
                  rfl
                refine pure_ (i := 8) (N := some 60) (v := ?_) (a' := ?_) #[true, true, true, true, true, true, true, true, true, false] rfl rfl (any_of HT_.out (by kernel_rfl)) (fun _ _ _ h => h) (Or.inl ⟨by rfl, ?_⟩) ?_ ?_
                rotate_left
                · intro w'
                  go_simp; with_reducible rfl
                rotate_left
                · simp only [Act.put, YM, YN, YO, i64_w, i32_w]
                  rfl
                refine last_ (i := 9) (N := none) #[true, true, true, true, true, true, true, true, true, true] rfl rfl (one_of HT_.out (by kernel_rfl)) (by decide) (fun K hK => ?_)
                have hs30 : w28.cell? ⟨gb353, 1, none⟩ = some (.slice Ao26 x354001_2.length co26) := (YI BK353.out 1).trans rfl
                have hfs30 := YJ BK353.out 1
                have hns30_1 := NB358_353.out
                have hms30_1 := NB353_358.out
                refine skip_ (w1 := ?_) (by rfl) rfl ?_ ?_
                rotate_left
                · go_simp
                  rfl
                refine hK.out _ _ ?_
                clear hK K
                refine done_ (done_of HT_.out (by kernel_rfl)) ?_
                try go_wp2_with (go_step3)
                go_roundg k2
                case measure => have := HJ3.out; have := HK2.out; omega
                case rel => exact ⟨(x8_2), (wrap64 (x10_2 - t359)), (wrap64 (x36_2 + 1)), (x354000_2), (y361), (.slice Ao29 y361.length co29), (by first | rfl | (simp; done) | (simp [*]; done)), (by first | rfl | (simp; done) | (simp [*]; done)), H', ⟨by have := HJ3.out; have := HK2.out; omega⟩, ⟨by (with_reducible repeat (first | apply Kd.S_alloc | apply Kd.S_drewN | apply Kd.S_drew)); exact Kd.S_mono (Kd.S_far (p := ⟨gb353, 1, none⟩) (Kd.S_mono HO_8.out (fun k_ hk => (⟨hk, hk.1.1⟩ : _ ∧ k_ ≠ gb353))) (fun _ hk => hk.2) (.slice Ao29 y361.length co29)) (fun _ hk => ⟨hk.1.2, hk.1.1.1⟩)⟩, ⟨by (with_reducible repeat (first | apply YS | apply YT | apply YU)); exact Kd.R_mono (Kd.R_far (p := ⟨gb353, 1, none⟩) (Kd.R_types HO363.out BK353.out (by decide)) (fun _ hk => hk.2) (.slice Ao29 y361.length co29)) (fun _ hk => trivial)⟩, ⟨by (with_reducible repeat (first | refine YF ?_ _ | refine YG ?_ | refine YH ?_ _)); refine blk_put (cs := #[.int .i64 x354000_2, .slice Ao26 x354001_2.length co26]) ?_ 1 _ rfl; (with_reducible repeat (first | refine YF ?_ _ | refine YG ?_ | refine YH ?_ _)); exact BK353.out⟩, ⟨by repeat (first | (with_reducible first | exact HB.out | apply YA | apply YB | apply YC | refine below_set ?_ GE353.out | refine below_set ?_ GE358.out) | exact HB.out)⟩⟩
              rw [if_neg c18] at H
              have c18b0 : decide ((x354001_2.length : Int) < 32) = false := decide_eq_false c18
              have c18b1 : decide (x354001_2.length < 32) = false := decide_eq_false (by omega)
              clear c18
              by_cases c31 : x8_2.length < 4398046511104
              rotate_left
              · rw [if_neg c31] at H
                exact absurd H (by simp)
              rw [if_pos c31] at H; have LMc31 := YL c31; clear c31
              obtain ⟨y364, hy364⟩ : ∃ y_ : List (S24), y_ = (x8_2 ++ [(⟨x354000_2, x354001_2⟩ : S24)]) := ⟨_, rfl⟩
              replace H : ((serial_Next.f x354000_2).bind fun t367 => (batch_Pack.l0 k2 l0 a2 y364 (wrap64 ((wrap64 (a2 - 3)) - t359)) l0 (l0.length : Int) (wrap64 (x36_2 + 1)) t367 (([(⟨(rd_T45 l0 x36_2).f0, (rd_T45 l0 x36_2).f1, (⟨(rd_T45 l0 x36_2).f2.f0, (rd_T45 l0 x36_2).f2.f1, (rd_T45 l0 x36_2).f2.f2, (rd_T45 l0 x36_2).f2.f3, (rd_T45 l0 x36_2).f2.f4, (rd_T45 l0 x36_2).f2.f5⟩ : S41), (⟨(rd_T45 l0 x36_2).f3.f0, (rd_T45 l0 x36_2).f3.f1, (rd_T45 l0 x36_2).f3.f2⟩ : S43), (rd_T45 l0 x36_2).f4⟩ : S45)] : List (S45))))) = some (r1, r2) := by first | (rw [hy364]; with_reducible exact H) | (have H2_ := (Option.bind_some _ _).symm.trans H; rw [hy364]; with_reducible exact H2_) | (have H2_ := (Option.bind_some _ _).symm.trans H; with_reducible exact H2_) | with_reducible exact H | (rw [hy364]; exact H) | exact H
              have Ny364 := YL hy364; clear hy364; replace H := Option.bind_eq_some_iff.mp H; obtain ⟨t367, A320, H⟩ := H
              replace H : (batch_Pack.l0 k2 l0 a2 y364 (wrap64 ((wrap64 (a2 - 3)) - t359)) l0 (l0.length : Int) (wrap64 (x36_2 + 1)) t367 (([(⟨(rd_T45 l0 x36_2).f0, (rd_T45 l0 x36_2).f1, (⟨(rd_T45 l0 x36_2).f2.f0, (rd_T45 l0 x36_2).f2.f1, (rd_T45 l0 x36_2).f2.f2, (rd_T45 l0 x36_2).f2.f3, (rd_T45 l0 x36_2).f2.f4, (rd_T45 l0 x36_2).f2.f5⟩ : S41), (⟨(rd_T45 l0 x36_2).f3.f0, (rd_T45 l0 x36_2).f3.f1, (rd_T45 l0 x36_2).f3.f2⟩ : S43), (rd_T45 l0 x36_2).f4⟩ : S45)] : List (S45)))) = some (r1, r2) := H
              have A32 := YL A320; clear A320
              obtain ⟨y368, hy368⟩ : ∃ y_ : List (S45), y_ = (([(⟨(rd_T45 l0 x36_2).f0, (rd_T45 l0 x36_2).f1, (⟨(rd_T45 l0 x36_2).f2.f0, (rd_T45 l0 x36_2).f2.f1, (rd_T45 l0 x36_2).f2.f2, (rd_T45 l0 x36_2).f2.f3, (rd_T45 l0 x36_2).f2.f4, (rd_T45 l0 x36_2).f2.f5⟩ : S41), (⟨(rd_T45 l0 x36_2).f3.f0, (rd_T45 l0 x36_2).f3.f1, (rd_T45 l0 x36_2).f3.f2⟩ : S43), (rd_T45 l0 x36_2).f4⟩ : S45)] : List (S45))) := ⟨_, rfl⟩
              replace H : (batch_Pack.l0 k2 l0 a2 y364 (wrap64 ((wrap64 (a2 - 3)) - t359)) l0 (l0.length : Int) (wrap64 (x36_2 + 1)) t367 y368) = some (r1, r2) := by first | (rw [hy368]; with_reducible exact H) | (have H2_ := (Option.bind_some _ _).symm.trans H; rw [hy368]; with_reducible exact H2_) | (have H2_ := (Option.bind_some _ _).symm.trans H; with_reducible exact H2_) | with_reducible exact H | (rw [hy368]; exact H) | exact H
              have Ny368 := YL hy368; clear hy368
              have H' := YL H
              clear H
              have p357 : 0 ≤ (x36_2 : Int) := of_decide_eq_true (by first | (with_reducible assumption) | assumption)
              have q357 : x36_2 < (l0.length : Int) := of_decide_eq_true (by first | (with_reducible assumption) | assumption)
              obtain ⟨ad357, e357, hx357_0, hx357_1, hx357_2, hx357_3, hx357_4, hx357_5, hx357_6, hx357_7, hx357_8, hx357_9, hx357_10, hx357_11⟩ := at_T45 HR0.out x36_2 p357 q357
              cases e357
              replace hx357_0 := (HB.out.cell (World.block_lt_of_cell? w _ hx357_0)).trans hx357_0
              replace hx357_1 := (HB.out.cell (World.block_lt_of_cell? w _ hx357_1)).trans hx357_1
              replace hx357_2 := (HB.out.cell (World.block_lt_of_cell? w _ hx357_2)).trans hx357_2
              replace hx357_3 := (HB.out.cell (World.block_lt_of_cell? w _ hx357_3)).trans hx357_3
              replace hx357_4 := (HB.out.cell (World.block_lt_of_cell? w _ hx357_4)).trans hx357_4
              replace hx357_5 := (HB.out.cell (World.block_lt_of_cell? w _ hx357_5)).trans hx357_5
              replace hx357_6 := (HB.out.cell (World.block_lt_of_cell? w _ hx357_6)).trans hx357_6
              replace hx357_7 := (HB.out.cell (World.block_lt_of_cell? w _ hx357_7)).trans hx357_7
              replace hx357_8 := (HB.out.cell (World.block_lt_of_cell? w _ hx357_8)).trans hx357_8
              replace hx357_9 := (HB.out.cell (World.block_lt_of_cell? w _ hx357_9)).trans hx357_9
              replace hx357_10 := (HB.out.cell (World.block_lt_of_cell? w _ hx357_10)).trans hx357_10
              replace hx357_11 := (HB.out.cell (World.block_lt_of_cell? w _ hx357_11)).trans hx357_11
              replace p357 := eq_true p357
              replace q357 := eq_true q357
              try go_wp2_with (first | go_step3 | ((with_reducible refine gate_dst (N := 12) rfl ?_); (try (refine gate_guard (by rfl) ?_; dsimp only)); refine box_event ?hg (N := 12) ?hd (cs := #[.int .i64 0, .int .i64 0, .bool false, .int .i64 0, .int .i64 0, .int .i64 0, .int .i64 0, .int .i64 0, .int .i64 0, .int .i64 0, .int .i64 0, .int .i64 0]) (t := 45) ?hr ?_; (case hd => rfl); (case hg => rfl); (case hr => first | (go_simp; done) | (go_simp; rfl)); intro gb358 hg w33 hbox hb; have n0_ := YL (Kd.S_below (Kd.S_elderB (by (with_reducible repeat (first | apply Kd.S_alloc | apply Kd.S_drewN | apply Kd.S_drew)); exact HO_8.out) gb358 (Nat.le_of_eq hg.symm)) hb); have n1_ := YL (YV (Kd.R_elderB (by (with_reducible repeat (first | apply YS | apply YT | apply YU)); exact HO_354001.out) gb358 (Nat.le_of_eq hg.symm)) hb); have n2_ := YL (YK (g := gb353) (o := .cells #[.int .i64 x354000_2, u354001] 24 (0, 0)) (by (with_reducible repeat (first | refine YF ?_ _ | refine YG ?_ | refine YH ?_ _)); exact BK353.out) hb); have n3_ := YL (YD (by repeat (first | (with_reducible first | exact HB.out | apply YA | apply YB | apply YC | refine below_set ?_ GE353.out) | exact HB.out)) hb); have n4_ := YL (hbox); have n5_ := YL ((by rw [hg]; exact (YE (by repeat (first | (with_reducible first | exact HB.out | apply YA | apply YB | apply YC | refine below_set ?_ GE353.out) | exact HB.out))) : w.heap.size ≤ gb358)); have n6_ := YL ((by rw [hg]; exact (YE (by repeat (first | (with_reducible first | exact HB.out | apply YA | apply YB | apply YC | refine below_set ?_ GE353.out) | exact HB.out))) : w.heap.size ≤ gb358)); have n7_ := YL ((by rw [hg]; exact Nat.ne_of_lt (blk_lt (g := gb353) (o := .cells #[.int .i64 x354000_2, u354001] 24 (0, 0)) (by (with_reducible repeat (first | refine YF ?_ _ | refine YG ?_ | refine YH ?_ _)); exact BK353.out)) : gb353 ≠ gb358)); have n8_ := YL ((by rw [hg]; exact Nat.ne_of_gt (blk_lt (g := gb353) (o := .cells #[.int .i64 x354000_2, u354001] 24 (0, 0)) (by (with_reducible repeat (first | refine YF ?_ _ | refine YG ?_ | refine YH ?_ _)); exact BK353.out)) : gb358 ≠ gb353)); clear HO_8; clear HO_354001; clear BK353; clear HB; have HO_8 := n0_; have HO_354001 := n1_; have BK353 := n2_; have HB := n3_; have BK358 := n4_; have GW358 := n5_; have GE358 := n6_; have NB353_358 := n7_; have NB358_353 := n8_; clear n0_ n1_ n2_ n3_ n4_ n5_ n6_ n7_ n8_; clear hb hbox hg; have hnb34 := NB358_353.out; have hnc34 := NB353_358.out; have q35_0 : w33.cell? ⟨gb358, 0, none⟩ = some (.int .i64 0) := (YI BK358.out 0).trans rfl; have q35_1 : w33.cell? ⟨gb358, 1, none⟩ = some (.int .i64 0) := (YI BK358.out 1).trans rfl; have q35_2 : w33.cell? ⟨gb358, 2, none⟩ = some (.bool false) := (YI BK358.out 2).trans rfl; have q35_3 : w33.cell? ⟨gb358, 3, none⟩ = some (.int .i64 0) := (YI BK358.out 3).trans rfl; have q35_4 : w33.cell? ⟨gb358, 4, none⟩ = some (.int .i64 0) := (YI BK358.out 4).trans rfl; have q35_5 : w33.cell? ⟨gb358, 5, none⟩ = some (.int .i64 0) := (YI BK358.out 5).trans rfl; have q35_6 : w33.cell? ⟨gb358, 6, none⟩ = some (.int .i64 0) := (YI BK358.out 6).trans rfl; have q35_7 : w33.cell? ⟨gb358, 7, none⟩ = some (.int .i64 0) := (YI BK358.out 7).trans rfl; have q35_8 : w33.cell? ⟨gb358, 8, none⟩ = some (.int .i64 0) := (YI BK358.out 8).trans rfl; have q35_9 : w33.cell? ⟨gb358, 9, none⟩ = some (.int .i64 0) := (YI BK358.out 9).trans rfl; have q35_10 : w33.cell? ⟨gb358, 10, none⟩ = some (.int .i64 0) := (YI BK358.out 10).trans rfl; have q35_11 : w33.cell? ⟨gb358, 11, none⟩ = some (.int .i64 0) := (YI BK358.out 11).trans rfl; have f35_0 := YJ BK358.out 0; have f35_1 := YJ BK358.out 1; have f35_2 := YJ BK358.out 2; have f35_3 := YJ BK358.out 3; have f35_4 := YJ BK358.out 4; have f35_5 := YJ BK358.out 5; have f35_6 := YJ BK358.out 6; have f35_7 := YJ BK358.out 7; have f35_8 := YJ BK358.out 8; have f35_9 := YJ BK358.out 9; have f35_10 := YJ BK358.out 10; have f35_11 := YJ BK358.out 11) | ((with_reducible refine gate_callee (f := 18) rfl ?_); refine goesL_ (some 42) rfl rfl Try.func18 (by kernel_rfl) rfl #[.agg #[.int .i64 ((rd_T45 l0 x36_2).f0), .int .i64 ((rd_T45 l0 x36_2).f1), .bool ((rd_T45 l0 x36_2).f2.f0), .int .i64 ((rd_T45 l0 x36_2).f2.f1), .int .i64 ((rd_T45 l0 x36_2).f2.f2), .int .i64 ((rd_T45 l0 x36_2).f2.f3), .int .i64 ((rd_T45 l0 x36_2).f2.f4), .int .i64 ((rd_T45 l0 x36_2).f2.f5), .int .i64 ((rd_T45 l0 x36_2).f3.f0), .int .i64 ((rd_T45 l0 x36_2).f3.f1), .int .i64 ((rd_T45 l0 x36_2).f3.f2), .int .i64 ((rd_T45 l0 x36_2).f4)]] rfl (by (try simp only [YP, List.map_cons, List.map_nil]); first | done | rfl | (simp only [YR, YQ]; rfl)) ?_; (with_reducible refine (object_Size.calls k2 ((rd_T45 l0 x36_2).f0) ((rd_T45 l0 x36_2).f1) ((rd_T45 l0 x36_2).f2.f0) ((rd_T45 l0 x36_2).f2.f1) ((rd_T45 l0 x36_2).f2.f2) ((rd_T45 l0 x36_2).f2.f3) ((rd_T45 l0 x36_2).f2.f4) ((rd_T45 l0 x36_2).f2.f5) ((rd_T45 l0 x36_2).f3.f0) ((rd_T45 l0 x36_2).f3.f1) ((rd_T45 l0 x36_2).f3.f2) ((rd_T45 l0 x36_2).f4) t359 _ A16.out).mono ?_); rintro e w36 ⟨rfl, hb⟩; refine ⟨_, rfl, ?_⟩; have n0_ := YL (Kd.S_below (by (with_reducible repeat (first | apply Kd.S_alloc | apply Kd.S_drewN | apply Kd.S_drew)); exact (Kd.S_mono (Kd.S_far (p := ⟨gb358, 11, none⟩) (Kd.S_far (p := ⟨gb358, 10, none⟩) (Kd.S_far (p := ⟨gb358, 9, none⟩) (Kd.S_far (p := ⟨gb358, 8, none⟩) (Kd.S_far (p := ⟨gb358, 7, none⟩) (Kd.S_far (p := ⟨gb358, 6, none⟩) (Kd.S_far (p := ⟨gb358, 5, none⟩) (Kd.S_far (p := ⟨gb358, 4, none⟩) (Kd.S_far (p := ⟨gb358, 3, none⟩) (Kd.S_far (p := ⟨gb358, 2, none⟩) (Kd.S_far (p := ⟨gb358, 1, none⟩) (Kd.S_far (p := ⟨gb358, 0, none⟩) (Kd.S_mono HO_8.out (fun k_ hk => (⟨hk, hk.2⟩ : _ ∧ k_ ≠ gb358))) (fun _ hk => hk.2) (.int .i64 ((rd_T45 l0 x36_2).f0))) (fun _ hk => hk.2) (.int .i64 ((rd_T45 l0 x36_2).f1))) (fun _ hk => hk.2) (.bool ((rd_T45 l0 x36_2).f2.f0))) (fun _ hk => hk.2) (.int .i64 ((rd_T45 l0 x36_2).f2.f1))) (fun _ hk => hk.2) (.int .i64 ((rd_T45 l0 x36_2).f2.f2))) (fun _ hk => hk.2) (.int .i64 ((rd_T45 l0 x36_2).f2.f3))) (fun _ hk => hk.2) (.int .i64 ((rd_T45 l0 x36_2).f2.f4))) (fun _ hk => hk.2) (.int .i64 ((rd_T45 l0 x36_2).f2.f5))) (fun _ hk => hk.2) (.int .i64 ((rd_T45 l0 x36_2).f3.f0))) (fun _ hk => hk.2) (.int .i64 ((rd_T45 l0 x36_2).f3.f1))) (fun _ hk => hk.2) (.int .i64 ((rd_T45 l0 x36_2).f3.f2))) (fun _ hk => hk.2) (.int .i64 ((rd_T45 l0 x36_2).f4))) (fun _ h_ => h_.1))) hb); have n1_ := YL (YV (by (with_reducible repeat (first | apply YS | apply YT | apply YU)); exact (Kd.R_mono (Kd.R_far (p := ⟨gb358, 11, none⟩) (Kd.R_far (p := ⟨gb358, 10, none⟩) (Kd.R_far (p := ⟨gb358, 9, none⟩) (Kd.R_far (p := ⟨gb358, 8, none⟩) (Kd.R_far (p := ⟨gb358, 7, none⟩) (Kd.R_far (p := ⟨gb358, 6, none⟩) (Kd.R_far (p := ⟨gb358, 5, none⟩) (Kd.R_far (p := ⟨gb358, 4, none⟩) (Kd.R_far (p := ⟨gb358, 3, none⟩) (Kd.R_far (p := ⟨gb358, 2, none⟩) (Kd.R_far (p := ⟨gb358, 1, none⟩) (Kd.R_far (p := ⟨gb358, 0, none⟩) (Kd.R_mono HO_354001.out (fun k_ hk => (⟨hk, hk.2⟩ : _ ∧ k_ ≠ gb358))) (fun _ hk => hk.2) (.int .i64 ((rd_T45 l0 x36_2).f0))) (fun _ hk => hk.2) (.int .i64 ((rd_T45 l0 x36_2).f1))) (fun _ hk => hk.2) (.bool ((rd_T45 l0 x36_2).f2.f0))) (fun _ hk => hk.2) (.int .i64 ((rd_T45 l0 x36_2).f2.f1))) (fun _ hk => hk.2) (.int .i64 ((rd_T45 l0 x36_2).f2.f2))) (fun _ hk => hk.2) (.int .i64 ((rd_T45 l0 x36_2).f2.f3))) (fun _ hk => hk.2) (.int .i64 ((rd_T45 l0 x36_2).f2.f4))) (fun _ hk => hk.2) (.int .i64 ((rd_T45 l0 x36_2).f2.f5))) (fun _ hk => hk.2) (.int .i64 ((rd_T45 l0 x36_2).f3.f0))) (fun _ hk => hk.2) (.int .i64 ((rd_T45 l0 x36_2).f3.f1))) (fun _ hk => hk.2) (.int .i64 ((rd_T45 l0 x36_2).f3.f2))) (fun _ hk => hk.2) (.int .i64 ((rd_T45 l0 x36_2).f4))) (fun _ h_ => h_.1))) hb); have n2_ := YL (YK (g := gb353) (o := .cells #[.int .i64 x354000_2, u354001] 24 (0, 0)) (by (with_reducible repeat (first | refine YF ?_ _ | refine YG ?_ | refine YH ?_ _)); refine blk_far ?_ NB353_358.out _; (with_reducible repeat (first | refine YF ?_ _ | refine YG ?_ | refine YH ?_ _)); refine blk_far ?_ NB353_358.out _; (with_reducible repeat (first | refine YF ?_ _ | refine YG ?_ | refine YH ?_ _)); refine blk_far ?_ NB353_358.out _; (with_reducible repeat (first | refine YF ?_ _ | refine YG ?_ | refine YH ?_ _)); refine blk_far ?_ NB353_358.out _; (with_reducible repeat (first | refine YF ?_ _ | refine YG ?_ | refine YH ?_ _)); refine blk_far ?_ NB353_358.out _; (with_reducible repeat (first | refine YF ?_ _ | refine YG ?_ | refine YH ?_ _)); refine blk_far ?_ NB353_358.out _; (with_reducible repeat (first | refine YF ?_ _ | refine YG ?_ | refine YH ?_ _)); refine blk_far ?_ NB353_358.out _; (with_reducible repeat (first | refine YF ?_ _ | refine YG ?_ | refine YH ?_ _)); refine blk_far ?_ NB353_358.out _; (with_reducible repeat (first | refine YF ?_ _ | refine YG ?_ | refine YH ?_ _)); refine blk_far ?_ NB353_358.out _; (with_reducible repeat (first | refine YF ?_ _ | refine YG ?_ | refine YH ?_ _)); refine blk_far ?_ NB353_358.out _; (with_reducible repeat (first | refine YF ?_ _ | refine YG ?_ | refine YH ?_ _)); refine blk_far ?_ NB353_358.out _; (with_reducible repeat (first | refine YF ?_ _ | refine YG ?_ | refine YH ?_ _)); refine blk_far ?_ NB353_358.out _; (with_reducible repeat (first | refine YF ?_ _ | refine YG ?_ | refine YH ?_ _)); exact BK353.out) hb); have n3_ := YL (YK (g := gb358) (o := .cells #[.int .i64 ((rd_T45 l0 x36_2).f0), .int .i64 ((rd_T45 l0 x36_2).f1), .bool ((rd_T45 l0 x36_2).f2.f0), .int .i64 ((rd_T45 l0 x36_2).f2.f1), .int .i64 ((rd_T45 l0 x36_2).f2.f2), .int .i64 ((rd_T45 l0 x36_2).f2.f3), .int .i64 ((rd_T45 l0 x36_2).f2.f4), .int .i64 ((rd_T45 l0 x36_2).f2.f5), .int .i64 ((rd_T45 l0 x36_2).f3.f0), .int .i64 ((rd_T45 l0 x36_2).f3.f1), .int .i64 ((rd_T45 l0 x36_2).f3.f2), .int .i64 ((rd_T45 l0 x36_2).f4)] 45 (0, 0)) (by (with_reducible repeat (first | refine YF ?_ _ | refine YG ?_ | refine YH ?_ _)); refine blk_put (cs := #[.int .i64 ((rd_T45 l0 x36_2).f0), .int .i64 ((rd_T45 l0 x36_2).f1), .bool ((rd_T45 l0 x36_2).f2.f0), .int .i64 ((rd_T45 l0 x36_2).f2.f1), .int .i64 ((rd_T45 l0 x36_2).f2.f2), .int .i64 ((rd_T45 l0 x36_2).f2.f3), .int .i64 ((rd_T45 l0 x36_2).f2.f4), .int .i64 ((rd_T45 l0 x36_2).f2.f5), .int .i64 ((rd_T45 l0 x36_2).f3.f0), .int .i64 ((rd_T45 l0 x36_2).f3.f1), .int .i64 ((rd_T45 l0 x36_2).f3.f2), .int .i64 0]) ?_ 11 _ rfl; (with_reducible repeat (first | refine YF ?_ _ | refine YG ?_ | refine YH ?_ _)); refine blk_put (cs := #[.int .i64 ((rd_T45 l0 x36_2).f0), .int .i64 ((rd_T45 l0 x36_2).f1), .bool ((rd_T45 l0 x36_2).f2.f0), .int .i64 ((rd_T45 l0 x36_2).f2.f1), .int .i64 ((rd_T45 l0 x36_2).f2.f2), .int .i64 ((rd_T45 l0 x36_2).f2.f3), .int .i64 ((rd_T45 l0 x36_2).f2.f4), .int .i64 ((rd_T45 l0 x36_2).f2.f5), .int .i64 ((rd_T45 l0 x36_2).f3.f0), .int .i64 ((rd_T45 l0 x36_2).f3.f1), .int .i64 0, .int .i64 0]) ?_ 10 _ rfl; (with_reducible repeat (first | refine YF ?_ _ | refine YG ?_ | refine YH ?_ _)); refine blk_put (cs := #[.int .i64 ((rd_T45 l0 x36_2).f0), .int .i64 ((rd_T45 l0 x36_2).f1), .bool ((rd_T45 l0 x36_2).f2.f0), .int .i64 ((rd_T45 l0 x36_2).f2.f1), .int .i64 ((rd_T45 l0 x36_2).f2.f2), .int .i64 ((rd_T45 l0 x36_2).f2.f3), .int .i64 ((rd_T45 l0 x36_2).f2.f4), .int .i64 ((rd_T45 l0 x36_2).f2.f5), .int .i64 ((rd_T45 l0 x36_2).f3.f0), .int .i64 0, .int .i64 0, .int .i64 0]) ?_ 9 _ rfl; (with_reducible repeat (first | refine YF ?_ _ | refine YG ?_ | refine YH ?_ _)); refine blk_put (cs := #[.int .i64 ((rd_T45 l0 x36_2).f0), .int .i64 ((rd_T45 l0 x36_2).f1), .bool ((rd_T45 l0 x36_2).f2.f0), .int .i64 ((rd_T45 l0 x36_2).f2.f1), .int .i64 ((rd_T45 l0 x36_2).f2.f2), .int .i64 ((rd_T45 l0 x36_2).f2.f3), .int .i64 ((rd_T45 l0 x36_2).f2.f4), .int .i64 ((rd_T45 l0 x36_2).f2.f5), .int .i64 0, .int .i64 0, .int .i64 0, .int .i64 0]) ?_ 8 _ rfl; (with_reducible repeat (first | refine YF ?_ _ | refine YG ?_ | refine YH ?_ _)); refine blk_put (cs := #[.int .i64 ((rd_T45 l0 x36_2).f0), .int .i64 ((rd_T45 l0 x36_2).f1), .bool ((rd_T45 l0 x36_2).f2.f0), .int .i64 ((rd_T45 l0 x36_2).f2.f1), .int .i64 ((rd_T45 l0 x36_2).f2.f2), .int .i64 ((rd_T45 l0 x36_2).f2.f3), .int .i64 ((rd_T45 l0 x36_2).f2.f4), .int .i64 0, .int .i64 0, .int .i64 0, .int .i64 0, .int .i64 0]) ?_ 7 _ rfl; (with_reducible repeat (first | refine YF ?_ _ | refine YG ?_ | refine YH ?_ _)); refine blk_put (cs := #[.int .i64 ((rd_T45 l0 x36_2).f0), .int .i64 ((rd_T45 l0 x36_2).f1), .bool ((rd_T45 l0 x36_2).f2.f0), .int .i64 ((rd_T45 l0 x36_2).f2.f1), .int .i64 ((rd_T45 l0 x36_2).f2.f2), .int .i64 ((rd_T45 l0 x36_2).f2.f3), .int .i64 0, .int .i64 0, .int .i64 0, .int .i64 0, .int .i64 0, .int .i64 0]) ?_ 6 _ rfl; (with_reducible repeat (first | refine YF ?_ _ | refine YG ?_ | refine YH ?_ _)); refine blk_put (cs := #[.int .i64 ((rd_T45 l0 x36_2).f0), .int .i64 ((rd_T45 l0 x36_2).f1), .bool ((rd_T45 l0 x36_2).f2.f0), .int .i64 ((rd_T45 l0 x36_2).f2.f1), .int .i64 ((rd_T45 l0 x36_2).f2.f2), .int .i64 0, .int .i64 0, .int .i64 0, .int .i64 0, .int .i64 0, .int .i64 0, .int .i64 0]) ?_ 5 _ rfl; (with_reducible repeat (first | refine YF ?_ _ | refine YG ?_ | refine YH ?_ _)); refine blk_put (cs := #[.int .i64 ((rd_T45 l0 x36_2).f0), .int .i64 ((rd_T45 l0 x36_2).f1), .bool ((rd_T45 l0 x36_2).f2.f0), .int .i64 ((rd_T45 l0 x36_2).f2.f1), .int .i64 0, .int .i64 0, .int .i64 0, .int .i64 0, .int .i64 0, .int .i64 0, .int .i64 0, .int .i64 0]) ?_ 4 _ rfl; (with_reducible repeat (first | refine YF ?_ _ | refine YG ?_ | refine YH ?_ _)); refine blk_put (cs := #[.int .i64 ((rd_T45 l0 x36_2).f0), .int .i64 ((rd_T45 l0 x36_2).f1), .bool ((rd_T45 l0 x36_2).f2.f0), .int .i64 0, .int .i64 0, .int .i64 0, .int .i64 0, .int .i64 0, .int .i64 0, .int .i64 0, .int .i64 0, .int .i64 0]) ?_ 3 _ rfl; (with_reducible repeat (first | refine YF ?_ _ | refine YG ?_ | refine YH ?_ _)); refine blk_put (cs := #[.int .i64 ((rd_T45 l0 x36_2).f0), .int .i64 ((rd_T45 l0 x36_2).f1), .bool false, .int .i64 0, .int .i64 0, .int .i64 0, .int .i64 0, .int .i64 0, .int .i64 0, .int .i64 0, .int .i64 0, .int .i64 0]) ?_ 2 _ rfl; (with_reducible repeat (first | refine YF ?_ _ | refine YG ?_ | refine YH ?_ _)); refine blk_put (cs := #[.int .i64 ((rd_T45 l0 x36_2).f0), .int .i64 0, .bool false, .int .i64 0, .int .i64 0, .int .i64 0, .int .i64 0, .int .i64 0, .int .i64 0, .int .i64 0, .int .i64 0, .int .i64 0]) ?_ 1 _ rfl; (with_reducible repeat (first | refine YF ?_ _ | refine YG ?_ | refine YH ?_ _)); refine blk_put (cs := #[.int .i64 0, .int .i64 0, .bool false, .int .i64 0, .int .i64 0, .int .i64 0, .int .i64 0, .int .i64 0, .int .i64 0, .int .i64 0, .int .i64 0, .int .i64 0]) ?_ 0 _ rfl; (with_reducible repeat (first | refine YF ?_ _ | refine YG ?_ | refine YH ?_ _)); exact BK358.out) hb); have n4_ := YL (YD (by repeat (first | (with_reducible first | exact HB.out | apply YA | apply YB | apply YC | refine below_set ?_ GE353.out | refine below_set ?_ GE358.out) | exact HB.out)) hb); clear HO_8; clear HO_354001; clear BK353; clear BK358; clear HB; have HO_8 := n0_; have HO_354001 := n1_; have BK353 := n2_; have BK358 := n3_; have HB := n4_; clear n0_ n1_ n2_ n3_ n4_; (try clear hb); (try clear hb2); (try clear hk); (try clear hi); have q37_0 : w36.cell? ⟨gb353, 0, none⟩ = some (.int .i64 x354000_2) := (YI BK353.out 0).trans rfl; have q37_1 : w36.cell? ⟨gb353, 1, none⟩ = some (u354001) := (YI BK353.out 1).trans rfl; have f37_0 := YJ BK353.out 0; have f37_1 := YJ BK353.out 1; obtain ⟨Ao38, co38, eo38⟩ := Kd.R_slice HO_354001.out; subst eo38) | ((with_reducible refine gate_builtin (b := .append) (xs := #[.tmp 64, .tmp 66]) rfl ?_); (try (refine gate_guard (by rfl) ?_; dsimp only)); at_builtin; refine Kd.S_append k24 (w0 := w) w.heap.size rfl (.tmp 64) (.tmp 66) 34 24 (.agg #[(.int .i64 0), (.slice none 0 0)]) 32 rfl Try.underlying34 info24 rfl (by decide) (by omega) u8 x8_2 (⟨x354000_2, x354001_2⟩ : S24) [.int .i64 x354000_2, .slice Ao38 x354001_2.length co38] (fun k_ => k_ ≠ gb353 ∧ k_ ≠ gb358) (fun k_ => some k_ = (.slice Ao38 x354001_2.length co38 : Value).ownBlock) rfl rfl ?aP (fun k_ hk_ => ((Kd.R_mono (ok' := fun k_ => ((fun k_ => k_ ≠ gb353 ∧ k_ ≠ gb358)) k_ ∧ some k_ ≠ (u8 : Value).ownBlock) (Kd.R_types (Kd.R_apart' (HO_354001.out) (Kd.S_typed HO_8.out) (by decide)) BK353.out (by decide)) (fun k_ hk => ⟨⟨hk.2, hk.1.1.2⟩, hk.1.2⟩))).1 k_ hk_.symm) ?aF ?aO ?aB ?aS ?aL ?_; (case aP => exact k24_mkM _ _ _ (⟨x354000_2, x354001_2⟩ : S24) (Kd.R_mono (Kd.R_tight rfl (Kd.R_mono (ok' := fun k_ => ((fun k_ => k_ ≠ gb353 ∧ k_ ≠ gb358)) k_ ∧ some k_ ≠ (u8 : Value).ownBlock) (Kd.R_types (Kd.R_apart' (HO_354001.out) (Kd.S_typed HO_8.out) (by decide)) BK353.out (by decide)) (fun k_ hk => ⟨⟨hk.2, hk.1.1.2⟩, hk.1.2⟩))) (fun _ h_ => h_))); (case aB => exact (by repeat (first | (with_reducible first | exact HB.out | apply YA | apply YB | apply YC | refine below_set ?_ GE353.out | refine below_set ?_ GE358.out) | exact HB.out))); (case aF => exact (fun k_ hk => ⟨Kd.freshB (g := gb353) (o := .cells #[.int .i64 x354000_2, .slice Ao38 x354001_2.length co38] 24 (0, 0)) (by (with_reducible repeat (first | refine YF ?_ _ | refine YG ?_ | refine YH ?_ _)); exact BK353.out) k_ hk, Kd.freshB (g := gb358) (o := .cells #[.int .i64 ((rd_T45 l0 x36_2).f0), .int .i64 ((rd_T45 l0 x36_2).f1), .bool ((rd_T45 l0 x36_2).f2.f0), .int .i64 ((rd_T45 l0 x36_2).f2.f1), .int .i64 ((rd_T45 l0 x36_2).f2.f2), .int .i64 ((rd_T45 l0 x36_2).f2.f3), .int .i64 ((rd_T45 l0 x36_2).f2.f4), .int .i64 ((rd_T45 l0 x36_2).f2.f5), .int .i64 ((rd_T45 l0 x36_2).f3.f0), .int .i64 ((rd_T45 l0 x36_2).f3.f1), .int .i64 ((rd_T45 l0 x36_2).f3.f2), .int .i64 ((rd_T45 l0 x36_2).f4)] 45 (0, 0)) (by (with_reducible repeat (first | refine YF ?_ _ | refine YG ?_ | refine YH ?_ _)); exact BK358.out) k_ hk⟩)); (case aO => exact (by (with_reducible repeat (first | apply Kd.S_alloc | apply Kd.S_drewN | apply Kd.S_drew)); exact Kd.S_mono HO_8.out (fun k_ hk => ⟨⟨hk.1.2, hk.2⟩, fun e_ => hk.1.1 e_⟩))); (case aS => exact (YE (by repeat (first | (with_reducible first | exact HB.out | apply YA | apply YB | apply YC | refine below_set ?_ GE353.out | refine below_set ?_ GE358.out) | exact HB.out)))); (case aL => have := LMc31.out; omega); intro v365 w39 ho hb hg hat; rw [← Ny364.out] at ho; have n0_ := YL (blk_grown (g := gb353) (o := .cells #[.int .i64 x354000_2, .slice Ao38 x354001_2.length co38] 24 (0, 0)) (by (with_reducible repeat (first | refine YF ?_ _ | refine YG ?_ | refine YH ?_ _)); exact BK353.out) hg (Kd.S_away HO_8.out (fun _ hk => hk.1.2))); have n1_ := YL (blk_grown (g := gb358) (o := .cells #[.int .i64 ((rd_T45 l0 x36_2).f0), .int .i64 ((rd_T45 l0 x36_2).f1), .bool ((rd_T45 l0 x36_2).f2.f0), .int .i64 ((rd_T45 l0 x36_2).f2.f1), .int .i64 ((rd_T45 l0 x36_2).f2.f2), .int .i64 ((rd_T45 l0 x36_2).f2.f3), .int .i64 ((rd_T45 l0 x36_2).f2.f4), .int .i64 ((rd_T45 l0 x36_2).f2.f5), .int .i64 ((rd_T45 l0 x36_2).f3.f0), .int .i64 ((rd_T45 l0 x36_2).f3.f1), .int .i64 ((rd_T45 l0 x36_2).f3.f2), .int .i64 ((rd_T45 l0 x36_2).f4)] 45 (0, 0)) (by (with_reducible repeat (first | refine YF ?_ _ | refine YG ?_ | refine YH ?_ _)); exact BK358.out) hg (Kd.S_ne HO_8.out BK358.out (by decide))); have n2_ := YL (hb); have n3_ := YL (ho); clear BK353; clear BK358; clear HB; clear HO_8; clear HO_354001; have BK353 := n0_; have BK358 := n1_; have HB := n2_; have HO366 := n3_; clear n0_ n1_ n2_ n3_; clear ho hb hg hat))
              have n0_ := YL (Kd.S_drew HO366.out)
              have n1_ := YL (YG BK353.out)
              have n2_ := YL (YG BK358.out)
              have n3_ := YL (YC HB.out)
              clear HO366; clear BK353; clear BK358; clear HB; have HO366 := n0_; have BK353 := n1_; have BK358 := n2_; have HB := n3_; clear n0_ n1_ n2_ n3_
              refine start_ (n := 7) (S := fun w' => w'.cell? ⟨gb353, 0, none⟩ = some (.int .i64 x354000_2) ∧ w'.cell? ⟨gb353, 1, none⟩ = some (.slice Ao38 x354001_2.length co38) ∧ w'.cell? ⟨gb358, 0, none⟩ = some (.int .i64 ((rd_T45 l0 x36_2).f0)) ∧ w'.cell? ⟨gb358, 1, none⟩ = some (.int .i64 ((rd_T45 l0 x36_2).f1)) ∧ w'.cell? ⟨gb358, 2, none⟩ = some (.bool ((rd_T45 l0 x36_2).f2.f0)) ∧ w'.cell? ⟨gb358, 3, none⟩ = some (.int .i64 ((rd_T45 l0 x36_2).f2.f1)) ∧ w'.cell? ⟨gb358, 4, none⟩ = some (.int .i64 ((rd_T45 l0 x36_2).f2.f2)) ∧ w'.cell? ⟨gb358, 5, none⟩ = some (.int .i64 ((rd_T45 l0 x36_2).f2.f3)) ∧ w'.cell? ⟨gb358, 6, none⟩ = some (.int .i64 ((rd_T45 l0 x36_2).f2.f4)) ∧ w'.cell? ⟨gb358, 7, none⟩ = some (.int .i64 ((rd_T45 l0 x36_2).f2.f5)) ∧ w'.cell? ⟨gb358, 8, none⟩ = some (.int .i64 ((rd_T45 l0 x36_2).f3.f0)) ∧ w'.cell? ⟨gb358, 9, none⟩ = some (.int .i64 ((rd_T45 l0 x36_2).f3.f1)) ∧ w'.cell? ⟨gb358, 10, none⟩ = some (.int .i64 ((rd_T45 l0 x36_2).f3.f2)) ∧ w'.cell? ⟨gb358, 11, none⟩ = some (.int .i64 ((rd_T45 l0 x36_2).f4))) (ds := [6]) #[false, false, false, false, false, false, false] (by kernel_rfl) rfl rfl ⟨(YI BK353.out 0).trans rfl, (YI BK353.out 1).trans rfl, (YI BK358.out 0).trans rfl, (YI BK358.out 1).trans rfl, (YI BK358.out 2).trans rfl, (YI BK358.out 3).trans rfl, (YI BK358.out 4).trans rfl, (YI BK358.out 5).trans rfl, (YI BK358.out 6).trans rfl, (YI BK358.out 7).trans rfl, (YI BK358.out 8).trans rfl, (YI BK358.out 9).trans rfl, (YI BK358.out 10).trans rfl, (YI BK358.out 11).trans rfl⟩ (fun hHeld => ?_)
              generalize w39.drew = w40 at HO366 BK353 BK358 HB hHeld ⊢
              refine pure_ (i := 0) (N := some 68) (v := ?_) (a' := ?_) #[true, false, false, false, false, false, false] rfl rfl (by kernel_rfl) (fun _ _ _ h => h) (Or.inl ⟨by rfl, ?_⟩) ?_ ?_
              rotate_left
              · intro w'
                go_simp; with_reducible rfl
              rotate_left
              · simp only [Act.put, YM, YN, YO, i64_w, i32_w]
                rfl
              refine take_ (i := 1) (N := some 69) (v := ?_) (a' := ?_) #[true, true, false, false, false, false, false] rfl rfl (by kernel_rfl) (fun _ _ _ h => h) (Or.inl ⟨by rfl, ?_⟩) hHeld ?_ ?_
              rotate_left
              · rintro w' ⟨s0, s1, s2, s3, s4, s5, s6, s7, s8, s9, s10, s11, s12, s13⟩
                go_simp; with_reducible rfl
              rotate_left
              · simp only [Act.put, YM, YN, YO, i64_w, i32_w]
                rfl
              refine take_ (i := 3) (N := some 71) (v := ?_) (a' := ?_) #[true, true, false, true, false, false, false] rfl rfl (by kernel_rfl) (fun _ _ _ h => h) (Or.inl ⟨by rfl, ?_⟩) hHeld ?_ ?_
              rotate_left
              · rintro w' ⟨s0, s1, s2, s3, s4, s5, s6, s7, s8, s9, s10, s11, s12, s13⟩
                go_simp; with_reducible rfl
              rotate_left
              · simp only [Act.put, YM, YN, YO, i64_w, i32_w]
                rfl
              refine join_ (σ := Value) 2 #[true, true, true, true, true, false, false] (fun s_ => [(70, .int .i64 t367), (72, s_)]) (fun s_ w' => (w'.cell? ⟨gb353, 0, none⟩ = some (.int .i64 x354000_2) ∧ w'.cell? ⟨gb353, 1, none⟩ = some (.slice Ao38 x354001_2.length co38) ∧ w'.cell? ⟨gb358, 0, none⟩ = some (.int .i64 ((rd_T45 l0 x36_2).f0)) ∧ w'.cell? ⟨gb358, 1, none⟩ = some (.int .i64 ((rd_T45 l0 x36_2).f1)) ∧ w'.cell? ⟨gb358, 2, none⟩ = some (.bool ((rd_T45 l0 x36_2).f2.f0)) ∧ w'.cell? ⟨gb358, 3, none⟩ = some (.int .i64 ((rd_T45 l0 x36_2).f2.f1)) ∧ w'.cell? ⟨gb358, 4, none⟩ = some (.int .i64 ((rd_T45 l0 x36_2).f2.f2)) ∧ w'.cell? ⟨gb358, 5, none⟩ = some (.int .i64 ((rd_T45 l0 x36_2).f2.f3)) ∧ w'.cell? ⟨gb358, 6, none⟩ = some (.int .i64 ((rd_T45 l0 x36_2).f2.f4)) ∧ w'.cell? ⟨gb358, 7, none⟩ = some (.int .i64 ((rd_T45 l0 x36_2).f2.f5)) ∧ w'.cell? ⟨gb358, 8, none⟩ = some (.int .i64 ((rd_T45 l0 x36_2).f3.f0)) ∧ w'.cell? ⟨gb358, 9, none⟩ = some (.int .i64 ((rd_T45 l0 x36_2).f3.f1)) ∧ w'.cell? ⟨gb358, 10, none⟩ = some (.int .i64 ((rd_T45 l0 x36_2).f3.f2)) ∧ w'.cell? ⟨gb358, 11, none⟩ = some (.int .i64 ((rd_T45 l0 x36_2).f4))) ∧ (Kd.S k24 24 w' w.heap.size (fun k_ => some k_ ≠ (s_ : Value).ownBlock ∧ k_ ≠ gb353 ∧ k_ ≠ gb358) v365 y364) ∧ (Kd.R k45 45 w' w.heap.size (fun k_ => k_ ≠ gb358) s_ y368) ∧ (w'.heap[gb353]? = some (.cells #[.int .i64 x354000_2, .slice Ao38 x354001_2.length co38] 24 (0, 0))) ∧ (w'.heap[gb358]? = some (.cells #[.int .i64 ((rd_T45 l0 x36_2).f0), .int .i64 ((rd_T45 l0 x36_2).f1), .bool ((rd_T45 l0 x36_2).f2.f0), .int .i64 ((rd_T45 l0 x36_2).f2.f1), .int .i64 ((rd_T45 l0 x36_2).f2.f2), .int .i64 ((rd_T45 l0 x36_2).f2.f3), .int .i64 ((rd_T45 l0 x36_2).f2.f4), .int .i64 ((rd_T45 l0 x36_2).f2.f5), .int .i64 ((rd_T45 l0 x36_2).f3.f0), .int .i64 ((rd_T45 l0 x36_2).f3.f1), .int .i64 ((rd_T45 l0 x36_2).f3.f2), .int .i64 ((rd_T45 l0 x36_2).f4)] 45 (0, 0))) ∧ (Below w.heap.size w w')) ?_ ?_
              rotate_left
              · intro hCont
                refine two_ (i := 2) (j := 4) (Ni := some 70) (Nj := some 72) #[true, true, true, true, false, false, false] #[true, true, false, true, true, false, false] rfl rfl rfl rfl (by kernel_rfl) (by decide) (by decide) (fun K hK => ?_) (fun K hK => ?_)
                · skip
                  refine goes_ Try.func20 (by kernel_rfl) rfl #[.int .i64 x354000_2] (by rfl) rfl rfl (by (try simp only [YP, List.map_cons, List.map_nil]); first | done | rfl | (simp only [YR, YQ]; rfl)) ?_
                  with_reducible refine (serial_Next.calls x354000_2 t367 _ A32.out).mono ?_
                  rintro e w' ⟨rfl, ⟨nd, rfl⟩⟩
                  refine ⟨_, rfl, ?_⟩
                  refine hK.out _ _ ⟨(YI BK353.out 0).trans rfl, (YI BK353.out 1).trans rfl, (YI BK358.out 0).trans rfl, (YI BK358.out 1).trans rfl, (YI BK358.out 2).trans rfl, (YI BK358.out 3).trans rfl, (YI BK358.out 4).trans rfl, (YI BK358.out 5).trans rfl, (YI BK358.out 6).trans rfl, (YI BK358.out 7).trans rfl, (YI BK358.out 8).trans rfl, (YI BK358.out 9).trans rfl, (YI BK358.out 10).trans rfl, (YI BK358.out 11).trans rfl⟩ (fun hHeld => ?_)
                  clear hK K
                  refine norm_ (a' := ?_) ?_ ?_
                  rotate_left
                  · show Act.put _ (some 70) _ = _
                    simp only [Act.put, YM, YN, YO, i64_w, i32_w]
                    rfl
                  refine one_ (i := 4) (N := some 72) #[true, true, true, true, true, false, false] rfl rfl (by kernel_rfl) (by decide) (fun K hK => ?_)
                  refine Kd.R_lit_step k45 _ 45 ?hg (N := 72) ?hd (xs := ([(⟨(rd_T45 l0 x36_2).f0, (rd_T45 l0 x36_2).f1, (⟨(rd_T45 l0 x36_2).f2.f0, (rd_T45 l0 x36_2).f2.f1, (rd_T45 l0 x36_2).f2.f2, (rd_T45 l0 x36_2).f2.f3, (rd_T45 l0 x36_2).f2.f4, (rd_T45 l0 x36_2).f2.f5⟩ : S41), (⟨(rd_T45 l0 x36_2).f3.f0, (rd_T45 l0 x36_2).f3.f1, (rd_T45 l0 x36_2).f3.f2⟩ : S43), (rd_T45 l0 x36_2).f4⟩ : S45)] : List (S45))) (inner := [.int .i64 ((rd_T45 l0 x36_2).f0), .int .i64 ((rd_T45 l0 x36_2).f1), .bool ((rd_T45 l0 x36_2).f2.f0), .int .i64 ((rd_T45 l0 x36_2).f2.f1), .int .i64 ((rd_T45 l0 x36_2).f2.f2), .int .i64 ((rd_T45 l0 x36_2).f2.f3), .int .i64 ((rd_T45 l0 x36_2).f2.f4), .int .i64 ((rd_T45 l0 x36_2).f2.f5), .int .i64 ((rd_T45 l0 x36_2).f3.f0), .int .i64 ((rd_T45 l0 x36_2).f3.f1), .int .i64 ((rd_T45 l0 x36_2).f3.f2), .int .i64 ((rd_T45 l0 x36_2).f4)]) (ok := fun _ => True) (okp := fun _ => True) ?hr ?hp (fun _ hk => hk) trivial (Below.refl _ _) (Nat.le_refl _) (by simp) ?_; (case hd => rfl); (case hg => rfl); (case hr => first | (go_simp; done) | (go_simp; rfl)); (case hp => exact (Reps.front (show Kd.M k45 _ _ _ (⟨(rd_T45 l0 x36_2).f0, (rd_T45 l0 x36_2).f1, (⟨(rd_T45 l0 x36_2).f2.f0, (rd_T45 l0 x36_2).f2.f1, (rd_T45 l0 x36_2).f2.f2, (rd_T45 l0 x36_2).f2.f3, (rd_T45 l0 x36_2).f2.f4, (rd_T45 l0 x36_2).f2.f5⟩ : S41), (⟨(rd_T45 l0 x36_2).f3.f0, (rd_T45 l0 x36_2).f3.f1, (rd_T45 l0 x36_2).f3.f2⟩ : S43), (rd_T45 l0 x36_2).f4⟩ : S45) [.int .i64 ((rd_T45 l0 x36_2).f0), .int .i64 ((rd_T45 l0 x36_2).f1), .bool ((rd_T45 l0 x36_2).f2.f0), .int .i64 ((rd_T45 l0 x36_2).f2.f1), .int .i64 ((rd_T45 l0 x36_2).f2.f2), .int .i64 ((rd_T45 l0 x36_2).f2.f3), .int .i64 ((rd_T45 l0 x36_2).f2.f4), .int .i64 ((rd_T45 l0 x36_2).f2.f5), .int .i64 ((rd_T45 l0 x36_2).f3.f0), .int .i64 ((rd_T45 l0 x36_2).f3.f1), .int .i64 ((rd_T45 l0 x36_2).f3.f2), .int .i64 ((rd_T45 l0 x36_2).f4)] from (k45_mkM _ _ _ (⟨(rd_T45 l0 x36_2).f0, (rd_T45 l0 x36_2).f1, (⟨(rd_T45 l0 x36_2).f2.f0, (rd_T45 l0 x36_2).f2.f1, (rd_T45 l0 x36_2).f2.f2, (rd_T45 l0 x36_2).f2.f3, (rd_T45 l0 x36_2).f2.f4, (rd_T45 l0 x36_2).f2.f5⟩ : S41), (⟨(rd_T45 l0 x36_2).f3.f0, (rd_T45 l0 x36_2).f3.f1, (rd_T45 l0 x36_2).f3.f2⟩ : S43), (rd_T45 l0 x36_2).f4⟩ : S45) )) rfl (Reps.none _ _) rfl))
                  intro v369 w41 ho42 hb hg_ hnew_
                  clear hg_ hnew_
                  (first | rw [← Ny368.out] at ho42 | (simp only [Int.reduceToNat] at ho42; rw [← Ny368.out] at ho42))
                  have n0_ := YL (Kd.S_elder' (by (with_reducible repeat (first | apply Kd.S_alloc | apply Kd.S_drewN | apply Kd.S_drew)); exact HO366.out) (Kd.R_base ho42) hb)
                  have n1_ := YL (Kd.R_lower (Kd.R_newB ho42 (g := gb358) (o := .cells #[.int .i64 ((rd_T45 l0 x36_2).f0), .int .i64 ((rd_T45 l0 x36_2).f1), .bool ((rd_T45 l0 x36_2).f2.f0), .int .i64 ((rd_T45 l0 x36_2).f2.f1), .int .i64 ((rd_T45 l0 x36_2).f2.f2), .int .i64 ((rd_T45 l0 x36_2).f2.f3), .int .i64 ((rd_T45 l0 x36_2).f2.f4), .int .i64 ((rd_T45 l0 x36_2).f2.f5), .int .i64 ((rd_T45 l0 x36_2).f3.f0), .int .i64 ((rd_T45 l0 x36_2).f3.f1), .int .i64 ((rd_T45 l0 x36_2).f3.f2), .int .i64 ((rd_T45 l0 x36_2).f4)] 45 (0, 0)) (by (with_reducible repeat (first | refine YF ?_ _ | refine YG ?_ | refine YH ?_ _)); exact BK358.out)) (YE (by repeat (first | (with_reducible first | exact HB.out | apply YA | apply YB | apply YC | refine below_set ?_ GE353.out | refine below_set ?_ GE358.out) | exact HB.out))))
                  have n2_ := YL (YK (g := gb353) (o := .cells #[.int .i64 x354000_2, .slice Ao38 x354001_2.length co38] 24 (0, 0)) (by (with_reducible repeat (first | refine YF ?_ _ | refine YG ?_ | refine YH ?_ _)); exact BK353.out) hb)
                  have n3_ := YL (YK (g := gb358) (o := .cells #[.int .i64 ((rd_T45 l0 x36_2).f0), .int .i64 ((rd_T45 l0 x36_2).f1), .bool ((rd_T45 l0 x36_2).f2.f0), .int .i64 ((rd_T45 l0 x36_2).f2.f1), .int .i64 ((rd_T45 l0 x36_2).f2.f2), .int .i64 ((rd_T45 l0 x36_2).f2.f3), .int .i64 ((rd_T45 l0 x36_2).f2.f4), .int .i64 ((rd_T45 l0 x36_2).f2.f5), .int .i64 ((rd_T45 l0 x36_2).f3.f0), .int .i64 ((rd_T45 l0 x36_2).f3.f1), .int .i64 ((rd_T45 l0 x36_2).f3.f2), .int .i64 ((rd_T45 l0 x36_2).f4)] 45 (0, 0)) (by (with_reducible repeat (first | refine YF ?_ _ | refine YG ?_ | refine YH ?_ _)); exact BK358.out) hb)
                  have n4_ := YL (YD (by repeat (first | (with_reducible first | exact HB.out | apply YA | apply YB | apply YC | refine below_set ?_ GE353.out | refine below_set ?_ GE358.out) | exact HB.out)) hb)
                  clear HO366; clear BK353; clear BK358; clear HB; have HO366 := n0_; have HO370 := n1_; have BK353 := n2_; have BK358 := n3_; have HB := n4_; clear n0_ n1_ n2_ n3_ n4_; clear hb ho42
                  obtain ⟨Ao43, co43, eo43⟩ := Kd.R_slice HO370.out
                  (first | subst eo43 | (injection eo43 with f1_ f2_ f3_; have f4_ := f1_.symm; have f5_ := f3_.symm; clear f1_ f2_ f3_; subst f4_; subst f5_))
                  refine hK.out _ _ ⟨(YI BK353.out 0).trans rfl, (YI BK353.out 1).trans rfl, (YI BK358.out 0).trans rfl, (YI BK358.out 1).trans rfl, (YI BK358.out 2).trans rfl, (YI BK358.out 3).trans rfl, (YI BK358.out 4).trans rfl, (YI BK358.out 5).trans rfl, (YI BK358.out 6).trans rfl, (YI BK358.out 7).trans rfl, (YI BK358.out 8).trans rfl, (YI BK358.out 9).trans rfl, (YI BK358.out 10).trans rfl, (YI BK358.out 11).trans rfl⟩ (fun hHeld => ?_)
                  clear hK K
                  refine norm_ (a' := ?_) ?_ ?_
                  rotate_left
                  · show Act.put _ (some 72) _ = _
                    simp only [Act.put, YM, YN, YO, i64_w, i32_w]
                    rfl
                  exact norm_ (by simp only [putAll, Act.put, YM, YN, YO]) (hCont (.slice Ao43 y368.length co43) _ ⟨hHeld, (by (with_reducible repeat (first | apply Kd.S_alloc | apply Kd.S_drewN | apply Kd.S_drew)); exact Kd.S_mono HO366.out (fun _ hk => by first | exact ⟨hk.2, ⟨hk.1.1, hk.1.2⟩⟩ | exact trivial | (simp [hk]; done) | simp_all)), (by (with_reducible repeat (first | apply YS | apply YT | apply YU)); exact Kd.R_mono HO370.out (fun _ hk => by first | exact hk.2 | exact trivial | (simp [hk]; done) | simp_all)), (by (with_reducible repeat (first | refine YF ?_ _ | refine YG ?_ | refine YH ?_ _)); exact BK353.out), (by (with_reducible repeat (first | refine YF ?_ _ | refine YG ?_ | refine YH ?_ _)); exact BK358.out), (by repeat (first | (with_reducible first | exact HB.out | apply YA | apply YB | apply YC | refine below_set ?_ GE353.out | refine below_set ?_ GE358.out) | exact HB.out))⟩)
                skip
                refine Kd.R_lit_step k45 _ 45 ?hg (N := 72) ?hd (xs := ([(⟨(rd_T45 l0 x36_2).f0, (rd_T45 l0 x36_2).f1, (⟨(rd_T45 l0 x36_2).f2.f0, (rd_T45 l0 x36_2).f2.f1, (rd_T45 l0 x36_2).f2.f2, (rd_T45 l0 x36_2).f2.f3, (rd_T45 l0 x36_2).f2.f4, (rd_T45 l0 x36_2).f2.f5⟩ : S41), (⟨(rd_T45 l0 x36_2).f3.f0, (rd_T45 l0 x36_2).f3.f1, (rd_T45 l0 x36_2).f3.f2⟩ : S43), (rd_T45 l0 x36_2).f4⟩ : S45)] : List (S45))) (inner := [.int .i64 ((rd_T45 l0 x36_2).f0), .int .i64 ((rd_T45 l0 x36_2).f1), .bool ((rd_T45 l0 x36_2).f2.f0), .int .i64 ((rd_T45 l0 x36_2).f2.f1), .int .i64 ((rd_T45 l0 x36_2).f2.f2), .int .i64 ((rd_T45 l0 x36_2).f2.f3), .int .i64 ((rd_T45 l0 x36_2).f2.f4), .int .i64 ((rd_T45 l0 x36_2).f2.f5), .int .i64 ((rd_T45 l0 x36_2).f3.f0), .int .i64 ((rd_T45 l0 x36_2).f3.f1), .int .i64 ((rd_T45 l0 x36_2).f3.f2), .int .i64 ((rd_T45 l0 x36_2).f4)]) (ok := fun _ => True) (okp := fun _ => True) ?hr ?hp (fun _ hk => hk) trivial (Below.refl _ _) (Nat.le_refl _) (by simp) ?_; (case hd => rfl); (case hg => rfl); (case hr => first | (go_simp; done) | (go_simp; rfl)); (case hp => exact (Reps.front (show Kd.M k45 _ _ _ (⟨(rd_T45 l0 x36_2).f0, (rd_T45 l0 x36_2).f1, (⟨(rd_T45 l0 x36_2).f2.f0, (rd_T45 l0 x36_2).f2.f1, (rd_T45 l0 x36_2).f2.f2, (rd_T45 l0 x36_2).f2.f3, (rd_T45 l0 x36_2).f2.f4, (rd_T45 l0 x36_2).f2.f5⟩ : S41), (⟨(rd_T45 l0 x36_2).f3.f0, (rd_T45 l0 x36_2).f3.f1, (rd_T45 l0 x36_2).f3.f2⟩ : S43), (rd_T45 l0 x36_2).f4⟩ : S45) [.int .i64 ((rd_T45 l0 x36_2).f0), .int .i64 ((rd_T45 l0 x36_2).f1), .bool ((rd_T45 l0 x36_2).f2.f0), .int .i64 ((rd_T45 l0 x36_2).f2.f1), .int .i64 ((rd_T45 l0 x36_2).f2.f2), .int .i64 ((rd_T45 l0 x36_2).f2.f3), .int .i64 ((rd_T45 l0 x36_2).f2.f4), .int .i64 ((rd_T45 l0 x36_2).f2.f5), .int .i64 ((rd_T45 l0 x36_2).f3.f0), .int .i64 ((rd_T45 l0 x36_2).f3.f1), .int .i64 ((rd_T45 l0 x36_2).f3.f2), .int .i64 ((rd_T45 l0 x36_2).f4)] from (k45_mkM _ _ _ (⟨(rd_T45 l0 x36_2).f0, (rd_T45 l0 x36_2).f1, (⟨(rd_T45 l0 x36_2).f2.f0, (rd_T45 l0 x36_2).f2.f1, (rd_T45 l0 x36_2).f2.f2, (rd_T45 l0 x36_2).f2.f3, (rd_T45 l0 x36_2).f2.f4, (rd_T45 l0 x36_2).f2.f5⟩ : S41), (⟨(rd_T45 l0 x36_2).f3.f0, (rd_T45 l0 x36_2).f3.f1, (rd_T45 l0 x36_2).f3.f2⟩ : S43), (rd_T45 l0 x36_2).f4⟩ : S45) )) rfl (Reps.none _ _) rfl))
                intro v369 w41 ho42 hb hg_ hnew_
                clear hg_ hnew_
                (first | rw [← Ny368.out] at ho42 | (simp only [Int.reduceToNat] at ho42; rw [← Ny368.out] at ho42))
                have n0_ := YL (Kd.S_elder' (by (with_reducible repeat (first | apply Kd.S_alloc | apply Kd.S_drewN | apply Kd.S_drew)); exact HO366.out) (Kd.R_base ho42) hb)
                have n1_ := YL (Kd.R_lower (Kd.R_newB ho42 (g := gb358) (o := .cells #[.int .i64 ((rd_T45 l0 x36_2).f0), .int .i64 ((rd_T45 l0 x36_2).f1), .bool ((rd_T45 l0 x36_2).f2.f0), .int .i64 ((rd_T45 l0 x36_2).f2.f1), .int .i64 ((rd_T45 l0 x36_2).f2.f2), .int .i64 ((rd_T45 l0 x36_2).f2.f3), .int .i64 ((rd_T45 l0 x36_2).f2.f4), .int .i64 ((rd_T45 l0 x36_2).f2.f5), .int .i64 ((rd_T45 l0 x36_2).f3.f0), .int .i64 ((rd_T45 l0 x36_2).f3.f1), .int .i64 ((rd_T45 l0 x36_2).f3.f2), .int .i64 ((rd_T45 l0 x36_2).f4)] 45 (0, 0)) (by (with_reducible repeat (first | refine YF ?_ _ | refine YG ?_ | refine YH ?_ _)); exact BK358.out)) (YE (by repeat (first | (with_reducible first | exact HB.out | apply YA | apply YB | apply YC | refine below_set ?_ GE353.out | refine below_set ?_ GE358.out) | exact HB.out))))
                have n2_ := YL (YK (g := gb353) (o := .cells #[.int .i64 x354000_2, .slice Ao38 x354001_2.length co38] 24 (0, 0)) (by (with_reducible repeat (first | refine YF ?_ _ | refine YG ?_ | refine YH ?_ _)); exact BK353.out) hb)
                have n3_ := YL (YK (g := gb358) (o := .cells #[.int .i64 ((rd_T45 l0 x36_2).f0), .int .i64 ((rd_T45 l0 x36_2).f1), .bool ((rd_T45 l0 x36_2).f2.f0), .int .i64 ((rd_T45 l0 x36_2).f2.f1), .int .i64 ((rd_T45 l0 x36_2).f2.f2), .int .i64 ((rd_T45 l0 x36_2).f2.f3), .int .i64 ((rd_T45 l0 x36_2).f2.f4), .int .i64 ((rd_T45 l0 x36_2).f2.f5), .int .i64 ((rd_T45 l0 x36_2).f3.f0), .int .i64 ((rd_T45 l0 x36_2).f3.f1), .int .i64 ((rd_T45 l0 x36_2).f3.f2), .int .i64 ((rd_T45 l0 x36_2).f4)] 45 (0, 0)) (by (with_reducible repeat (first | refine YF ?_ _ | refine YG ?_ | refine YH ?_ _)); exact BK358.out) hb)
                have n4_ := YL (YD (by repeat (first | (with_reducible first | exact HB.out | apply YA | apply YB | apply YC | refine below_set ?_ GE353.out | refine below_set ?_ GE358.out) | exact HB.out)) hb)
                clear HO366; clear BK353; clear BK358; clear HB; have HO366 := n0_; have HO370 := n1_; have BK353 := n2_; have BK358 := n3_; have HB := n4_; clear n0_ n1_ n2_ n3_ n4_; clear hb ho42
                refine hK.out _ _ ⟨(YI BK353.out 0).trans rfl, (YI BK353.out 1).trans rfl, (YI BK358.out 0).trans rfl, (YI BK358.out 1).trans rfl, (YI BK358.out 2).trans rfl, (YI BK358.out 3).trans rfl, (YI BK358.out 4).trans rfl, (YI BK358.out 5).trans rfl, (YI BK358.out 6).trans rfl, (YI BK358.out 7).trans rfl, (YI BK358.out 8).trans rfl, (YI BK358.out 9).trans rfl, (YI BK358.out 10).trans rfl, (YI BK358.out 11).trans rfl⟩ (fun hHeld => ?_)
                clear hK K
                refine norm_ (a' := ?_) ?_ ?_
                rotate_left
                · show Act.put _ (some 72) _ = _
                  simp only [Act.put, YM, YN, YO, i64_w, i32_w]
                  rfl
                refine one_ (i := 2) (N := some 70) #[true, true, true, true, true, false, false] rfl rfl (by kernel_rfl) (by decide) (fun K hK => ?_)
                refine goes_ Try.func20 (by kernel_rfl) rfl #[.int .i64 x354000_2] (by rfl) rfl rfl (by (try simp only [YP, List.map_cons, List.map_nil]); first | done | rfl | (simp only [YR, YQ]; rfl)) ?_
                with_reducible refine (serial_Next.calls x354000_2 t367 _ A32.out).mono ?_
                rintro e w' ⟨rfl, ⟨nd, rfl⟩⟩
                refine ⟨_, rfl, ?_⟩
                obtain ⟨Ao43, co43, eo43⟩ := Kd.R_slice HO370.out
                (first | subst eo43 | (injection eo43 with f1_ f2_ f3_; have f4_ := f1_.symm; have f5_ := f3_.symm; clear f1_ f2_ f3_; subst f4_; subst f5_))
                refine hK.out _ _ ⟨(YI BK353.out 0).trans rfl, (YI BK353.out 1).trans rfl, (YI BK358.out 0).trans rfl, (YI BK358.out 1).trans rfl, (YI BK358.out 2).trans rfl, (YI BK358.out 3).trans rfl, (YI BK358.out 4).trans rfl, (YI BK358.out 5).trans rfl, (YI BK358.out 6).trans rfl, (YI BK358.out 7).trans rfl, (YI BK358.out 8).trans rfl, (YI BK358.out 9).trans rfl, (YI BK358.out 10).trans rfl, (YI BK358.out 11).trans rfl⟩ (fun hHeld => ?_)
                clear hK K
                refine norm_ (a' := ?_) ?_ ?_
                rotate_left
                · show Act.put _ (some 70) _ = _
                  simp only [Act.put, YM, YN, YO, i64_w, i32_w]
                  rfl
                exact norm_ (by simp only [putAll, Act.put, YM, YN, YO]) (hCont (.slice Ao43 y368.length co43) _ ⟨hHeld, (by (with_reducible repeat (first | apply Kd.S_alloc | apply Kd.S_drewN | apply Kd.S_drew)); exact Kd.S_mono HO366.out (fun _ hk => by first | exact ⟨hk.2, ⟨hk.1.1, hk.1.2⟩⟩ | exact trivial | (simp [hk]; done) | simp_all)), (by (with_reducible repeat (first | apply YS | apply YT | apply YU)); exact Kd.R_mono HO370.out (fun _ hk => by first | exact hk.2 | exact trivial | (simp [hk]; done) | simp_all)), (by (with_reducible repeat (first | refine YF ?_ _ | refine YG ?_ | refine YH ?_ _)); exact BK353.out), (by (with_reducible repeat (first | refine YF ?_ _ | refine YG ?_ | refine YH ?_ _)); exact BK358.out), (by repeat (first | (with_reducible first | exact HB.out | apply YA | apply YB | apply YC | refine below_set ?_ GE353.out | refine below_set ?_ GE358.out) | exact HB.out))⟩)
              rintro v369 w44 ⟨hS_, h0_, h1_, h2_, h3_, h4_⟩
              have n0_ : Aside0 (Kd.S k24 24 w44 w.heap.size (fun k_ => some k_ ≠ (v369 : Value).ownBlock ∧ k_ ≠ gb353 ∧ k_ ≠ gb358) v365 y364) := ⟨h0_⟩
              have n1_ : Aside0 (Kd.R k45 45 w44 w.heap.size (fun k_ => k_ ≠ gb358) v369 y368) := ⟨h1_⟩
              have n2_ : Aside0 (w44.heap[gb353]? = some (.cells #[.int .i64 x354000_2, .slice Ao38 x354001_2.length co38] 24 (0, 0))) := ⟨h2_⟩
              have n3_ : Aside0 (w44.heap[gb358]? = some (.cells #[.int .i64 ((rd_T45 l0 x36_2).f0), .int .i64 ((rd_T45 l0 x36_2).f1), .bool ((rd_T45 l0 x36_2).f2.f0), .int .i64 ((rd_T45 l0 x36_2).f2.f1), .int .i64 ((rd_T45 l0 x36_2).f2.f2), .int .i64 ((rd_T45 l0 x36_2).f2.f3), .int .i64 ((rd_T45 l0 x36_2).f2.f4), .int .i64 ((rd_T45 l0 x36_2).f2.f5), .int .i64 ((rd_T45 l0 x36_2).f3.f0), .int .i64 ((rd_T45 l0 x36_2).f3.f1), .int .i64 ((rd_T45 l0 x36_2).f3.f2), .int .i64 ((rd_T45 l0 x36_2).f4)] 45 (0, 0))) := ⟨h3_⟩
              have n4_ : Aside0 (Below w.heap.size w w44) := ⟨h4_⟩
              clear HO366; clear BK353; clear BK358; clear HB; clear h0_ h1_ h2_ h3_ h4_; have HO366 := n0_; have HO370 := n1_; have BK353 := n2_; have BK358 := n3_; have HB := n4_; clear n0_ n1_ n2_ n3_ n4_
              have hHeld : w44.cell? ⟨gb353, 0, none⟩ = some (.int .i64 x354000_2) ∧ w44.cell? ⟨gb353, 1, none⟩ = some (.slice Ao38 x354001_2.length co38) ∧ w44.cell? ⟨gb358, 0, none⟩ = some (.int .i64 ((rd_T45 l0 x36_2).f0)) ∧ w44.cell? ⟨gb358, 1, none⟩ = some (.int .i64 ((rd_T45 l0 x36_2).f1)) ∧ w44.cell? ⟨gb358, 2, none⟩ = some (.bool ((rd_T45 l0 x36_2).f2.f0)) ∧ w44.cell? ⟨gb358, 3, none⟩ = some (.int .i64 ((rd_T45 l0 x36_2).f2.f1)) ∧ w44.cell? ⟨gb358, 4, none⟩ = some (.int .i64 ((rd_T45 l0 x36_2).f2.f2)) ∧ w44.cell? ⟨gb358, 5, none⟩ = some (.int .i64 ((rd_T45 l0 x36_2).f2.f3)) ∧ w44.cell? ⟨gb358, 6, none⟩ = some (.int .i64 ((rd_T45 l0 x36_2).f2.f4)) ∧ w44.cell? ⟨gb358, 7, none⟩ = some (.int .i64 ((rd_T45 l0 x36_2).f2.f5)) ∧ w44.cell? ⟨gb358, 8, none⟩ = some (.int .i64 ((rd_T45 l0 x36_2).f3.f0)) ∧ w44.cell? ⟨gb358, 9, none⟩ = some (.int .i64 ((rd_T45 l0 x36_2).f3.f1)) ∧ w44.cell? ⟨gb358, 10, none⟩ = some (.int .i64 ((rd_T45 l0 x36_2).f3.f2)) ∧ w44.cell? ⟨gb358, 11, none⟩ = some (.int .i64 ((rd_T45 l0 x36_2).f4)) := hS_
              obtain ⟨Ao45, co45, eo45⟩ := Kd.R_slice HO370.out
              (first | subst eo45 | (injection eo45 with f1_ f2_ f3_; have f4_ := f1_.symm; have f5_ := f3_.symm; clear f1_ f2_ f3_; subst f4_; subst f5_))
              refine norm_ (a' := ?_) ?_ ?_
              rotate_left
              · simp only [putAll, Act.put, YM, YN, YO]
                rfl
              refine pure_ (i := 5) (N := some 73) (v := ?_) (a' := ?_) #[true, true, true, true, true, true, false] rfl rfl (by kernel_rfl) (fun _ _ _ h => h) (Or.inl ⟨by rfl, ?_⟩) ?_ ?_
              rotate_left
              · intro w'
                go_simp; with_reducible rfl
              rotate_left
              · simp only [Act.put, YM, YN, YO, i64_w, i32_w]
                rfl
              refine last_ (i := 6) (N := none) #[true, true, true, true, true, true, true] rfl rfl (by kernel_rfl) (by decide) (fun K hK => ?_)
              have hs46 : w44.cell? ⟨gb353, 0, none⟩ = some (.int .i64 x354000_2) := (YI BK353.out 0).trans rfl
              have hfs46 := YJ BK353.out 0
              have hns46_1 := NB358_353.out
              have hms46_1 := NB353_358.out
              have hs47 : w44.cell? ⟨gb353, 1, none⟩ = some (.slice Ao38 x354001_2.length co38) := (YI BK353.out 1).trans rfl
              have hfs47 := YJ BK353.out 1
              have hns47_1 := NB358_353.out
              have hms47_1 := NB353_358.out
              refine skip_ (w1 := ?_) (by rfl) rfl ?_ ?_
              rotate_left
              · go_simp
                rfl
              refine hK.out _ _ ?_
              clear hK K
              refine done_ (by kernel_rfl) ?_
              try go_wp2_with (go_step3)
              go_roundg k2
              case measure => have := HJ3.out; have := HK2.out; omega
              case rel => exact ⟨(y364), (wrap64 ((wrap64 (a2 - 3)) - t359)), (wrap64 (x36_2 + 1)), (t367), (y368), (.slice Ao45 y368.length co45), (by first | rfl | (simp; done) | (simp [*]; done)), (by first | rfl | (simp; done) | (simp [*]; done)), H', ⟨by have := HJ3.out; have := HK2.out; omega⟩, ⟨by (with_reducible repeat (first | apply Kd.S_alloc | apply Kd.S_drewN | apply Kd.S_drew)); exact Kd.S_mono (Kd.S_far (p := ⟨gb353, 1, none⟩) (Kd.S_far (p := ⟨gb353, 0, none⟩) (Kd.S_mono HO366.out (fun k_ hk => (⟨hk, hk.2.1⟩ : _ ∧ k_ ≠ gb353))) (fun _ hk => hk.2) (.int .i64 t367)) (fun _ hk => hk.2) (.slice Ao45 y368.length co45)) (fun _ hk => ⟨hk.1.1, hk.1.2.1⟩)⟩, ⟨by (with_reducible repeat (first | apply YS | apply YT | apply YU)); exact Kd.R_mono (Kd.R_far (p := ⟨gb353, 1, none⟩) (Kd.R_far (p := ⟨gb353, 0, none⟩) (Kd.R_types HO370.out BK353.out (by decide)) (fun _ hk => hk.2) (.int .i64 t367)) (fun _ hk => hk.2) (.slice Ao45 y368.length co45)) (fun _ hk => trivial)⟩, ⟨by (with_reducible repeat (first | refine YF ?_ _ | refine YG ?_ | refine YH ?_ _)); refine blk_put (cs := #[.int .i64 t367, .slice Ao38 x354001_2.length co38]) ?_ 1 _ rfl; (with_reducible repeat (first | refine YF ?_ _ | refine YG ?_ | refine YH ?_ _)); refine blk_put (cs := #[.int .i64 x354000_2, .slice Ao38 x354001_2.length co38]) ?_ 0 _ rfl; (with_reducible repeat (first | refine YF ?_ _ | refine YG ?_ | refine YH ?_ _)); exact BK353.out⟩, ⟨by repeat (first | (with_reducible first | exact HB.out | apply YA | apply YB | apply YC | refine below_set ?_ GE353.out | refine below_set ?_ GE358.out) | exact HB.out)⟩⟩
            rw [if_neg c17] at H; have c17b0 : decide (t359 ≤ x10_2) = false := decide_eq_false c17; clear c17
            by_cases c48 : x8_2.length < 4398046511104
            rotate_left
            · rw [if_neg c48] at H
              exact absurd H (by simp)
            rw [if_pos c48] at H; have LMc48 := YL c48; clear c48
            obtain ⟨y371, hy371⟩ : ∃ y_ : List (S24), y_ = (x8_2 ++ [(⟨x354000_2, x354001_2⟩ : S24)]) := ⟨_, rfl⟩
            replace H : ((serial_Next.f x354000_2).bind fun t374 => (batch_Pack.l0 k2 l0 a2 y371 (wrap64 ((wrap64 (a2 - 3)) - t359)) l0 (l0.length : Int) (wrap64 (x36_2 + 1)) t374 (([(⟨(rd_T45 l0 x36_2).f0, (rd_T45 l0 x36_2).f1, (⟨(rd_T45 l0 x36_2).f2.f0, (rd_T45 l0 x36_2).f2.f1, (rd_T45 l0 x36_2).f2.f2, (rd_T45 l0 x36_2).f2.f3, (rd_T45 l0 x36_2).f2.f4, (rd_T45 l0 x36_2).f2.f5⟩ : S41), (⟨(rd_T45 l0 x36_2).f3.f0, (rd_T45 l0 x36_2).f3.f1, (rd_T45 l0 x36_2).f3.f2⟩ : S43), (rd_T45 l0 x36_2).f4⟩ : S45)] : List (S45))))) = some (r1, r2) := by first | (rw [hy371]; with_reducible exact H) | (have H2_ := (Option.bind_some _ _).symm.trans H; rw [hy371]; with_reducible exact H2_) | (have H2_ := (Option.bind_some _ _).symm.trans H; with_reducible exact H2_) | with_reducible exact H | (rw [hy371]; exact H) | exact H
            have Ny371 := YL hy371; clear hy371; replace H := Option.bind_eq_some_iff.mp H; obtain ⟨t374, A490, H⟩ := H
            replace H : (batch_Pack.l0 k2 l0 a2 y371 (wrap64 ((wrap64 (a2 - 3)) - t359)) l0 (l0.length : Int) (wrap64 (x36_2 + 1)) t374 (([(⟨(rd_T45 l0 x36_2).f0, (rd_T45 l0 x36_2).f1, (⟨(rd_T45 l0 x36_2).f2.f0, (rd_T45 l0 x36_2).f2.f1, (rd_T45 l0 x36_2).f2.f2, (rd_T45 l0 x36_2).f2.f3, (rd_T45 l0 x36_2).f2.f4, (rd_T45 l0 x36_2).f2.f5⟩ : S41), (⟨(rd_T45 l0 x36_2).f3.f0, (rd_T45 l0 x36_2).f3.f1, (rd_T45 l0 x36_2).f3.f2⟩ : S43), (rd_T45 l0 x36_2).f4⟩ : S45)] : List (S45)))) = some (r1, r2) := H
            have A49 := YL A490; clear A490
            obtain ⟨y375, hy375⟩ : ∃ y_ : List (S45), y_ = (([(⟨(rd_T45 l0 x36_2).f0, (rd_T45 l0 x36_2).f1, (⟨(rd_T45 l0 x36_2).f2.f0, (rd_T45 l0 x36_2).f2.f1, (rd_T45 l0 x36_2).f2.f2, (rd_T45 l0 x36_2).f2.f3, (rd_T45 l0 x36_2).f2.f4, (rd_T45 l0 x36_2).f2.f5⟩ : S41), (⟨(rd_T45 l0 x36_2).f3.f0, (rd_T45 l0 x36_2).f3.f1, (rd_T45 l0 x36_2).f3.f2⟩ : S43), (rd_T45 l0 x36_2).f4⟩ : S45)] : List (S45))) := ⟨_, rfl⟩
            replace H : (batch_Pack.l0 k2 l0 a2 y371 (wrap64 ((wrap64 (a2 - 3)) - t359)) l0 (l0.length : Int) (wrap64 (x36_2 + 1)) t374 y375) = some (r1, r2) := by first | (rw [hy375]; with_reducible exact H) | (have H2_ := (Option.bind_some _ _).symm.trans H; rw [hy375]; with_reducible exact H2_) | (have H2_ := (Option.bind_some _ _).symm.trans H; with_reducible exact H2_) | with_reducible exact H | (rw [hy375]; exact H) | exact H
            have Ny375 := YL hy375; clear hy375
            have H' := YL H
            clear H
            have p357 : 0 ≤ (x36_2 : Int) := of_decide_eq_true (by first | (with_reducible assumption) | assumption)
            have q357 : x36_2 < (l0.length : Int) := of_decide_eq_true (by first | (with_reducible assumption) | assumption)
            obtain ⟨ad357, e357, hx357_0, hx357_1, hx357_2, hx357_3, hx357_4, hx357_5, hx357_6, hx357_7, hx357_8, hx357_9, hx357_10, hx357_11⟩ := at_T45 HR0.out x36_2 p357 q357
            cases e357
            replace hx357_0 := (HB.out.cell (World.block_lt_of_cell? w _ hx357_0)).trans hx357_0
            replace hx357_1 := (HB.out.cell (World.block_lt_of_cell? w _ hx357_1)).trans hx357_1
            replace hx357_2 := (HB.out.cell (World.block_lt_of_cell? w _ hx357_2)).trans hx357_2
            replace hx357_3 := (HB.out.cell (World.block_lt_of_cell? w _ hx357_3)).trans hx357_3
            replace hx357_4 := (HB.out.cell (World.block_lt_of_cell? w _ hx357_4)).trans hx357_4
            replace hx357_5 := (HB.out.cell (World.block_lt_of_cell? w _ hx357_5)).trans hx357_5
            replace hx357_6 := (HB.out.cell (World.block_lt_of_cell? w _ hx357_6)).trans hx357_6
            replace hx357_7 := (HB.out.cell (World.block_lt_of_cell? w _ hx357_7)).trans hx357_7
            replace hx357_8 := (HB.out.cell (World.block_lt_of_cell? w _ hx357_8)).trans hx357_8
            replace hx357_9 := (HB.out.cell (World.block_lt_of_cell? w _ hx357_9)).trans hx357_9
            replace hx357_10 := (HB.out.cell (World.block_lt_of_cell? w _ hx357_10)).trans hx357_10
            replace hx357_11 := (HB.out.cell (World.block_lt_of_cell? w _ hx357_11)).trans hx357_11
            replace p357 := eq_true p357
            replace q357 := eq_true q357
            try go_wp2_with (first | go_step3 | ((with_reducible refine gate_dst (N := 12) rfl ?_); (try (refine gate_guard (by rfl) ?_; dsimp only)); refine box_event ?hg (N := 12) ?hd (cs := #[.int .i64 0, .int .i64 0, .bool false, .int .i64 0, .int .i64 0, .int .i64 0, .int .i64 0, .int .i64 0, .int .i64 0, .int .i64 0, .int .i64 0, .int .i64 0]) (t := 45) ?hr ?_; (case hd => rfl); (case hg => rfl); (case hr => first | (go_simp; done) | (go_simp; rfl)); intro gb358 hg w50 hbox hb; have n0_ := YL (Kd.S_below (Kd.S_elderB (by (with_reducible repeat (first | apply Kd.S_alloc | apply Kd.S_drewN | apply Kd.S_drew)); exact HO_8.out) gb358 (Nat.le_of_eq hg.symm)) hb); have n1_ := YL (YV (Kd.R_elderB (by (with_reducible repeat (first | apply YS | apply YT | apply YU)); exact HO_354001.out) gb358 (Nat.le_of_eq hg.symm)) hb); have n2_ := YL (YK (g := gb353) (o := .cells #[.int .i64 x354000_2, u354001] 24 (0, 0)) (by (with_reducible repeat (first | refine YF ?_ _ | refine YG ?_ | refine YH ?_ _)); exact BK353.out) hb); have n3_ := YL (YD (by repeat (first | (with_reducible first | exact HB.out | apply YA | apply YB | apply YC | refine below_set ?_ GE353.out) | exact HB.out)) hb); have n4_ := YL (hbox); have n5_ := YL ((by rw [hg]; exact (YE (by repeat (first | (with_reducible first | exact HB.out | apply YA | apply YB | apply YC | refine below_set ?_ GE353.out) | exact HB.out))) : w.heap.size ≤ gb358)); have n6_ := YL ((by rw [hg]; exact (YE (by repeat (first | (with_reducible first | exact HB.out | apply YA | apply YB | apply YC | refine below_set ?_ GE353.out) | exact HB.out))) : w.heap.size ≤ gb358)); have n7_ := YL ((by rw [hg]; exact Nat.ne_of_lt (blk_lt (g := gb353) (o := .cells #[.int .i64 x354000_2, u354001] 24 (0, 0)) (by (with_reducible repeat (first | refine YF ?_ _ | refine YG ?_ | refine YH ?_ _)); exact BK353.out)) : gb353 ≠ gb358)); have n8_ := YL ((by rw [hg]; exact Nat.ne_of_gt (blk_lt (g := gb353) (o := .cells #[.int .i64 x354000_2, u354001] 24 (0, 0)) (by (with_reducible repeat (first | refine YF ?_ _ | refine YG ?_ | refine YH ?_ _)); exact BK353.out)) : gb358 ≠ gb353)); clear HO_8; clear HO_354001; clear BK353; clear HB; have HO_8 := n0_; have HO_354001 := n1_; have BK353 := n2_; have HB := n3_; have BK358 := n4_; have GW358 := n5_; have GE358 := n6_; have NB353_358 := n7_; have NB358_353 := n8_; clear n0_ n1_ n2_ n3_ n4_ n5_ n6_ n7_ n8_; clear hb hbox hg; have hnb51 := NB358_353.out; have hnc51 := NB353_358.out; have q52_0 : w50.cell? ⟨gb358, 0, none⟩ = some (.int .i64 0) := (YI BK358.out 0).trans rfl; have q52_1 : w50.cell? ⟨gb358, 1, none⟩ = some (.int .i64 0) := (YI BK358.out 1).trans rfl; have q52_2 : w50.cell? ⟨gb358, 2, none⟩ = some (.bool false) := (YI BK358.out 2).trans rfl; have q52_3 : w50.cell? ⟨gb358, 3, none⟩ = some (.int .i64 0) := (YI BK358.out 3).trans rfl; have q52_4 : w50.cell? ⟨gb358, 4, none⟩ = some (.int .i64 0) := (YI BK358.out 4).trans rfl; have q52_5 : w50.cell? ⟨gb358, 5, none⟩ = some (.int .i64 0) := (YI BK358.out 5).trans rfl; have q52_6 : w50.cell? ⟨gb358, 6, none⟩ = some (.int .i64 0) := (YI BK358.out 6).trans rfl; have q52_7 : w50.cell? ⟨gb358, 7, none⟩ = some (.int .i64 0) := (YI BK358.out 7).trans rfl; have q52_8 : w50.cell? ⟨gb358, 8, none⟩ = some (.int .i64 0) := (YI BK358.out 8).trans rfl; have q52_9 : w50.cell? ⟨gb358, 9, none⟩ = some (.int .i64 0) := (YI BK358.out 9).trans rfl; have q52_10 : w50.cell? ⟨gb358, 10, none⟩ = some (.int .i64 0) := (YI BK358.out 10).trans rfl; have q52_11 : w50.cell? ⟨gb358, 11, none⟩ = some (.int .i64 0) := (YI BK358.out 11).trans rfl; have f52_0 := YJ BK358.out 0; have f52_1 := YJ BK358.out 1; have f52_2 := YJ BK358.out 2; have f52_3 := YJ BK358.out 3; have f52_4 := YJ BK358.out 4; have f52_5 := YJ BK358.out 5; have f52_6 := YJ BK358.out 6; have f52_7 := YJ BK358.out 7; have f52_8 := YJ BK358.out 8; have f52_9 := YJ BK358.out 9; have f52_10 := YJ BK358.out 10; have f52_11 := YJ BK358.out 11) | ((with_reducible refine gate_callee (f := 18) rfl ?_); refine goesL_ (some 42) rfl rfl Try.func18 (by kernel_rfl) rfl #[.agg #[.int .i64 ((rd_T45 l0 x36_2).f0), .int .i64 ((rd_T45 l0 x36_2).f1), .bool ((rd_T45 l0 x36_2).f2.f0), .int .i64 ((rd_T45 l0 x36_2).f2.f1), .int .i64 ((rd_T45 l0 x36_2).f2.f2), .int .i64 ((rd_T45 l0 x36_2).f2.f3), .int .i64 ((rd_T45 l0 x36_2).f2.f4), .int .i64 ((rd_T45 l0 x36_2).f2.f5), .int .i64 ((rd_T45 l0 x36_2).f3.f0), .int .i64 ((rd_T45 l0 x36_2).f3.f1), .int .i64 ((rd_T45 l0 x36_2).f3.f2), .int .i64 ((rd_T45 l0 x36_2).f4)]] rfl (by (try simp only [YP, List.map_cons, List.map_nil]); first | done | rfl | (simp only [YR, YQ]; rfl)) ?_; (with_reducible refine (object_Size.calls k2 ((rd_T45 l0 x36_2).f0) ((rd_T45 l0 x36_2).f1) ((rd_T45 l0 x36_2).f2.f0) ((rd_T45 l0 x36_2).f2.f1) ((rd_T45 l0 x36_2).f2.f2) ((rd_T45 l0 x36_2).f2.f3) ((rd_T45 l0 x36_2).f2.f4) ((rd_T45 l0 x36_2).f2.f5) ((rd_T45 l0 x36_2).f3.f0) ((rd_T45 l0 x36_2).f3.f1) ((rd_T45 l0 x36_2).f3.f2) ((rd_T45 l0 x36_2).f4) t359 _ A16.out).mono ?_); rintro e w53 ⟨rfl, hb⟩; refine ⟨_, rfl, ?_⟩; have n0_ := YL (Kd.S_below (by (with_reducible repeat (first | apply Kd.S_alloc | apply Kd.S_drewN | apply Kd.S_drew)); exact (Kd.S_mono (Kd.S_far (p := ⟨gb358, 11, none⟩) (Kd.S_far (p := ⟨gb358, 10, none⟩) (Kd.S_far (p := ⟨gb358, 9, none⟩) (Kd.S_far (p := ⟨gb358, 8, none⟩) (Kd.S_far (p := ⟨gb358, 7, none⟩) (Kd.S_far (p := ⟨gb358, 6, none⟩) (Kd.S_far (p := ⟨gb358, 5, none⟩) (Kd.S_far (p := ⟨gb358, 4, none⟩) (Kd.S_far (p := ⟨gb358, 3, none⟩) (Kd.S_far (p := ⟨gb358, 2, none⟩) (Kd.S_far (p := ⟨gb358, 1, none⟩) (Kd.S_far (p := ⟨gb358, 0, none⟩) (Kd.S_mono HO_8.out (fun k_ hk => (⟨hk, hk.2⟩ : _ ∧ k_ ≠ gb358))) (fun _ hk => hk.2) (.int .i64 ((rd_T45 l0 x36_2).f0))) (fun _ hk => hk.2) (.int .i64 ((rd_T45 l0 x36_2).f1))) (fun _ hk => hk.2) (.bool ((rd_T45 l0 x36_2).f2.f0))) (fun _ hk => hk.2) (.int .i64 ((rd_T45 l0 x36_2).f2.f1))) (fun _ hk => hk.2) (.int .i64 ((rd_T45 l0 x36_2).f2.f2))) (fun _ hk => hk.2) (.int .i64 ((rd_T45 l0 x36_2).f2.f3))) (fun _ hk => hk.2) (.int .i64 ((rd_T45 l0 x36_2).f2.f4))) (fun _ hk => hk.2) (.int .i64 ((rd_T45 l0 x36_2).f2.f5))) (fun _ hk => hk.2) (.int .i64 ((rd_T45 l0 x36_2).f3.f0))) (fun _ hk => hk.2) (.int .i64 ((rd_T45 l0 x36_2).f3.f1))) (fun _ hk => hk.2) (.int .i64 ((rd_T45 l0 x36_2).f3.f2))) (fun _ hk => hk.2) (.int .i64 ((rd_T45 l0 x36_2).f4))) (fun _ h_ => h_.1))) hb); have n1_ := YL (YV (by (with_reducible repeat (first | apply YS | apply YT | apply YU)); exact (Kd.R_mono (Kd.R_far (p := ⟨gb358, 11, none⟩) (Kd.R_far (p := ⟨gb358, 10, none⟩) (Kd.R_far (p := ⟨gb358, 9, none⟩) (Kd.R_far (p := ⟨gb358, 8, none⟩) (Kd.R_far (p := ⟨gb358, 7, none⟩) (Kd.R_far (p := ⟨gb358, 6, none⟩) (Kd.R_far (p := ⟨gb358, 5, none⟩) (Kd.R_far (p := ⟨gb358, 4, none⟩) (Kd.R_far (p := ⟨gb358, 3, none⟩) (Kd.R_far (p := ⟨gb358, 2, none⟩) (Kd.R_far (p := ⟨gb358, 1, none⟩) (Kd.R_far (p := ⟨gb358, 0, none⟩) (Kd.R_mono HO_354001.out (fun k_ hk => (⟨hk, hk.2⟩ : _ ∧ k_ ≠ gb358))) (fun _ hk => hk.2) (.int .i64 ((rd_T45 l0 x36_2).f0))) (fun _ hk => hk.2) (.int .i64 ((rd_T45 l0 x36_2).f1))) (fun _ hk => hk.2) (.bool ((rd_T45 l0 x36_2).f2.f0))) (fun _ hk => hk.2) (.int .i64 ((rd_T45 l0 x36_2).f2.f1))) (fun _ hk => hk.2) (.int .i64 ((rd_T45 l0 x36_2).f2.f2))) (fun _ hk => hk.2) (.int .i64 ((rd_T45 l0 x36_2).f2.f3))) (fun _ hk => hk.2) (.int .i64 ((rd_T45 l0 x36_2).f2.f4))) (fun _ hk => hk.2) (.int .i64 ((rd_T45 l0 x36_2).f2.f5))) (fun _ hk => hk.2) (.int .i64 ((rd_T45 l0 x36_2).f3.f0))) (fun _ hk => hk.2) (.int .i64 ((rd_T45 l0 x36_2).f3.f1))) (fun _ hk => hk.2) (.int .i64 ((rd_T45 l0 x36_2).f3.f2))) (fun _ hk => hk.2) (.int .i64 ((rd_T45 l0 x36_2).f4))) (fun _ h_ => h_.1))) hb); have n2_ := YL (YK (g := gb353) (o := .cells #[.int .i64 x354000_2, u354001] 24 (0, 0)) (by (with_reducible repeat (first | refine YF ?_ _ | refine YG ?_ | refine YH ?_ _)); refine blk_far ?_ NB353_358.out _; (with_reducible repeat (first | refine YF ?_ _ | refine YG ?_ | refine YH ?_ _)); refine blk_far ?_ NB353_358.out _; (with_reducible repeat (first | refine YF ?_ _ | refine YG ?_ | refine YH ?_ _)); refine blk_far ?_ NB353_358.out _; (with_reducible repeat (first | refine YF ?_ _ | refine YG ?_ | refine YH ?_ _)); refine blk_far ?_ NB353_358.out _; (with_reducible repeat (first | refine YF ?_ _ | refine YG ?_ | refine YH ?_ _)); refine blk_far ?_ NB353_358.out _; (with_reducible repeat (first | refine YF ?_ _ | refine YG ?_ | refine YH ?_ _)); refine blk_far ?_ NB353_358.out _; (with_reducible repeat (first | refine YF ?_ _ | refine YG ?_ | refine YH ?_ _)); refine blk_far ?_ NB353_358.out _; (with_reducible repeat (first | refine YF ?_ _ | refine YG ?_ | refine YH ?_ _)); refine blk_far ?_ NB353_358.out _; (with_reducible repeat (first | refine YF ?_ _ | refine YG ?_ | refine YH ?_ _)); refine blk_far ?_ NB353_358.out _; (with_reducible repeat (first | refine YF ?_ _ | refine YG ?_ | refine YH ?_ _)); refine blk_far ?_ NB353_358.out _; (with_reducible repeat (first | refine YF ?_ _ | refine YG ?_ | refine YH ?_ _)); refine blk_far ?_ NB353_358.out _; (with_reducible repeat (first | refine YF ?_ _ | refine YG ?_ | refine YH ?_ _)); refine blk_far ?_ NB353_358.out _; (with_reducible repeat (first | refine YF ?_ _ | refine YG ?_ | refine YH ?_ _)); exact BK353.out) hb); have n3_ := YL (YK (g := gb358) (o := .cells #[.int .i64 ((rd_T45 l0 x36_2).f0), .int .i64 ((rd_T45 l0 x36_2).f1), .bool ((rd_T45 l0 x36_2).f2.f0), .int .i64 ((rd_T45 l0 x36_2).f2.f1), .int .i64 ((rd_T45 l0 x36_2).f2.f2), .int .i64 ((rd_T45 l0 x36_2).f2.f3), .int .i64 ((rd_T45 l0 x36_2).f2.f4), .int .i64 ((rd_T45 l0 x36_2).f2.f5), .int .i64 ((rd_T45 l0 x36_2).f3.f0), .int .i64 ((rd_T45 l0 x36_2).f3.f1), .int .i64 ((rd_T45 l0 x36_2).f3.f2), .int .i64 ((rd_T45 l0 x36_2).f4)] 45 (0, 0)) (by (with_reducible repeat (first | refine YF ?_ _ | refine YG ?_ | refine YH ?_ _)); refine blk_put (cs := #[.int .i64 ((rd_T45 l0 x36_2).f0), .int .i64 ((rd_T45 l0 x36_2).f1), .bool ((rd_T45 l0 x36_2).f2.f0), .int .i64 ((rd_T45 l0 x36_2).f2.f1), .int .i64 ((rd_T45 l0 x36_2).f2.f2), .int .i64 ((rd_T45 l0 x36_2).f2.f3), .int .i64 ((rd_T45 l0 x36_2).f2.f4), .int .i64 ((rd_T45 l0 x36_2).f2.f5), .int .i64 ((rd_T45 l0 x36_2).f3.f0), .int .i64 ((rd_T45 l0 x36_2).f3.f1), .int .i64 ((rd_T45 l0 x36_2).f3.f2), .int .i64 0]) ?_ 11 _ rfl; (with_reducible repeat (first | refine YF ?_ _ | refine YG ?_ | refine YH ?_ _)); refine blk_put (cs := #[.int .i64 ((rd_T45 l0 x36_2).f0), .int .i64 ((rd_T45 l0 x36_2).f1), .bool ((rd_T45 l0 x36_2).f2.f0), .int .i64 ((rd_T45 l0 x36_2).f2.f1), .int .i64 ((rd_T45 l0 x36_2).f2.f2), .int .i64 ((rd_T45 l0 x36_2).f2.f3), .int .i64 ((rd_T45 l0 x36_2).f2.f4), .int .i64 ((rd_T45 l0 x36_2).f2.f5), .int .i64 ((rd_T45 l0 x36_2).f3.f0), .int .i64 ((rd_T45 l0 x36_2).f3.f1), .int .i64 0, .int .i64 0]) ?_ 10 _ rfl; (with_reducible repeat (first | refine YF ?_ _ | refine YG ?_ | refine YH ?_ _)); refine blk_put (cs := #[.int .i64 ((rd_T45 l0 x36_2).f0), .int .i64 ((rd_T45 l0 x36_2).f1), .bool ((rd_T45 l0 x36_2).f2.f0), .int .i64 ((rd_T45 l0 x36_2).f2.f1), .int .i64 ((rd_T45 l0 x36_2).f2.f2), .int .i64 ((rd_T45 l0 x36_2).f2.f3), .int .i64 ((rd_T45 l0 x36_2).f2.f4), .int .i64 ((rd_T45 l0 x36_2).f2.f5), .int .i64 ((rd_T45 l0 x36_2).f3.f0), .int .i64 0, .int .i64 0, .int .i64 0]) ?_ 9 _ rfl; (with_reducible repeat (first | refine YF ?_ _ | refine YG ?_ | refine YH ?_ _)); refine blk_put (cs := #[.int .i64 ((rd_T45 l0 x36_2).f0), .int .i64 ((rd_T45 l0 x36_2).f1), .bool ((rd_T45 l0 x36_2).f2.f0), .int .i64 ((rd_T45 l0 x36_2).f2.f1), .int .i64 ((rd_T45 l0 x36_2).f2.f2), .int .i64 ((rd_T45 l0 x36_2).f2.f3), .int .i64 ((rd_T45 l0 x36_2).f2.f4), .int .i64 ((rd_T45 l0 x36_2).f2.f5), .int .i64 0, .int .i64 0, .int .i64 0, .int .i64 0]) ?_ 8 _ rfl; (with_reducible repeat (first | refine YF ?_ _ | refine YG ?_ | refine YH ?_ _)); refine blk_put (cs := #[.int .i64 ((rd_T45 l0 x36_2).f0), .int .i64 ((rd_T45 l0 x36_2).f1), .bool ((rd_T45 l0 x36_2).f2.f0), .int .i64 ((rd_T45 l0 x36_2).f2.f1), .int .i64 ((rd_T45 l0 x36_2).f2.f2), .int .i64 ((rd_T45 l0 x36_2).f2.f3), .int .i64 ((rd_T45 l0 x36_2).f2.f4), .int .i64 0, .int .i64 0, .int .i64 0, .int .i64 0, .int .i64 0]) ?_ 7 _ rfl; (with_reducible repeat (first | refine YF ?_ _ | refine YG ?_ | refine YH ?_ _)); refine blk_put (cs := #[.int .i64 ((rd_T45 l0 x36_2).f0), .int .i64 ((rd_T45 l0 x36_2).f1), .bool ((rd_T45 l0 x36_2).f2.f0), .int .i64 ((rd_T45 l0 x36_2).f2.f1), .int .i64 ((rd_T45 l0 x36_2).f2.f2), .int .i64 ((rd_T45 l0 x36_2).f2.f3), .int .i64 0, .int .i64 0, .int .i64 0, .int .i64 0, .int .i64 0, .int .i64 0]) ?_ 6 _ rfl; (with_reducible repeat (first | refine YF ?_ _ | refine YG ?_ | refine YH ?_ _)); refine blk_put (cs := #[.int .i64 ((rd_T45 l0 x36_2).f0), .int .i64 ((rd_T45 l0 x36_2).f1), .bool ((rd_T45 l0 x36_2).f2.f0), .int .i64 ((rd_T45 l0 x36_2).f2.f1), .int .i64 ((rd_T45 l0 x36_2).f2.f2), .int .i64 0, .int .i64 0, .int .i64 0, .int .i64 0, .int .i64 0, .int .i64 0, .int .i64 0]) ?_ 5 _ rfl; (with_reducible repeat (first | refine YF ?_ _ | refine YG ?_ | refine YH ?_ _)); refine blk_put (cs := #[.int .i64 ((rd_T45 l0 x36_2).f0), .int .i64 ((rd_T45 l0 x36_2).f1), .bool ((rd_T45 l0 x36_2).f2.f0), .int .i64 ((rd_T45 l0 x36_2).f2.f1), .int .i64 0, .int .i64 0, .int .i64 0, .int .i64 0, .int .i64 0, .int .i64 0, .int .i64 0, .int .i64 0]) ?_ 4 _ rfl; (with_reducible repeat (first | refine YF ?_ _ | refine YG ?_ | refine YH ?_ _)); refine blk_put (cs := #[.int .i64 ((rd_T45 l0 x36_2).f0), .int .i64 ((rd_T45 l0 x36_2).f1), .bool ((rd_T45 l0 x36_2).f2.f0), .int .i64 0, .int .i64 0, .int .i64 0, .int .i64 0, .int .i64 0, .int .i64 0, .int .i64 0, .int .i64 0, .int .i64 0]) ?_ 3 _ rfl; (with_reducible repeat (first | refine YF ?_ _ | refine YG ?_ | refine YH ?_ _)); refine blk_put (cs := #[.int .i64 ((rd_T45 l0 x36_2).f0), .int .i64 ((rd_T45 l0 x36_2).f1), .bool false, .int .i64 0, .int .i64 0, .int .i64 0, .int .i64 0, .int .i64 0, .int .i64 0, .int .i64 0, .int .i64 0, .int .i64 0]) ?_ 2 _ rfl; (with_reducible repeat (first | refine YF ?_ _ | refine YG ?_ | refine YH ?_ _)); refine blk_put (cs := #[.int .i64 ((rd_T45 l0 x36_2).f0), .int .i64 0, .bool false, .int .i64 0, .int .i64 0, .int .i64 0, .int .i64 0, .int .i64 0, .int .i64 0, .int .i64 0, .int .i64 0, .int .i64 0]) ?_ 1 _ rfl; (with_reducible repeat (first | refine YF ?_ _ | refine YG ?_ | refine YH ?_ _)); refine blk_put (cs := #[.int .i64 0, .int .i64 0, .bool false, .int .i64 0, .int .i64 0, .int .i64 0, .int .i64 0, .int .i64 0, .int .i64 0, .int .i64 0, .int .i64 0, .int .i64 0]) ?_ 0 _ rfl; (with_reducible repeat (first | refine YF ?_ _ | refine YG ?_ | refine YH ?_ _)); exact BK358.out) hb); have n4_ := YL (YD (by repeat (first | (with_reducible first | exact HB.out | apply YA | apply YB | apply YC | refine below_set ?_ GE353.out | refine below_set ?_ GE358.out) | exact HB.out)) hb); clear HO_8; clear HO_354001; clear BK353; clear BK358; clear HB; have HO_8 := n0_; have HO_354001 := n1_; have BK353 := n2_; have BK358 := n3_; have HB := n4_; clear n0_ n1_ n2_ n3_ n4_; (try clear hb); (try clear hb2); (try clear hk); (try clear hi); have q54_0 : w53.cell? ⟨gb353, 0, none⟩ = some (.int .i64 x354000_2) := (YI BK353.out 0).trans rfl; have q54_1 : w53.cell? ⟨gb353, 1, none⟩ = some (u354001) := (YI BK353.out 1).trans rfl; have f54_0 := YJ BK353.out 0; have f54_1 := YJ BK353.out 1; obtain ⟨Ao56, co56, eo56⟩ := Kd.R_slice HO_354001.out; subst eo56) | ((with_reducible refine gate_builtin (b := .append) (xs := #[.tmp 64, .tmp 66]) rfl ?_); (try (refine gate_guard (by rfl) ?_; dsimp only)); at_builtin; refine Kd.S_append k24 (w0 := w) w.heap.size rfl (.tmp 64) (.tmp 66) 34 24 (.agg #[(.int .i64 0), (.slice none 0 0)]) 32 rfl Try.underlying34 info24 rfl (by decide) (by omega) u8 x8_2 (⟨x354000_2, x354001_2⟩ : S24) [.int .i64 x354000_2, .slice Ao56 x354001_2.length co56] (fun k_ => k_ ≠ gb353 ∧ k_ ≠ gb358) (fun k_ => some k_ = (.slice Ao56 x354001_2.length co56 : Value).ownBlock) rfl rfl ?aP (fun k_ hk_ => ((Kd.R_mono (ok' := fun k_ => ((fun k_ => k_ ≠ gb353 ∧ k_ ≠ gb358)) k_ ∧ some k_ ≠ (u8 : Value).ownBlock) (Kd.R_types (Kd.R_apart' (HO_354001.out) (Kd.S_typed HO_8.out) (by decide)) BK353.out (by decide)) (fun k_ hk => ⟨⟨hk.2, hk.1.1.2⟩, hk.1.2⟩))).1 k_ hk_.symm) ?aF ?aO ?aB ?aS ?aL ?_; (case aP => exact k24_mkM _ _ _ (⟨x354000_2, x354001_2⟩ : S24) (Kd.R_mono (Kd.R_tight rfl (Kd.R_mono (ok' := fun k_ => ((fun k_ => k_ ≠ gb353 ∧ k_ ≠ gb358)) k_ ∧ some k_ ≠ (u8 : Value).ownBlock) (Kd.R_types (Kd.R_apart' (HO_354001.out) (Kd.S_typed HO_8.out) (by decide)) BK353.out (by decide)) (fun k_ hk => ⟨⟨hk.2, hk.1.1.2⟩, hk.1.2⟩))) (fun _ h_ => h_))); (case aB => exact (by repeat (first | (with_reducible first | exact HB.out | apply YA | apply YB | apply YC | refine below_set ?_ GE353.out | refine below_set ?_ GE358.out) | exact HB.out))); (case aF => exact (fun k_ hk => ⟨Kd.freshB (g := gb353) (o := .cells #[.int .i64 x354000_2, .slice Ao56 x354001_2.length co56] 24 (0, 0)) (by (with_reducible repeat (first | refine YF ?_ _ | refine YG ?_ | refine YH ?_ _)); exact BK353.out) k_ hk, Kd.freshB (g := gb358) (o := .cells #[.int .i64 ((rd_T45 l0 x36_2).f0), .int .i64 ((rd_T45 l0 x36_2).f1), .bool ((rd_T45 l0 x36_2).f2.f0), .int .i64 ((rd_T45 l0 x36_2).f2.f1), .int .i64 ((rd_T45 l0 x36_2).f2.f2), .int .i64 ((rd_T45 l0 x36_2).f2.f3), .int .i64 ((rd_T45 l0 x36_2).f2.f4), .int .i64 ((rd_T45 l0 x36_2).f2.f5), .int .i64 ((rd_T45 l0 x36_2).f3.f0), .int .i64 ((rd_T45 l0 x36_2).f3.f1), .int .i64 ((rd_T45 l0 x36_2).f3.f2), .int .i64 ((rd_T45 l0 x36_2).f4)] 45 (0, 0)) (by (with_reducible repeat (first | refine YF ?_ _ | refine YG ?_ | refine YH ?_ _)); exact BK358.out) k_ hk⟩)); (case aO => exact (by (with_reducible repeat (first | apply Kd.S_alloc | apply Kd.S_drewN | apply Kd.S_drew)); exact Kd.S_mono HO_8.out (fun k_ hk => ⟨⟨hk.1.2, hk.2⟩, fun e_ => hk.1.1 e_⟩))); (case aS => exact (YE (by repeat (first | (with_reducible first | exact HB.out | apply YA | apply YB | apply YC | refine below_set ?_ GE353.out | refine below_set ?_ GE358.out) | exact HB.out)))); (case aL => have := LMc48.out; omega); intro v372 w55 ho hb hg hat; rw [← Ny371.out] at ho; have n0_ := YL (blk_grown (g := gb353) (o := .cells #[.int .i64 x354000_2, .slice Ao56 x354001_2.length co56] 24 (0, 0)) (by (with_reducible repeat (first | refine YF ?_ _ | refine YG ?_ | refine YH ?_ _)); exact BK353.out) hg (Kd.S_away HO_8.out (fun _ hk => hk.1.2))); have n1_ := YL (blk_grown (g := gb358) (o := .cells #[.int .i64 ((rd_T45 l0 x36_2).f0), .int .i64 ((rd_T45 l0 x36_2).f1), .bool ((rd_T45 l0 x36_2).f2.f0), .int .i64 ((rd_T45 l0 x36_2).f2.f1), .int .i64 ((rd_T45 l0 x36_2).f2.f2), .int .i64 ((rd_T45 l0 x36_2).f2.f3), .int .i64 ((rd_T45 l0 x36_2).f2.f4), .int .i64 ((rd_T45 l0 x36_2).f2.f5), .int .i64 ((rd_T45 l0 x36_2).f3.f0), .int .i64 ((rd_T45 l0 x36_2).f3.f1), .int .i64 ((rd_T45 l0 x36_2).f3.f2), .int .i64 ((rd_T45 l0 x36_2).f4)] 45 (0, 0)) (by (with_reducible repeat (first | refine YF ?_ _ | refine YG ?_ | refine YH ?_ _)); exact BK358.out) hg (Kd.S_ne HO_8.out BK358.out (by decide))); have n2_ := YL (hb); have n3_ := YL (ho); clear BK353; clear BK358; clear HB; clear HO_8; clear HO_354001; have BK353 := n0_; have BK358 := n1_; have HB := n2_; have HO373 := n3_; clear n0_ n1_ n2_ n3_; clear ho hb hg hat))
            have n0_ := YL (Kd.S_drew HO373.out)
            have n1_ := YL (YG BK353.out)
            have n2_ := YL (YG BK358.out)
            have n3_ := YL (YC HB.out)
            clear HO373; clear BK353; clear BK358; clear HB; have HO373 := n0_; have BK353 := n1_; have BK358 := n2_; have HB := n3_; clear n0_ n1_ n2_ n3_
            refine start_ (n := 7) (S := fun w' => w'.cell? ⟨gb353, 0, none⟩ = some (.int .i64 x354000_2) ∧ w'.cell? ⟨gb353, 1, none⟩ = some (.slice Ao56 x354001_2.length co56) ∧ w'.cell? ⟨gb358, 0, none⟩ = some (.int .i64 ((rd_T45 l0 x36_2).f0)) ∧ w'.cell? ⟨gb358, 1, none⟩ = some (.int .i64 ((rd_T45 l0 x36_2).f1)) ∧ w'.cell? ⟨gb358, 2, none⟩ = some (.bool ((rd_T45 l0 x36_2).f2.f0)) ∧ w'.cell? ⟨gb358, 3, none⟩ = some (.int .i64 ((rd_T45 l0 x36_2).f2.f1)) ∧ w'.cell? ⟨gb358, 4, none⟩ = some (.int .i64 ((rd_T45 l0 x36_2).f2.f2)) ∧ w'.cell? ⟨gb358, 5, none⟩ = some (.int .i64 ((rd_T45 l0 x36_2).f2.f3)) ∧ w'.cell? ⟨gb358, 6, none⟩ = some (.int .i64 ((rd_T45 l0 x36_2).f2.f4)) ∧ w'.cell? ⟨gb358, 7, none⟩ = some (.int .i64 ((rd_T45 l0 x36_2).f2.f5)) ∧ w'.cell? ⟨gb358, 8, none⟩ = some (.int .i64 ((rd_T45 l0 x36_2).f3.f0)) ∧ w'.cell? ⟨gb358, 9, none⟩ = some (.int .i64 ((rd_T45 l0 x36_2).f3.f1)) ∧ w'.cell? ⟨gb358, 10, none⟩ = some (.int .i64 ((rd_T45 l0 x36_2).f3.f2)) ∧ w'.cell? ⟨gb358, 11, none⟩ = some (.int .i64 ((rd_T45 l0 x36_2).f4))) (ds := [6]) #[false, false, false, false, false, false, false] (by kernel_rfl) rfl rfl ⟨(YI BK353.out 0).trans rfl, (YI BK353.out 1).trans rfl, (YI BK358.out 0).trans rfl, (YI BK358.out 1).trans rfl, (YI BK358.out 2).trans rfl, (YI BK358.out 3).trans rfl, (YI BK358.out 4).trans rfl, (YI BK358.out 5).trans rfl, (YI BK358.out 6).trans rfl, (YI BK358.out 7).trans rfl, (YI BK358.out 8).trans rfl, (YI BK358.out 9).trans rfl, (YI BK358.out 10).trans rfl, (YI BK358.out 11).trans rfl⟩ (fun hHeld => ?_)
            generalize w55.drew = w57 at HO373 BK353 BK358 HB hHeld ⊢
            refine pure_ (i := 0) (N := some 68) (v := ?_) (a' := ?_) #[true, false, false, false, false, false, false] rfl rfl (by kernel_rfl) (fun _ _ _ h => h) (Or.inl ⟨by rfl, ?_⟩) ?_ ?_
            rotate_left
            · intro w'
              go_simp; with_reducible rfl
            rotate_left
            · simp only [Act.put, YM, YN, YO, i64_w, i32_w]
              rfl
            refine take_ (i := 1) (N := some 69) (v := ?_) (a' := ?_) #[true, true, false, false, false, false, false] rfl rfl (by kernel_rfl) (fun _ _ _ h => h) (Or.inl ⟨by rfl, ?_⟩) hHeld ?_ ?_
            rotate_left
            · rintro w' ⟨s0, s1, s2, s3, s4, s5, s6, s7, s8, s9, s10, s11, s12, s13⟩
              go_simp; with_reducible rfl
            rotate_left
            · simp only [Act.put, YM, YN, YO, i64_w, i32_w]
              rfl
            refine take_ (i := 3) (N := some 71) (v := ?_) (a' := ?_) #[true, true, false, true, false, false, false] rfl rfl (by kernel_rfl) (fun _ _ _ h => h) (Or.inl ⟨by rfl, ?_⟩) hHeld ?_ ?_
            rotate_left
            · rintro w' ⟨s0, s1, s2, s3, s4, s5, s6, s7, s8, s9, s10, s11, s12, s13⟩
              go_simp; with_reducible rfl
            rotate_left
            · simp only [Act.put, YM, YN, YO, i64_w, i32_w]
              rfl
            refine join_ (σ := Value) 2 #[true, true, true, true, true, false, false] (fun s_ => [(70, .int .i64 t374), (72, s_)]) (fun s_ w' => (w'.cell? ⟨gb353, 0, none⟩ = some (.int .i64 x354000_2) ∧ w'.cell? ⟨gb353, 1, none⟩ = some (.slice Ao56 x354001_2.length co56) ∧ w'.cell? ⟨gb358, 0, none⟩ = some (.int .i64 ((rd_T45 l0 x36_2).f0)) ∧ w'.cell? ⟨gb358, 1, none⟩ = some (.int .i64 ((rd_T45 l0 x36_2).f1)) ∧ w'.cell? ⟨gb358, 2, none⟩ = some (.bool ((rd_T45 l0 x36_2).f2.f0)) ∧ w'.cell? ⟨gb358, 3, none⟩ = some (.int .i64 ((rd_T45 l0 x36_2).f2.f1)) ∧ w'.cell? ⟨gb358, 4, none⟩ = some (.int .i64 ((rd_T45 l0 x36_2).f2.f2)) ∧ w'.cell? ⟨gb358, 5, none⟩ = some (.int .i64 ((rd_T45 l0 x36_2).f2.f3)) ∧ w'.cell? ⟨gb358, 6, none⟩ = some (.int .i64 ((rd_T45 l0 x36_2).f2.f4)) ∧ w'.cell? ⟨gb358, 7, none⟩ = some (.int .i64 ((rd_T45 l0 x36_2).f2.f5)) ∧ w'.cell? ⟨gb358, 8, none⟩ = some (.int .i64 ((rd_T45 l0 x36_2).f3.f0)) ∧ w'.cell? ⟨gb358, 9, none⟩ = some (.int .i64 ((rd_T45 l0 x36_2).f3.f1)) ∧ w'.cell? ⟨gb358, 10, none⟩ = some (.int .i64 ((rd_T45 l0 x36_2).f3.f2)) ∧ w'.cell? ⟨gb358, 11, none⟩ = some (.int .i64 ((rd_T45 l0 x36_2).f4))) ∧ (Kd.S k24 24 w' w.heap.size (fun k_ => some k_ ≠ (s_ : Value).ownBlock ∧ k_ ≠ gb353 ∧ k_ ≠ gb358) v372 y371) ∧ (Kd.R k45 45 w' w.heap.size (fun k_ => k_ ≠ gb358) s_ y375) ∧ (w'.heap[gb353]? = some (.cells #[.int .i64 x354000_2, .slice Ao56 x354001_2.length co56] 24 (0, 0))) ∧ (w'.heap[gb358]? = some (.cells #[.int .i64 ((rd_T45 l0 x36_2).f0), .int .i64 ((rd_T45 l0 x36_2).f1), .bool ((rd_T45 l0 x36_2).f2.f0), .int .i64 ((rd_T45 l0 x36_2).f2.f1), .int .i64 ((rd_T45 l0 x36_2).f2.f2), .int .i64 ((rd_T45 l0 x36_2).f2.f3), .int .i64 ((rd_T45 l0 x36_2).f2.f4), .int .i64 ((rd_T45 l0 x36_2).f2.f5), .int .i64 ((rd_T45 l0 x36_2).f3.f0), .int .i64 ((rd_T45 l0 x36_2).f3.f1), .int .i64 ((rd_T45 l0 x36_2).f3.f2), .int .i64 ((rd_T45 l0 x36_2).f4)] 45 (0, 0))) ∧ (Below w.heap.size w w')) ?_ ?_
            rotate_left
            · intro hCont
              refine two_ (i := 2) (j := 4) (Ni := some 70) (Nj := some 72) #[true, true, true, true, false, false, false] #[true, true, false, true, true, false, false] rfl rfl rfl rfl (by kernel_rfl) (by decide) (by decide) (fun K hK => ?_) (fun K hK => ?_)
              · skip
                refine goes_ Try.func20 (by kernel_rfl) rfl #[.int .i64 x354000_2] (by rfl) rfl rfl (by (try simp only [YP, List.map_cons, List.map_nil]); first | done | rfl | (simp only [YR, YQ]; rfl)) ?_
                with_reducible refine (serial_Next.calls x354000_2 t374 _ A49.out).mono ?_
                rintro e w' ⟨rfl, ⟨nd, rfl⟩⟩
                refine ⟨_, rfl, ?_⟩
                refine hK.out _ _ ⟨(YI BK353.out 0).trans rfl, (YI BK353.out 1).trans rfl, (YI BK358.out 0).trans rfl, (YI BK358.out 1).trans rfl, (YI BK358.out 2).trans rfl, (YI BK358.out 3).trans rfl, (YI BK358.out 4).trans rfl, (YI BK358.out 5).trans rfl, (YI BK358.out 6).trans rfl, (YI BK358.out 7).trans rfl, (YI BK358.out 8).trans rfl, (YI BK358.out 9).trans rfl, (YI BK358.out 10).trans rfl, (YI BK358.out 11).trans rfl⟩ (fun hHeld => ?_)
                clear hK K
                refine norm_ (a' := ?_) ?_ ?_
                rotate_left
                · show Act.put _ (some 70) _ = _
                  simp only [Act.put, YM, YN, YO, i64_w, i32_w]
                  rfl
                refine one_ (i := 4) (N := some 72) #[true, true, true, true, true, false, false] rfl rfl (by kernel_rfl) (by decide) (fun K hK => ?_)
                refine Kd.R_lit_step k45 _ 45 ?hg (N := 72) ?hd (xs := ([(⟨(rd_T45 l0 x36_2).f0, (rd_T45 l0 x36_2).f1, (⟨(rd_T45 l0 x36_2).f2.f0, (rd_T45 l0 x36_2).f2.f1, (rd_T45 l0 x36_2).f2.f2, (rd_T45 l0 x36_2).f2.f3, (rd_T45 l0 x36_2).f2.f4, (rd_T45 l0 x36_2).f2.f5⟩ : S41), (⟨(rd_T45 l0 x36_2).f3.f0, (rd_T45 l0 x36_2).f3.f1, (rd_T45 l0 x36_2).f3.f2⟩ : S43), (rd_T45 l0 x36_2).f4⟩ : S45)] : List (S45))) (inner := [.int .i64 ((rd_T45 l0 x36_2).f0), .int .i64 ((rd_T45 l0 x36_2).f1), .bool ((rd_T45 l0 x36_2).f2.f0), .int .i64 ((rd_T45 l0 x36_2).f2.f1), .int .i64 ((rd_T45 l0 x36_2).f2.f2), .int .i64 ((rd_T45 l0 x36_2).f2.f3), .int .i64 ((rd_T45 l0 x36_2).f2.f4), .int .i64 ((rd_T45 l0 x36_2).f2.f5), .int .i64 ((rd_T45 l0 x36_2).f3.f0), .int .i64 ((rd_T45 l0 x36_2).f3.f1), .int .i64 ((rd_T45 l0 x36_2).f3.f2), .int .i64 ((rd_T45 l0 x36_2).f4)]) (ok := fun _ => True) (okp := fun _ => True) ?hr ?hp (fun _ hk => hk) trivial (Below.refl _ _) (Nat.le_refl _) (by simp) ?_; (case hd => rfl); (case hg => rfl); (case hr => first | (go_simp; done) | (go_simp; rfl)); (case hp => exact (Reps.front (show Kd.M k45 _ _ _ (⟨(rd_T45 l0 x36_2).f0, (rd_T45 l0 x36_2).f1, (⟨(rd_T45 l0 x36_2).f2.f0, (rd_T45 l0 x36_2).f2.f1, (rd_T45 l0 x36_2).f2.f2, (rd_T45 l0 x36_2).f2.f3, (rd_T45 l0 x36_2).f2.f4, (rd_T45 l0 x36_2).f2.f5⟩ : S41), (⟨(rd_T45 l0 x36_2).f3.f0, (rd_T45 l0 x36_2).f3.f1, (rd_T45 l0 x36_2).f3.f2⟩ : S43), (rd_T45 l0 x36_2).f4⟩ : S45) [.int .i64 ((rd_T45 l0 x36_2).f0), .int .i64 ((rd_T45 l0 x36_2).f1), .bool ((rd_T45 l0 x36_2).f2.f0), .int .i64 ((rd_T45 l0 x36_2).f2.f1), .int .i64 ((rd_T45 l0 x36_2).f2.f2), .int .i64 ((rd_T45 l0 x36_2).f2.f3), .int .i64 ((rd_T45 l0 x36_2).f2.f4), .int .i64 ((rd_T45 l0 x36_2).f2.f5), .int .i64 ((rd_T45 l0 x36_2).f3.f0), .int .i64 ((rd_T45 l0 x36_2).f3.f1), .int .i64 ((rd_T45 l0 x36_2).f3.f2), .int .i64 ((rd_T45 l0 x36_2).f4)] from (k45_mkM _ _ _ (⟨(rd_T45 l0 x36_2).f0, (rd_T45 l0 x36_2).f1, (⟨(rd_T45 l0 x36_2).f2.f0, (rd_T45 l0 x36_2).f2.f1, (rd_T45 l0 x36_2).f2.f2, (rd_T45 l0 x36_2).f2.f3, (rd_T45 l0 x36_2).f2.f4, (rd_T45 l0 x36_2).f2.f5⟩ : S41), (⟨(rd_T45 l0 x36_2).f3.f0, (rd_T45 l0 x36_2).f3.f1, (rd_T45 l0 x36_2).f3.f2⟩ : S43), (rd_T45 l0 x36_2).f4⟩ : S45) )) rfl (Reps.none _ _) rfl))
                intro v376 w58 ho59 hb hg_ hnew_
                clear hg_ hnew_
                (first | rw [← Ny375.out] at ho59 | (simp only [Int.reduceToNat] at ho59; rw [← Ny375.out] at ho59))
                have n0_ := YL (Kd.S_elder' (by (with_reducible repeat (first | apply Kd.S_alloc | apply Kd.S_drewN | apply Kd.S_drew)); exact HO373.out) (Kd.R_base ho59) hb)
                have n1_ := YL (Kd.R_lower (Kd.R_newB ho59 (g := gb358) (o := .cells #[.int .i64 ((rd_T45 l0 x36_2).f0), .int .i64 ((rd_T45 l0 x36_2).f1), .bool ((rd_T45 l0 x36_2).f2.f0), .int .i64 ((rd_T45 l0 x36_2).f2.f1), .int .i64 ((rd_T45 l0 x36_2).f2.f2), .int .i64 ((rd_T45 l0 x36_2).f2.f3), .int .i64 ((rd_T45 l0 x36_2).f2.f4), .int .i64 ((rd_T45 l0 x36_2).f2.f5), .int .i64 ((rd_T45 l0 x36_2).f3.f0), .int .i64 ((rd_T45 l0 x36_2).f3.f1), .int .i64 ((rd_T45 l0 x36_2).f3.f2), .int .i64 ((rd_T45 l0 x36_2).f4)] 45 (0, 0)) (by (with_reducible repeat (first | refine YF ?_ _ | refine YG ?_ | refine YH ?_ _)); exact BK358.out)) (YE (by repeat (first | (with_reducible first | exact HB.out | apply YA | apply YB | apply YC | refine below_set ?_ GE353.out | refine below_set ?_ GE358.out) | exact HB.out))))
                have n2_ := YL (YK (g := gb353) (o := .cells #[.int .i64 x354000_2, .slice Ao56 x354001_2.length co56] 24 (0, 0)) (by (with_reducible repeat (first | refine YF ?_ _ | refine YG ?_ | refine YH ?_ _)); exact BK353.out) hb)
                have n3_ := YL (YK (g := gb358) (o := .cells #[.int .i64 ((rd_T45 l0 x36_2).f0), .int .i64 ((rd_T45 l0 x36_2).f1), .bool ((rd_T45 l0 x36_2).f2.f0), .int .i64 ((rd_T45 l0 x36_2).f2.f1), .int .i64 ((rd_T45 l0 x36_2).f2.f2), .int .i64 ((rd_T45 l0 x36_2).f2.f3), .int .i64 ((rd_T45 l0 x36_2).f2.f4), .int .i64 ((rd_T45 l0 x36_2).f2.f5), .int .i64 ((rd_T45 l0 x36_2).f3.f0), .int .i64 ((rd_T45 l0 x36_2).f3.f1), .int .i64 ((rd_T45 l0 x36_2).f3.f2), .int .i64 ((rd_T45 l0 x36_2).f4)] 45 (0, 0)) (by (with_reducible repeat (first | refine YF ?_ _ | refine YG ?_ | refine YH ?_ _)); exact BK358.out) hb)
                have n4_ := YL (YD (by repeat (first | (with_reducible first | exact HB.out | apply YA | apply YB | apply YC | refine below_set ?_ GE353.out | refine below_set ?_ GE358.out) | exact HB.out)) hb)
                clear HO373; clear BK353; clear BK358; clear HB; have HO373 := n0_; have HO377 := n1_; have BK353 := n2_; have BK358 := n3_; have HB := n4_; clear n0_ n1_ n2_ n3_ n4_; clear hb ho59
                obtain ⟨Ao60, co60, eo60⟩ := Kd.R_slice HO377.out
                (first | subst eo60 | (injection eo60 with f1_ f2_ f3_; have f4_ := f1_.symm; have f5_ := f3_.symm; clear f1_ f2_ f3_; subst f4_; subst f5_))
                refine hK.out _ _ ⟨(YI BK353.out 0).trans rfl, (YI BK353.out 1).trans rfl, (YI BK358.out 0).trans rfl, (YI BK358.out 1).trans rfl, (YI BK358.out 2).trans rfl, (YI BK358.out 3).trans rfl, (YI BK358.out 4).trans rfl, (YI BK358.out 5).trans rfl, (YI BK358.out 6).trans rfl, (YI BK358.out 7).trans rfl, (YI BK358.out 8).trans rfl, (YI BK358.out 9).trans rfl, (YI BK358.out 10).trans rfl, (YI BK358.out 11).trans rfl⟩ (fun hHeld => ?_)
                clear hK K
                refine norm_ (a' := ?_) ?_ ?_
                rotate_left
                · show Act.put _ (some 72) _ = _
                  simp only [Act.put, YM, YN, YO, i64_w, i32_w]
                  rfl
                exact norm_ (by simp only [putAll, Act.put, YM, YN, YO]) (hCont (.slice Ao60 y375.length co60) _ ⟨hHeld, (by (with_reducible repeat (first | apply Kd.S_alloc | apply Kd.S_drewN | apply Kd.S_drew)); exact Kd.S_mono HO373.out (fun _ hk => by first | exact ⟨hk.2, ⟨hk.1.1, hk.1.2⟩⟩ | exact trivial | (simp [hk]; done) | simp_all)), (by (with_reducible repeat (first | apply YS | apply YT | apply YU)); exact Kd.R_mono HO377.out (fun _ hk => by first | exact hk.2 | exact trivial | (simp [hk]; done) | simp_all)), (by (with_reducible repeat (first | refine YF ?_ _ | refine YG ?_ | refine YH ?_ _)); exact BK353.out), (by (with_reducible repeat (first | refine YF ?_ _ | refine YG ?_ | refine YH ?_ _)); exact BK358.out), (by repeat (first | (with_reducible first | exact HB.out | apply YA | apply YB | apply YC | refine below_set ?_ GE353.out | refine below_set ?_ GE358.out) | exact HB.out))⟩)
              skip
              refine Kd.R_lit_step k45 _ 45 ?hg (N := 72) ?hd (xs := ([(⟨(rd_T45 l0 x36_2).f0, (rd_T45 l0 x36_2).f1, (⟨(rd_T45 l0 x36_2).f2.f0, (rd_T45 l0 x36_2).f2.f1, (rd_T45 l0 x36_2).f2.f2, (rd_T45 l0 x36_2).f2.f3, (rd_T45 l0 x36_2).f2.f4, (rd_T45 l0 x36_2).f2.f5⟩ : S41), (⟨(rd_T45 l0 x36_2).f3.f0, (rd_T45 l0 x36_2).f3.f1, (rd_T45 l0 x36_2).f3.f2⟩ : S43), (rd_T45 l0 x36_2).f4⟩ : S45)] : List (S45))) (inner := [.int .i64 ((rd_T45 l0 x36_2).f0), .int .i64 ((rd_T45 l0 x36_2).f1), .bool ((rd_T45 l0 x36_2).f2.f0), .int .i64 ((rd_T45 l0 x36_2).f2.f1), .int .i64 ((rd_T45 l0 x36_2).f2.f2), .int .i64 ((rd_T45 l0 x36_2).f2.f3), .int .i64 ((rd_T45 l0 x36_2).f2.f4), .int .i64 ((rd_T45 l0 x36_2).f2.f5), .int .i64 ((rd_T45 l0 x36_2).f3.f0), .int .i64 ((rd_T45 l0 x36_2).f3.f1), .int .i64 ((rd_T45 l0 x36_2).f3.f2), .int .i64 ((rd_T45 l0 x36_2).f4)]) (ok := fun _ => True) (okp := fun _ => True) ?hr ?hp (fun _ hk => hk) trivial (Below.refl _ _) (Nat.le_refl _) (by simp) ?_; (case hd => rfl); (case hg => rfl); (case hr => first | (go_simp; done) | (go_simp; rfl)); (case hp => exact (Reps.front (show Kd.M k45 _ _ _ (⟨(rd_T45 l0 x36_2).f0, (rd_T45 l0 x36_2).f1, (⟨(rd_T45 l0 x36_2).f2.f0, (rd_T45 l0 x36_2).f2.f1, (rd_T45 l0 x36_2).f2.f2, (rd_T45 l0 x36_2).f2.f3, (rd_T45 l0 x36_2).f2.f4, (rd_T45 l0 x36_2).f2.f5⟩ : S41), (⟨(rd_T45 l0 x36_2).f3.f0, (rd_T45 l0 x36_2).f3.f1, (rd_T45 l0 x36_2).f3.f2⟩ : S43), (rd_T45 l0 x36_2).f4⟩ : S45) [.int .i64 ((rd_T45 l0 x36_2).f0), .int .i64 ((rd_T45 l0 x36_2).f1), .bool ((rd_T45 l0 x36_2).f2.f0), .int .i64 ((rd_T45 l0 x36_2).f2.f1), .int .i64 ((rd_T45 l0 x36_2).f2.f2), .int .i64 ((rd_T45 l0 x36_2).f2.f3), .int .i64 ((rd_T45 l0 x36_2).f2.f4), .int .i64 ((rd_T45 l0 x36_2).f2.f5), .int .i64 ((rd_T45 l0 x36_2).f3.f0), .int .i64 ((rd_T45 l0 x36_2).f3.f1), .int .i64 ((rd_T45 l0 x36_2).f3.f2), .int .i64 ((rd_T45 l0 x36_2).f4)] from (k45_mkM _ _ _ (⟨(rd_T45 l0 x36_2).f0, (rd_T45 l0 x36_2).f1, (⟨(rd_T45 l0 x36_2).f2.f0, (rd_T45 l0 x36_2).f2.f1, (rd_T45 l0 x36_2).f2.f2, (rd_T45 l0 x36_2).f2.f3, (rd_T45 l0 x36_2).f2.f4, (rd_T45 l0 x36_2).f2.f5⟩ : S41), (⟨(rd_T45 l0 x36_2).f3.f0, (rd_T45 l0 x36_2).f3.f1, (rd_T45 l0 x36_2).f3.f2⟩ : S43), (rd_T45 l0 x36_2).f4⟩ : S45) )) rfl (Reps.none _ _) rfl))
              intro v376 w58 ho59 hb hg_ hnew_
              clear hg_ hnew_
              (first | rw [← Ny375.out] at ho59 | (simp only [Int.reduceToNat] at ho59; rw [← Ny375.out] at ho59))
              have n0_ := YL (Kd.S_elder' (by (with_reducible repeat (first | apply Kd.S_alloc | apply Kd.S_drewN | apply Kd.S_drew)); exact HO373.out) (Kd.R_base ho59) hb)
              have n1_ := YL (Kd.R_lower (Kd.R_newB ho59 (g := gb358) (o := .cells #[.int .i64 ((rd_T45 l0 x36_2).f0), .int .i64 ((rd_T45 l0 x36_2).f1), .bool ((rd_T45 l0 x36_2).f2.f0), .int .i64 ((rd_T45 l0 x36_2).f2.f1), .int .i64 ((rd_T45 l0 x36_2).f2.f2), .int .i64 ((rd_T45 l0 x36_2).f2.f3), .int .i64 ((rd_T45 l0 x36_2).f2.f4), .int .i64 ((rd_T45 l0 x36_2).f2.f5), .int .i64 ((rd_T45 l0 x36_2).f3.f0), .int .i64 ((rd_T45 l0 x36_2).f3.f1), .int .i64 ((rd_T45 l0 x36_2).f3.f2), .int .i64 ((rd_T45 l0 x36_2).f4)] 45 (0, 0)) (by (with_reducible repeat (first | refine YF ?_ _ | refine YG ?_ | refine YH ?_ _)); exact BK358.out)) (YE (by repeat (first | (with_reducible first | exact HB.out | apply YA | apply YB | apply YC | refine below_set ?_ GE353.out | refine below_set ?_ GE358.out) | exact HB.out))))
              have n2_ := YL (YK (g := gb353) (o := .cells #[.int .i64 x354000_2, .slice Ao56 x354001_2.length co56] 24 (0, 0)) (by (with_reducible repeat (first | refine YF ?_ _ | refine YG ?_ | refine YH ?_ _)); exact BK353.out) hb)
              have n3_ := YL (YK (g := gb358) (o := .cells #[.int .i64 ((rd_T45 l0 x36_2).f0), .int .i64 ((rd_T45 l0 x36_2).f1), .bool ((rd_T45 l0 x36_2).f2.f0), .int .i64 ((rd_T45 l0 x36_2).f2.f1), .int .i64 ((rd_T45 l0 x36_2).f2.f2), .int .i64 ((rd_T45 l0 x36_2).f2.f3), .int .i64 ((rd_T45 l0 x36_2).f2.f4), .int .i64 ((rd_T45 l0 x36_2).f2.f5), .int .i64 ((rd_T45 l0 x36_2).f3.f0), .int .i64 ((rd_T45 l0 x36_2).f3.f1), .int .i64 ((rd_T45 l0 x36_2).f3.f2), .int .i64 ((rd_T45 l0 x36_2).f4)] 45 (0, 0)) (by (with_reducible repeat (first | refine YF ?_ _ | refine YG ?_ | refine YH ?_ _)); exact BK358.out) hb)
              have n4_ := YL (YD (by repeat (first | (with_reducible first | exact HB.out | apply YA | apply YB | apply YC | refine below_set ?_ GE353.out | refine below_set ?_ GE358.out) | exact HB.out)) hb)
              clear HO373; clear BK353; clear BK358; clear HB; have HO373 := n0_; have HO377 := n1_; have BK353 := n2_; have BK358 := n3_; have HB := n4_; clear n0_ n1_ n2_ n3_ n4_; clear hb ho59
              refine hK.out _ _ ⟨(YI BK353.out 0).trans rfl, (YI BK353.out 1).trans rfl, (YI BK358.out 0).trans rfl, (YI BK358.out 1).trans rfl, (YI BK358.out 2).trans rfl, (YI BK358.out 3).trans rfl, (YI BK358.out 4).trans rfl, (YI BK358.out 5).trans rfl, (YI BK358.out 6).trans rfl, (YI BK358.out 7).trans rfl, (YI BK358.out 8).trans rfl, (YI BK358.out 9).trans rfl, (YI BK358.out 10).trans rfl, (YI BK358.out 11).trans rfl⟩ (fun hHeld => ?_)
              clear hK K
              refine norm_ (a' := ?_) ?_ ?_
              rotate_left
              · show Act.put _ (some 72) _ = _
                simp only [Act.put, YM, YN, YO, i64_w, i32_w]
                rfl
              refine one_ (i := 2) (N := some 70) #[true, true, true, true, true, false, false] rfl rfl (by kernel_rfl) (by decide) (fun K hK => ?_)
              refine goes_ Try.func20 (by kernel_rfl) rfl #[.int .i64 x354000_2] (by rfl) rfl rfl (by (try simp only [YP, List.map_cons, List.map_nil]); first | done | rfl | (simp only [YR, YQ]; rfl)) ?_
              with_reducible refine (serial_Next.calls x354000_2 t374 _ A49.out).mono ?_
              rintro e w' ⟨rfl, ⟨nd, rfl⟩⟩
              refine ⟨_, rfl, ?_⟩
              obtain ⟨Ao60, co60, eo60⟩ := Kd.R_slice HO377.out
              (first | subst eo60 | (injection eo60 with f1_ f2_ f3_; have f4_ := f1_.symm; have f5_ := f3_.symm; clear f1_ f2_ f3_; subst f4_; subst f5_))
              refine hK.out _ _ ⟨(YI BK353.out 0).trans rfl, (YI BK353.out 1).trans rfl, (YI BK358.out 0).trans rfl, (YI BK358.out 1).trans rfl, (YI BK358.out 2).trans rfl, (YI BK358.out 3).trans rfl, (YI BK358.out 4).trans rfl, (YI BK358.out 5).trans rfl, (YI BK358.out 6).trans rfl, (YI BK358.out 7).trans rfl, (YI BK358.out 8).trans rfl, (YI BK358.out 9).trans rfl, (YI BK358.out 10).trans rfl, (YI BK358.out 11).trans rfl⟩ (fun hHeld => ?_)
              clear hK K
              refine norm_ (a' := ?_) ?_ ?_
              rotate_left
              · show Act.put _ (some 70) _ = _
                simp only [Act.put, YM, YN, YO, i64_w, i32_w]
                rfl
              exact norm_ (by simp only [putAll, Act.put, YM, YN, YO]) (hCont (.slice Ao60 y375.length co60) _ ⟨hHeld, (by (with_reducible repeat (first | apply Kd.S_alloc | apply Kd.S_drewN | apply Kd.S_drew)); exact Kd.S_mono HO373.out (fun _ hk => by first | exact ⟨hk.2, ⟨hk.1.1, hk.1.2⟩⟩ | exact trivial | (simp [hk]; done) | simp_all)), (by (with_reducible repeat (first | apply YS | apply YT | apply YU)); exact Kd.R_mono HO377.out (fun _ hk => by first | exact hk.2 | exact trivial | (simp [hk]; done) | simp_all)), (by (with_reducible repeat (first | refine YF ?_ _ | refine YG ?_ | refine YH ?_ _)); exact BK353.out), (by (with_reducible repeat (first | refine YF ?_ _ | refine YG ?_ | refine YH ?_ _)); exact BK358.out), (by repeat (first | (with_reducible first | exact HB.out | apply YA | apply YB | apply YC | refine below_set ?_ GE353.out | refine below_set ?_ GE358.out) | exact HB.out))⟩)
            rintro v376 w61 ⟨hS_, h0_, h1_, h2_, h3_, h4_⟩
            have n0_ : Aside0 (Kd.S k24 24 w61 w.heap.size (fun k_ => some k_ ≠ (v376 : Value).ownBlock ∧ k_ ≠ gb353 ∧ k_ ≠ gb358) v372 y371) := ⟨h0_⟩
            have n1_ : Aside0 (Kd.R k45 45 w61 w.heap.size (fun k_ => k_ ≠ gb358) v376 y375) := ⟨h1_⟩
            have n2_ : Aside0 (w61.heap[gb353]? = some (.cells #[.int .i64 x354000_2, .slice Ao56 x354001_2.length co56] 24 (0, 0))) := ⟨h2_⟩
            have n3_ : Aside0 (w61.heap[gb358]? = some (.cells #[.int .i64 ((rd_T45 l0 x36_2).f0), .int .i64 ((rd_T45 l0 x36_2).f1), .bool ((rd_T45 l0 x36_2).f2.f0), .int .i64 ((rd_T45 l0 x36_2).f2.f1), .int .i64 ((rd_T45 l0 x36_2).f2.f2), .int .i64 ((rd_T45 l0 x36_2).f2.f3), .int .i64 ((rd_T45 l0 x36_2).f2.f4), .int .i64 ((rd_T45 l0 x36_2).f2.f5), .int .i64 ((rd_T45 l0 x36_2).f3.f0), .int .i64 ((rd_T45 l0 x36_2).f3.f1), .int .i64 ((rd_T45 l0 x36_2).f3.f2), .int .i64 ((rd_T45 l0 x36_2).f4)] 45 (0, 0))) := ⟨h3_⟩
            have n4_ : Aside0 (Below w.heap.size w w61) := ⟨h4_⟩
            clear HO373; clear BK353; clear BK358; clear HB; clear h0_ h1_ h2_ h3_ h4_; have HO373 := n0_; have HO377 := n1_; have BK353 := n2_; have BK358 := n3_; have HB := n4_; clear n0_ n1_ n2_ n3_ n4_
            have hHeld : w61.cell? ⟨gb353, 0, none⟩ = some (.int .i64 x354000_2) ∧ w61.cell? ⟨gb353, 1, none⟩ = some (.slice Ao56 x354001_2.length co56) ∧ w61.cell? ⟨gb358, 0, none⟩ = some (.int .i64 ((rd_T45 l0 x36_2).f0)) ∧ w61.cell? ⟨gb358, 1, none⟩ = some (.int .i64 ((rd_T45 l0 x36_2).f1)) ∧ w61.cell? ⟨gb358, 2, none⟩ = some (.bool ((rd_T45 l0 x36_2).f2.f0)) ∧ w61.cell? ⟨gb358, 3, none⟩ = some (.int .i64 ((rd_T45 l0 x36_2).f2.f1)) ∧ w61.cell? ⟨gb358, 4, none⟩ = some (.int .i64 ((rd_T45 l0 x36_2).f2.f2)) ∧ w61.cell? ⟨gb358, 5, none⟩ = some (.int .i64 ((rd_T45 l0 x36_2).f2.f3)) ∧ w61.cell? ⟨gb358, 6, none⟩ = some (.int .i64 ((rd_T45 l0 x36_2).f2.f4)) ∧ w61.cell? ⟨gb358, 7, none⟩ = some (.int .i64 ((rd_T45 l0 x36_2).f2.f5)) ∧ w61.cell? ⟨gb358, 8, none⟩ = some (.int .i64 ((rd_T45 l0 x36_2).f3.f0)) ∧ w61.cell? ⟨gb358, 9, none⟩ = some (.int .i64 ((rd_T45 l0 x36_2).f3.f1)) ∧ w61.cell? ⟨gb358, 10, none⟩ = some (.int .i64 ((rd_T45 l0 x36_2).f3.f2)) ∧ w61.cell? ⟨gb358, 11, none⟩ = some (.int .i64 ((rd_T45 l0 x36_2).f4)) := hS_
            obtain ⟨Ao62, co62, eo62⟩ := Kd.R_slice HO377.out
            (first | subst eo62 | (injection eo62 with f1_ f2_ f3_; have f4_ := f1_.symm; have f5_ := f3_.symm; clear f1_ f2_ f3_; subst f4_; subst f5_))
            refine norm_ (a' := ?_) ?_ ?_
            rotate_left
            · simp only [putAll, Act.put, YM, YN, YO]
              rfl
            refine pure_ (i := 5) (N := some 73) (v := ?_) (a' := ?_) #[true, true, true, true, true, true, false] rfl rfl (by kernel_rfl) (fun _ _ _ h => h) (Or.inl ⟨by rfl, ?_⟩) ?_ ?_
            rotate_left
            · intro w'
              go_simp; with_reducible rfl
            rotate_left
            · simp only [Act.put, YM, YN, YO, i64_w, i32_w]
              rfl
            refine last_ (i := 6) (N := none) #[true, true, true, true, true, true, true] rfl rfl (by kernel_rfl) (by decide) (fun K hK => ?_)
            have hs63 : w61.cell? ⟨gb353, 0, none⟩ = some (.int .i64 x354000_2) := (YI BK353.out 0).trans rfl
            have hfs63 := YJ BK353.out 0
            have hns63_1 := NB358_353.out
            have hms63_1 := NB353_358.out
            have hs64 : w61.cell? ⟨gb353, 1, none⟩ = some (.slice Ao56 x354001_2.length co56) := (YI BK353.out 1).trans rfl
            have hfs64 := YJ BK353.out 1
            have hns64_1 := NB358_353.out
            have hms64_1 := NB353_358.out
            refine skip_ (w1 := ?_) (by rfl) rfl ?_ ?_
            rotate_left
            · go_simp
              rfl
            refine hK.out _ _ ?_
            clear hK K
            refine done_ (by kernel_rfl) ?_
            try go_wp2_with (go_step3)
            go_roundg k2
            case measure => have := HJ3.out; have := HK2.out; omega
            case rel => exact ⟨(y371), (wrap64 ((wrap64 (a2 - 3)) - t359)), (wrap64 (x36_2 + 1)), (t374), (y375), (.slice Ao62 y375.length co62), (by first | rfl | (simp; done) | (simp [*]; done)), (by first | rfl | (simp; done) | (simp [*]; done)), H', ⟨by have := HJ3.out; have := HK2.out; omega⟩, ⟨by (with_reducible repeat (first | apply Kd.S_alloc | apply Kd.S_drewN | apply Kd.S_drew)); exact Kd.S_mono (Kd.S_far (p := ⟨gb353, 1, none⟩) (Kd.S_far (p := ⟨gb353, 0, none⟩) (Kd.S_mono HO373.out (fun k_ hk => (⟨hk, hk.2.1⟩ : _ ∧ k_ ≠ gb353))) (fun _ hk => hk.2) (.int .i64 t374)) (fun _ hk => hk.2) (.slice Ao62 y375.length co62)) (fun _ hk => ⟨hk.1.1, hk.1.2.1⟩)⟩, ⟨by (with_reducible repeat (first | apply YS | apply YT | apply YU)); exact Kd.R_mono (Kd.R_far (p := ⟨gb353, 1, none⟩) (Kd.R_far (p := ⟨gb353, 0, none⟩) (Kd.R_types HO377.out BK353.out (by decide)) (fun _ hk => hk.2) (.int .i64 t374)) (fun _ hk => hk.2) (.slice Ao62 y375.length co62)) (fun _ hk => trivial)⟩, ⟨by (with_reducible repeat (first | refine YF ?_ _ | refine YG ?_ | refine YH ?_ _)); refine blk_put (cs := #[.int .i64 t374, .slice Ao56 x354001_2.length co56]) ?_ 1 _ rfl; (with_reducible repeat (first | refine YF ?_ _ | refine YG ?_ | refine YH ?_ _)); refine blk_put (cs := #[.int .i64 x354000_2, .slice Ao56 x354001_2.length co56]) ?_ 0 _ rfl; (with_reducible repeat (first | refine YF ?_ _ | refine YG ?_ | refine YH ?_ _)); exact BK353.out⟩, ⟨by repeat (first | (with_reducible first | exact HB.out | apply YA | apply YB | apply YC | refine below_set ?_ GE353.out | refine below_set ?_ GE358.out) | exact HB.out)⟩⟩
          rw [if_neg c13] at H
          have c13b0 : decide (x36_2 < (l0.length : Int)) = false := decide_eq_false c13
          clear c13
          by_cases c65 : (x354001_2.length : Int) > 0
          · rw [if_pos c65] at H
            have c65b0 : decide (0 < (x354001_2.length : Int)) = true := decide_eq_true c65
            have c65b1 : decide (0 < x354001_2.length) = true := decide_eq_true (by omega)
            clear c65
            by_cases c66 : x8_2.length < 4398046511104
            rotate_left
            · rw [if_neg c66] at H
              exact absurd H (by simp)
            rw [if_pos c66] at H; have LMc66 := YL c66; clear c66
            obtain ⟨y354, hy354⟩ : ∃ y_ : List (S24), y_ = (x8_2 ++ [(⟨x354000_2, x354001_2⟩ : S24)]) := ⟨_, rfl⟩
            replace H : (some (y354, 0)) = some (r1, r2) := by first | (rw [hy354]; with_reducible exact H) | (have H2_ := (Option.bind_some _ _).symm.trans H; rw [hy354]; with_reducible exact H2_) | (have H2_ := (Option.bind_some _ _).symm.trans H; with_reducible exact H2_) | with_reducible exact H | (rw [hy354]; exact H) | exact H
            have Ny354 := YL hy354; clear hy354
            simp only [Option.some.injEq, Prod.mk.injEq] at H
            obtain ⟨rfl, rfl⟩ := H
            have q67_0 : wr.cell? ⟨gb353, 0, none⟩ = some (.int .i64 x354000_2) := (YI BK353.out 0).trans rfl
            have q67_1 : wr.cell? ⟨gb353, 1, none⟩ = some (u354001) := (YI BK353.out 1).trans rfl
            have f67_0 := YJ BK353.out 0
            have f67_1 := YJ BK353.out 1
            obtain ⟨Ao68, co68, eo68⟩ := Kd.R_slice HO_354001.out
            subst eo68
            go_wp2_with (first | go_step3 | ((with_reducible refine gate_builtin (b := .append) (xs := #[.tmp 83, .tmp 85]) rfl ?_); (try (refine gate_guard (by rfl) ?_; dsimp only)); at_builtin; refine Kd.S_append k24 (w0 := w) w.heap.size rfl (.tmp 83) (.tmp 85) 34 24 (.agg #[(.int .i64 0), (.slice none 0 0)]) 32 rfl Try.underlying34 info24 rfl (by decide) (by omega) u8 x8_2 (⟨x354000_2, x354001_2⟩ : S24) [.int .i64 x354000_2, .slice Ao68 x354001_2.length co68] (fun k_ => k_ ≠ gb353) (fun k_ => some k_ = (.slice Ao68 x354001_2.length co68 : Value).ownBlock) rfl rfl ?aP (fun k_ hk_ => ((Kd.R_mono (ok' := fun k_ => ((fun k_ => k_ ≠ gb353)) k_ ∧ some k_ ≠ (u8 : Value).ownBlock) (Kd.R_types (Kd.R_apart' (HO_354001.out) (Kd.S_typed HO_8.out) (by decide)) BK353.out (by decide)) (fun k_ hk => ⟨hk.2, hk.1.2⟩))).1 k_ hk_.symm) ?aF ?aO ?aB ?aS ?aL ?_; (case aP => exact k24_mkM _ _ _ (⟨x354000_2, x354001_2⟩ : S24) (Kd.R_mono (Kd.R_tight rfl (Kd.R_mono (ok' := fun k_ => ((fun k_ => k_ ≠ gb353)) k_ ∧ some k_ ≠ (u8 : Value).ownBlock) (Kd.R_types (Kd.R_apart' (HO_354001.out) (Kd.S_typed HO_8.out) (by decide)) BK353.out (by decide)) (fun k_ hk => ⟨hk.2, hk.1.2⟩))) (fun _ h_ => h_))); (case aB => exact (by repeat (first | (with_reducible first | exact HB.out | apply YA | apply YB | apply YC | refine below_set ?_ GE353.out) | exact HB.out))); (case aF => exact (fun k_ hk => Kd.freshB (g := gb353) (o := .cells #[.int .i64 x354000_2, .slice Ao68 x354001_2.length co68] 24 (0, 0)) (by (with_reducible repeat (first | refine YF ?_ _ | refine YG ?_ | refine YH ?_ _)); exact BK353.out) k_ hk)); (case aO => exact (by (with_reducible repeat (first | apply Kd.S_alloc | apply Kd.S_drewN | apply Kd.S_drew)); exact Kd.S_mono HO_8.out (fun k_ hk => ⟨hk.2, fun e_ => hk.1 e_⟩))); (case aS => exact (YE (by repeat (first | (with_reducible first | exact HB.out | apply YA | apply YB | apply YC | refine below_set ?_ GE353.out) | exact HB.out)))); (case aL => have := LMc66.out; omega); intro v355 w69 ho hb hg hat; rw [← Ny354.out] at ho; have n0_ := YL (blk_grown (g := gb353) (o := .cells #[.int .i64 x354000_2, .slice Ao68 x354001_2.length co68] 24 (0, 0)) (by (with_reducible repeat (first | refine YF ?_ _ | refine YG ?_ | refine YH ?_ _)); exact BK353.out) hg (Kd.S_away HO_8.out (fun _ hk => hk.2))); have n1_ := YL (hb); have n2_ := YL (ho); clear BK353; clear HB; clear HO_8; clear HO_354001; have BK353 := n0_; have HB := n1_; have HO356 := n2_; clear n0_ n1_ n2_; clear ho hb hg hat))
            (try simp only [Exit.noGoto_ret])
            go_ret2
            exact ⟨_, by first | rfl | (simp [errW_none, errW_some] <;> rfl) | (simp [*, errW_none, errW_some] <;> rfl), by (with_reducible repeat (first | apply Kd.S_alloc | apply Kd.S_drewN | apply Kd.S_drew)); exact Kd.S_mono HO356.out (fun _ hk => trivial), by repeat (first | (with_reducible first | exact HB.out | apply YA | apply YB | apply YC | refine below_set ?_ GE353.out) | exact HB.out)⟩
          rw [if_neg c65] at H
          have c65b0 : decide (0 < (x354001_2.length : Int)) = false := decide_eq_false c65
          have c65b1 : decide (0 < x354001_2.length) = false := decide_eq_false (by omega)
          clear c65
          simp only [Option.some.injEq, Prod.mk.injEq] at H
          obtain ⟨rfl, rfl⟩ := H
          have q70_0 : wr.cell? ⟨gb353, 0, none⟩ = some (.int .i64 x354000_2) := (YI BK353.out 0).trans rfl
          have q70_1 : wr.cell? ⟨gb353, 1, none⟩ = some (u354001) := (YI BK353.out 1).trans rfl
          have f70_0 := YJ BK353.out 0
          have f70_1 := YJ BK353.out 1
          obtain ⟨Ao71, co71, eo71⟩ := Kd.R_slice HO_354001.out
          subst eo71
          go_wp2_with (go_step3)
          (try simp only [Exit.noGoto_ret])
          go_ret2
          exact ⟨_, by first | rfl | (simp [errW_none, errW_some] <;> rfl) | (simp [*, errW_none, errW_some] <;> rfl), by (with_reducible repeat (first | apply Kd.S_alloc | apply Kd.S_drewN | apply Kd.S_drew)); exact Kd.S_mono HO_8.out (fun _ hk => trivial), by repeat (first | (with_reducible first | exact HB.out | apply YA | apply YB | apply YC | refine below_set ?_ GE353.out) | exact HB.out)⟩
end Go.Proofs.Ytfigbjjaffkidaa.P
namespace Go.Proofs.Ytfigbjjaffkidaa.P
open Go.RowKit YtfigbjjaffkidaaW.PrintWords YtfigbjjaffkidaaW.PrintLast YtfigbjjaffkidaaW.PrintMore
attribute [local go_sem] max2_int min2_int max_two min_two max_three min_three max_four min_four   -- for this text's walks alone
def thalwegref03_Left.f (a0 : Int) : Option (Int) := if (Int.tmod a0 65536) < 0 then (some (wrap64 ((Int.tmod a0 65536) + 65536))) else (some (Int.tmod a0 65536))
set_option maxHeartbeats 8000000 in
set_option maxRecDepth 100000 in
theorem thalwegref03_Left.calls (a0 : Int) (r : Int) (w : World) (h : thalwegref03_Left.f a0 = some r) :
    Calls Try.prog 29 #[.int .i64 a0] w fun e w' => e = .returned (.int .i64 r) ∧ Drawn0 w w' := by
  have H : (if (Int.tmod a0 65536) < 0 then (some (wrap64 ((Int.tmod a0 65536) + 65536))) else (some (Int.tmod a0 65536))) = some r := h
  clear h
  by_cases c2 : (Int.tmod a0 65536) < 0
  · rw [if_pos c2] at H
    have c2b0 : decide ((Int.tmod a0 65536) < 0) = true := decide_eq_true c2; clear c2
    obtain rfl := Option.some.inj H
    go_enter Try.func29, Try.ntmps29
    go_wp2
    go_ret
    exact ⟨by first | rfl | (simp; done) | (simp [*]; done), by repeat (first | exact Drawn0.refl _ | apply Drawn0.step)⟩
  rw [if_neg c2] at H; have c2b0 : decide ((Int.tmod a0 65536) < 0) = false := decide_eq_false c2; clear c2
  obtain rfl := Option.some.inj H
  go_enter Try.func29, Try.ntmps29
  go_wp2
  go_ret
  exact ⟨by first | rfl | (simp; done) | (simp [*]; done), by repeat (first | exact Drawn0.refl _ | apply Drawn0.step)⟩
def thalwegref03_Next.f (a0 : Int) : Option (Int) := (thalwegref03_Left.f a0).bind fun t378 => (some (Int.tmod (wrap64 (t378 + 1)) 65536))
set_option maxHeartbeats 8000000 in
set_option maxRecDepth 100000 in
theorem thalwegref03_Next.calls (a0 : Int) (r : Int) (w : World) (h : thalwegref03_Next.f a0 = some r) :
    Calls Try.prog 30 #[.int .i64 a0] w fun e w' => e = .returned (.int .i64 r) ∧ Drawn0 w w' := by
  have H : ((thalwegref03_Left.f a0).bind fun t378 => (some (Int.tmod (wrap64 (t378 + 1)) 65536))) = some r := h
  clear h; replace H := Option.bind_eq_some_iff.mp H; obtain ⟨t378, A20, H⟩ := H
  replace H : (some (Int.tmod (wrap64 (t378 + 1)) 65536)) = some r := H
  have A2 := Aside0.mk A20; clear A20
  obtain rfl := Option.some.inj H
  go_enter Try.func30, Try.ntmps30
  go_wp2_with (first | ((with_reducible refine gate_callee (f := 29) rfl ?_); refine goesL_ (some 4) rfl rfl Try.func29 (by kernel_rfl) rfl #[.int .i64 a0] rfl (by (try simp only [List.map_toArray, List.map_cons, List.map_nil]); first | done | rfl | (simp only [List.length_drop, List.length_take]; rfl)) ?_; (with_reducible refine (thalwegref03_Left.calls a0 t378 _ A2.out).mono ?_); rintro e w' ⟨rfl, ⟨nd, rfl⟩⟩; refine ⟨_, rfl, ?_⟩))
  go_ret
  exact ⟨by first | rfl | (simp; done) | (simp [*]; done), by repeat (first | exact Drawn0.refl _ | apply Drawn0.step)⟩
end Go.Proofs.Ytfigbjjaffkidaa.P
