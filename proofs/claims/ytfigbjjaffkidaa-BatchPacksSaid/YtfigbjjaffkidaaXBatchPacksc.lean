/- Walks. -/
import Derived.Test.YtfigbjjaffkidaaXBatchPacksa
import Derived.Test.YtfigbjjaffkidaaXBatchPacksb
set_option linter.unusedVariables false
set_option linter.unusedSimpArgs false
namespace Go.Proofs.Ytfigbjjaffkidaa.P
open Go.RowKit YtfigbjjaffkidaaW.PrintWords YtfigbjjaffkidaaW.PrintLast YtfigbjjaffkidaaW.PrintMore
open YtfigbjjaffkidaaW.PrintWords renaming below_alloc → YA, pw_below_drewN → YB, below_drew1 → YC, below_step → YD, below_size → YE, blk_drewN → YF, blk_drew → YG, blk_alloc → YH, blk_cell → YI, blk_frozen → YJ, blk_below → YK
open YtfigbjjaffkidaaW.PrintWords.Aside0 renaming mk → YL
open List renaming map_toArray → YM, length_take → YN, length_drop → YO
open YtfigbjjaffkidaaW.PrintWords.Kd renaming R_alloc → YP, R_drewN → YQ, R_drew → YR
attribute [local go_sem] max2_int min2_int max_two min_two max_three min_three max_four min_four   -- for this text's walks alone
def batch_Bytes.l0 : Nat → List Int → List (S45) → Int → Int → Option (List Int × Int)
  | 0, _, _, _, _ => none
  | k + 1, x5, x28, x29, x30 => if x30 < x29 then (if 0 ≤ x30 then (if x30 < (x28.length : Int) then ((object_Bytes.f k ((rd_T45 x28 x30).f0) ((rd_T45 x28 x30).f1) ((rd_T45 x28 x30).f2.f0) ((rd_T45 x28 x30).f2.f1) ((rd_T45 x28 x30).f2.f2) ((rd_T45 x28 x30).f2.f3) ((rd_T45 x28 x30).f2.f4) ((rd_T45 x28 x30).f2.f5) ((rd_T45 x28 x30).f3.f0) ((rd_T45 x28 x30).f3.f1) ((rd_T45 x28 x30).f3.f2) ((rd_T45 x28 x30).f4)).bind fun bt227 => (if bt227.2 = 0 then (if x5.length + bt227.1.length < 140737488355328 then (batch_Bytes.l0 k (x5 ++ bt227.1) x28 x29 (wrap64 (x30 + 1))) else (none)) else (some (([] : List Int), bt227.2)))) else (none)) else (none)) else (some (x5, 0))
def batch_Bytes.f (k : Nat) (a0_0 : Int) (l0_1 : List (S45)) : Option (List Int × Int) := (batch_Check.f k a0_0 l0_1).bind fun t221 => (if t221 = 0 then (batch_Bytes.l0 k (([(a0_0 / 256) % 256, (a0_0) % 256, ((l0_1.length : Int)) % 256] : List Int)) l0_1 (l0_1.length : Int) 0) else (some (([] : List Int), t221)))
theorem batch_Bytes.mono_l : ∀ k, (∀ y0 y1 y2 y3, LeO (batch_Bytes.l0 k y0 y1 y2 y3) (batch_Bytes.l0 (k + 1) y0 y1 y2 y3))
  | 0 => fun _ _ _ _ r h => by simp [batch_Bytes.l0] at h
  | k + 1 => by
    have ih0 := batch_Bytes.mono_l k
    · intro y0 y1 y2 y3
      unfold batch_Bytes.l0
      repeat' first
      | (with_reducible exact ih0 _ _ _ _)
      | (with_reducible exact batch_Check.mono _ _ _)
      | (with_reducible exact object_Bytes.mono _ _ _ _ _ _ _ _ _ _ _ _ _)
      | (with_reducible exact LeO.refl _)
      | (with_reducible exact LeO.none _)
      | (with_reducible refine LeO.ite ?_ ?_)
      | (with_reducible refine LeO.bind ?_ (fun _ => ?_))
      | exact ih0 _ _ _ _
      | exact batch_Check.mono _ _ _
      | exact object_Bytes.mono _ _ _ _ _ _ _ _ _ _ _ _ _
      | exact LeO.none _
      | refine LeO.ite ?_ ?_
      | refine LeO.bind ?_ (fun _ => ?_)
theorem batch_Bytes.mono : ∀ a0 a1 k, LeO (batch_Bytes.f k a0 a1) (batch_Bytes.f (k + 1) a0 a1) := by
  intro a0 a1 k
  have ih0 := batch_Bytes.mono_l k
  unfold batch_Bytes.f
  repeat' first
      | (with_reducible exact ih0 _ _ _ _)
      | (with_reducible exact batch_Check.mono _ _ _)
      | (with_reducible exact object_Bytes.mono _ _ _ _ _ _ _ _ _ _ _ _ _)
      | (with_reducible exact LeO.refl _)
      | (with_reducible exact LeO.none _)
      | (with_reducible refine LeO.ite ?_ ?_)
      | (with_reducible refine LeO.bind ?_ (fun _ => ?_))
      | exact ih0 _ _ _ _
      | exact batch_Check.mono _ _ _
      | exact object_Bytes.mono _ _ _ _ _ _ _ _ _ _ _ _ _
      | exact LeO.none _
      | refine LeO.ite ?_ ?_
      | refine LeO.bind ?_ (fun _ => ?_)
set_option maxHeartbeats 8000000 in
set_option maxRecDepth 100000 in
theorem batch_Bytes.calls (k : Nat) (a0_0 : Int) (A0_1 : Option Addr) (c0_1 : Nat) (l0_1 : List (S45)) (r1 : List Int) (r2 : Int) (w : World) (hr0_1 : Kd.C k45 w A0_1 l0_1.length l0_1) (hc0_1 : l0_1.length ≤ c0_1) (h : batch_Bytes.f k a0_0 l0_1 = some (r1, r2)) :
    Calls Try.prog 9 #[.agg #[.int .i64 a0_0, .slice A0_1 l0_1.length c0_1]] w fun e w' => ∃ v0_ : Value, e = .returned (.tuple #[v0_, .int .i64 r2]) ∧ Kd.R (Kd.int .u8) 5 w' w.heap.size (fun _ => True) v0_ r1 ∧ Below w.heap.size w w' := by
  have hu24 := Try.underlying24
  have hu45 := Try.underlying45
  have HR0_1 := YL hr0_1; have HC0_1 := YL hc0_1; clear hr0_1 hc0_1
  have HB := YL (Below.refl w.heap.size w)
  have H : ((batch_Check.f k a0_0 l0_1).bind fun t221 => (if t221 = 0 then (batch_Bytes.l0 k (([(a0_0 / 256) % 256, (a0_0) % 256, ((l0_1.length : Int)) % 256] : List Int)) l0_1 (l0_1.length : Int) 0) else (some (([] : List Int), t221)))) = some (r1, r2) := h
  clear h; replace H := Option.bind_eq_some_iff.mp H; obtain ⟨t221, A20, H⟩ := H
  replace H : (if t221 = 0 then (batch_Bytes.l0 k (([(a0_0 / 256) % 256, (a0_0) % 256, ((l0_1.length : Int)) % 256] : List Int)) l0_1 (l0_1.length : Int) 0) else (some (([] : List Int), t221))) = some (r1, r2) := H
  have A2 := YL A20; clear A20
  by_cases c3 : t221 = 0
  · rw [if_pos c3] at H
    have c3b0 : (t221 == 0) = true := beq_iff_eq.mpr c3
    have c3b1 : (t221 != 0) = false := bne_eq_false_iff_eq.mpr c3
    clear c3
    obtain ⟨y222, hy222⟩ : ∃ y_ : List Int, y_ = (([(a0_0 / 256) % 256, (a0_0) % 256, ((l0_1.length : Int)) % 256] : List Int)) := ⟨_, rfl⟩
    replace H : (batch_Bytes.l0 k y222 l0_1 (l0_1.length : Int) 0) = some (r1, r2) := by first | (rw [hy222]; with_reducible exact H) | (have H2_ := (Option.bind_some _ _).symm.trans H; rw [hy222]; with_reducible exact H2_) | (have H2_ := (Option.bind_some _ _).symm.trans H; with_reducible exact H2_) | with_reducible exact H | (rw [hy222]; exact H) | exact H
    have Ny222 := YL hy222; clear hy222
    have H' := YL H
    clear H
    go_enter Try.func9, Try.ntmps9
    go_wp2_with (first | ((with_reducible refine gate_dst (N := 1) rfl ?_); refine box_event ?hg (N := 1) ?hd (cs := #[.int .i64 a0_0, .slice A0_1 l0_1.length c0_1]) (t := 24) ?hr ?_; (case hd => rfl); (case hg => rfl); (case hr => first | (go_simp; done) | (go_simp; rfl)); intro gb220 hg w4 hbox hb; have n0_ := YL (YD (by repeat (first | (with_reducible first | exact HB.out | apply YA | apply YB | apply YC) | exact HB.out)) hb); have n1_ := YL (hbox); have n2_ := YL ((by rw [hg]; exact (YE (by repeat (first | (with_reducible first | exact HB.out | apply YA | apply YB | apply YC) | exact HB.out))) : w.heap.size ≤ gb220)); have n3_ := YL ((by rw [hg]; exact (YE (by repeat (first | (with_reducible first | exact HB.out | apply YA | apply YB | apply YC) | exact HB.out))) : w.heap.size ≤ gb220)); clear HB; have HB := n0_; have BK220 := n1_; have GW220 := n2_; have GE220 := n3_; clear n0_ n1_ n2_ n3_; clear hb hbox hg; have q5_0 : w4.cell? ⟨gb220, 0, none⟩ = some (.int .i64 a0_0) := (YI BK220.out 0).trans rfl; have q5_1 : w4.cell? ⟨gb220, 1, none⟩ = some (.slice A0_1 l0_1.length c0_1) := (YI BK220.out 1).trans rfl; have f5_0 := YJ BK220.out 0; have f5_1 := YJ BK220.out 1) | ((with_reducible refine gate_callee (f := 12) rfl ?_); refine goesL_ (some 11) rfl rfl Try.func12 (by kernel_rfl) rfl #[.agg #[.int .i64 a0_0, .slice A0_1 l0_1.length c0_1]] rfl (by (try simp only [YM, List.map_cons, List.map_nil]); first | done | rfl | (simp only [YO, YN]; rfl)) ?_; (with_reducible refine (batch_Check.calls k a0_0 _ _ l0_1 t221 _ ?side1 ?side2 A2.out).mono ?_); (case side1 => repeat (first | exact (Kd.C_below HR0_1.out HB.out) | (with_reducible refine Kd.C_alloc ?_ _) | (with_reducible refine Kd.C_drewN ?_ _) | (with_reducible refine Kd.C_drew ?_))); (case side2 => exact HC0_1.out); rintro e w6 ⟨rfl, hb⟩; refine ⟨_, rfl, ?_⟩; have n0_ := YL (YK (g := gb220) (o := .cells #[.int .i64 a0_0, .slice A0_1 l0_1.length c0_1] 24 (0, 0)) (by (with_reducible repeat (first | refine YF ?_ _ | refine YG ?_ | refine YH ?_ _)); exact BK220.out) hb); have n1_ := YL (YD (by repeat (first | (with_reducible first | exact HB.out | apply YA | apply YB | apply YC | refine below_set ?_ GE220.out) | exact HB.out)) hb); clear BK220; clear HB; have BK220 := n0_; have HB := n1_; clear n0_ n1_; (try clear hb); (try clear hb2); (try clear hk); (try clear hi); have q7_0 : w6.cell? ⟨gb220, 0, none⟩ = some (.int .i64 a0_0) := (YI BK220.out 0).trans rfl; have q7_1 : w6.cell? ⟨gb220, 1, none⟩ = some (.slice A0_1 l0_1.length c0_1) := (YI BK220.out 1).trans rfl; have f7_0 := YJ BK220.out 0; have f7_1 := YJ BK220.out 1) | ((with_reducible refine gate_dst (N := 26) rfl ?_); refine Kd.R_lit (Kd.int .u8) _ 5 ?hg (N := 26) ?hd (xs := ([(a0_0 / 256) % 256, (a0_0) % 256, ((l0_1.length : Int)) % 256] : List Int)) (inner := [.int .u8 ((a0_0 / 256) % 256), .int .u8 ((a0_0) % 256), .int .u8 (((l0_1.length : Int)) % 256)]) (ok := fun _ => True) (okp := fun _ => True) ?hr ?hp (fun _ hk => hk) trivial (Below.refl _ _) (Nat.le_refl _) (by simp) ?_; (case hd => rfl); (case hg => rfl); (case hr => first | (go_simp; done) | (go_simp; rfl)); (case hp => exact (Reps.one (show Kd.M (Kd.int .u8) _ _ _ ((a0_0 / 256) % 256) [.int .u8 ((a0_0 / 256) % 256)] from rfl) (Reps.one (show Kd.M (Kd.int .u8) _ _ _ ((a0_0) % 256) [.int .u8 ((a0_0) % 256)] from rfl) (Reps.one (show Kd.M (Kd.int .u8) _ _ _ (((l0_1.length : Int)) % 256) [.int .u8 (((l0_1.length : Int)) % 256)] from rfl) (Reps.none _ _))))); intro v223 w8 ho9 hb hg_ hnew_; clear hg_ hnew_; (first | rw [← Ny222.out] at ho9 | (simp only [Int.reduceToNat] at ho9; rw [← Ny222.out] at ho9)); have n0_ := YL (Kd.R_lower ho9 (YE (by repeat (first | (with_reducible first | exact HB.out | apply YA | apply YB | apply YC | refine below_set ?_ GE220.out) | exact HB.out)))); have n1_ := YL (YK (g := gb220) (o := .cells #[.int .i64 a0_0, .slice A0_1 l0_1.length c0_1] 24 (0, 0)) (by (with_reducible repeat (first | refine YF ?_ _ | refine YG ?_ | refine YH ?_ _)); exact BK220.out) hb); have n2_ := YL (YD (by repeat (first | (with_reducible first | exact HB.out | apply YA | apply YB | apply YC | refine below_set ?_ GE220.out) | exact HB.out)) hb); clear BK220; clear HB; have HO224 := n0_; have BK220 := n1_; have HB := n2_; clear n0_ n1_ n2_; clear hb ho9; have q10_0 : w8.cell? ⟨gb220, 0, none⟩ = some (.int .i64 a0_0) := (YI BK220.out 0).trans rfl; have q10_1 : w8.cell? ⟨gb220, 1, none⟩ = some (.slice A0_1 l0_1.length c0_1) := (YI BK220.out 1).trans rfl; have f10_0 := YJ BK220.out 0; have f10_1 := YJ BK220.out 1))
    go_loopg [5, 30] k (fun kq v5 v30 w' => ∃ (x5_1 : List Int) (x30_1 : Int), v30 = .int .i64 x30_1 ∧ Aside0 (batch_Bytes.l0 kq x5_1 l0_1 (l0_1.length : Int) x30_1 = some (r1, r2)) ∧ Aside0 (kq ≤ k) ∧ Aside0 (Kd.R (Kd.int .u8) 5 w' w.heap.size (fun _ => True) v5 x5_1) ∧ Aside0 (w'.heap[gb220]? = some (.cells #[.int .i64 a0_0, (.slice A0_1 l0_1.length c0_1)] 24 (0, 0))) ∧ Aside0 (Below w.heap.size w w'))
    case atStart => exact ⟨(y222), (0), (by first | rfl | (simp; done) | (simp [*]; done)), H', ⟨Nat.le_refl _⟩, ⟨by (with_reducible repeat (first | apply YP | apply YQ | apply YR)); exact HO224.out⟩, ⟨by (with_reducible repeat (first | refine YF ?_ _ | refine YG ?_ | refine YH ?_ _)); exact BK220.out⟩, ⟨by repeat (first | (with_reducible first | exact HB.out | apply YA | apply YB | apply YC | refine below_set ?_ GE220.out) | exact HB.out)⟩⟩
    case round =>
      clear H'
      try clear c1; try clear p2
      try clear c3; try clear c3b0
      try clear c3b1; try clear c9
      try clear q10_0; try clear q10_1
      try clear q5_0; try clear q5_1
      try clear q7_0; try clear q7_1
      try clear f10_0; try clear f10_1
      try clear f5_0; try clear f5_1
      try clear f7_0; try clear f7_1
      obtain ⟨x5_1, x30_1, rfl, HA, HK1, HO_5, BK220, HB⟩ := hrel
      cases gk with
      | zero => exact absurd HA.out (by simp [batch_Bytes.l0])
      | succ k1 =>
        have H := HA.out
        clear HA
        simp only [batch_Bytes.l0] at H
        by_cases c11 : x30_1 < (l0_1.length : Int)
        · rw [if_pos c11] at H
          have c11b0 : decide (x30_1 < (l0_1.length : Int)) = true := decide_eq_true c11
          clear c11
          by_cases c12 : 0 ≤ x30_1
          rotate_left
          · rw [if_neg c12] at H
            exact absurd H (by simp)
          rw [if_pos c12] at H; have c12b0 : decide (0 ≤ x30_1) = true := decide_eq_true c12; clear c12
          by_cases c13 : x30_1 < (l0_1.length : Int)
          rotate_left
          · rw [if_neg c13] at H
            exact absurd H (by simp)
          rw [if_pos c13] at H
          have c13b0 : decide (x30_1 < (l0_1.length : Int)) = true := decide_eq_true c13
          clear c13; replace H := Option.bind_eq_some_iff.mp H
          obtain ⟨⟨t227, t230⟩, A140, H⟩ := H
          replace H : (if t230 = 0 then (if x5_1.length + t227.length < 140737488355328 then (batch_Bytes.l0 k1 (x5_1 ++ t227) l0_1 (l0_1.length : Int) (wrap64 (x30_1 + 1))) else (none)) else (some (([] : List Int), t230))) = some (r1, r2) := H
          have A14 := YL A140; clear A140
          by_cases c15 : t230 = 0
          · rw [if_pos c15] at H
            have c15b0 : (t230 == 0) = true := beq_iff_eq.mpr c15
            have c15b1 : (t230 != 0) = false := bne_eq_false_iff_eq.mpr c15
            clear c15
            by_cases c16 : x5_1.length + t227.length < 140737488355328
            rotate_left
            · rw [if_neg c16] at H
              exact absurd H (by simp)
            rw [if_pos c16] at H; have LMc16 := YL c16; clear c16
            obtain ⟨y231, hy231⟩ : ∃ y_ : List Int, y_ = (x5_1 ++ t227) := ⟨_, rfl⟩
            replace H : (batch_Bytes.l0 k1 y231 l0_1 (l0_1.length : Int) (wrap64 (x30_1 + 1))) = some (r1, r2) := by first | (rw [hy231]; with_reducible exact H) | (have H2_ := (Option.bind_some _ _).symm.trans H; rw [hy231]; with_reducible exact H2_) | (have H2_ := (Option.bind_some _ _).symm.trans H; with_reducible exact H2_) | with_reducible exact H | (rw [hy231]; exact H) | exact H
            have Ny231 := YL hy231; clear hy231
            have H' := YL H
            clear H
            have p225 : 0 ≤ (x30_1 : Int) := of_decide_eq_true (by first | (with_reducible assumption) | assumption)
            have q225 : x30_1 < (l0_1.length : Int) := of_decide_eq_true (by first | (with_reducible assumption) | assumption)
            obtain ⟨ad225, e225, hx225_0, hx225_1, hx225_2, hx225_3, hx225_4, hx225_5, hx225_6, hx225_7, hx225_8, hx225_9, hx225_10, hx225_11⟩ := at_T45 HR0_1.out x30_1 p225 q225
            cases e225
            replace hx225_0 := (HB.out.cell (World.block_lt_of_cell? w _ hx225_0)).trans hx225_0
            replace hx225_1 := (HB.out.cell (World.block_lt_of_cell? w _ hx225_1)).trans hx225_1
            replace hx225_2 := (HB.out.cell (World.block_lt_of_cell? w _ hx225_2)).trans hx225_2
            replace hx225_3 := (HB.out.cell (World.block_lt_of_cell? w _ hx225_3)).trans hx225_3
            replace hx225_4 := (HB.out.cell (World.block_lt_of_cell? w _ hx225_4)).trans hx225_4
            replace hx225_5 := (HB.out.cell (World.block_lt_of_cell? w _ hx225_5)).trans hx225_5
            replace hx225_6 := (HB.out.cell (World.block_lt_of_cell? w _ hx225_6)).trans hx225_6
            replace hx225_7 := (HB.out.cell (World.block_lt_of_cell? w _ hx225_7)).trans hx225_7
            replace hx225_8 := (HB.out.cell (World.block_lt_of_cell? w _ hx225_8)).trans hx225_8
            replace hx225_9 := (HB.out.cell (World.block_lt_of_cell? w _ hx225_9)).trans hx225_9
            replace hx225_10 := (HB.out.cell (World.block_lt_of_cell? w _ hx225_10)).trans hx225_10
            replace hx225_11 := (HB.out.cell (World.block_lt_of_cell? w _ hx225_11)).trans hx225_11
            replace p225 := eq_true p225
            replace q225 := eq_true q225
            go_wp2_with (first | ((with_reducible refine gate_dst (N := 7) rfl ?_); refine box_event ?hg (N := 7) ?hd (cs := #[.int .i64 0, .int .i64 0, .bool false, .int .i64 0, .int .i64 0, .int .i64 0, .int .i64 0, .int .i64 0, .int .i64 0, .int .i64 0, .int .i64 0, .int .i64 0]) (t := 45) ?hr ?_; (case hd => rfl); (case hg => rfl); (case hr => first | (go_simp; done) | (go_simp; rfl)); intro gb226 hg w17 hbox hb; have n0_ := YL (Kd.R_below (by (with_reducible repeat (first | apply YP | apply YQ | apply YR)); exact HO_5.out) hb); have n1_ := YL (YK (g := gb220) (o := .cells #[.int .i64 a0_0, .slice (some ad225) l0_1.length c0_1] 24 (0, 0)) (by (with_reducible repeat (first | refine YF ?_ _ | refine YG ?_ | refine YH ?_ _)); exact BK220.out) hb); have n2_ := YL (YD (by repeat (first | (with_reducible first | exact HB.out | apply YA | apply YB | apply YC | refine below_set ?_ GE220.out) | exact HB.out)) hb); have n3_ := YL (hbox); have n4_ := YL ((by rw [hg]; exact (YE (by repeat (first | (with_reducible first | exact HB.out | apply YA | apply YB | apply YC | refine below_set ?_ GE220.out) | exact HB.out))) : w.heap.size ≤ gb226)); have n5_ := YL ((by rw [hg]; exact (YE (by repeat (first | (with_reducible first | exact HB.out | apply YA | apply YB | apply YC | refine below_set ?_ GE220.out) | exact HB.out))) : w.heap.size ≤ gb226)); have n6_ := YL ((by rw [hg]; exact Nat.ne_of_lt (blk_lt (g := gb220) (o := .cells #[.int .i64 a0_0, .slice (some ad225) l0_1.length c0_1] 24 (0, 0)) (by (with_reducible repeat (first | refine YF ?_ _ | refine YG ?_ | refine YH ?_ _)); exact BK220.out)) : gb220 ≠ gb226)); have n7_ := YL ((by rw [hg]; exact Nat.ne_of_gt (blk_lt (g := gb220) (o := .cells #[.int .i64 a0_0, .slice (some ad225) l0_1.length c0_1] 24 (0, 0)) (by (with_reducible repeat (first | refine YF ?_ _ | refine YG ?_ | refine YH ?_ _)); exact BK220.out)) : gb226 ≠ gb220)); clear HO_5; clear BK220; clear HB; have HO_5 := n0_; have BK220 := n1_; have HB := n2_; have BK226 := n3_; have GW226 := n4_; have GE226 := n5_; have NB220_226 := n6_; have NB226_220 := n7_; clear n0_ n1_ n2_ n3_ n4_ n5_ n6_ n7_; clear hb hbox hg; have hnb18 := NB226_220.out; have hnc18 := NB220_226.out; have q19_0 : w17.cell? ⟨gb226, 0, none⟩ = some (.int .i64 0) := (YI BK226.out 0).trans rfl; have q19_1 : w17.cell? ⟨gb226, 1, none⟩ = some (.int .i64 0) := (YI BK226.out 1).trans rfl; have q19_2 : w17.cell? ⟨gb226, 2, none⟩ = some (.bool false) := (YI BK226.out 2).trans rfl; have q19_3 : w17.cell? ⟨gb226, 3, none⟩ = some (.int .i64 0) := (YI BK226.out 3).trans rfl; have q19_4 : w17.cell? ⟨gb226, 4, none⟩ = some (.int .i64 0) := (YI BK226.out 4).trans rfl; have q19_5 : w17.cell? ⟨gb226, 5, none⟩ = some (.int .i64 0) := (YI BK226.out 5).trans rfl; have q19_6 : w17.cell? ⟨gb226, 6, none⟩ = some (.int .i64 0) := (YI BK226.out 6).trans rfl; have q19_7 : w17.cell? ⟨gb226, 7, none⟩ = some (.int .i64 0) := (YI BK226.out 7).trans rfl; have q19_8 : w17.cell? ⟨gb226, 8, none⟩ = some (.int .i64 0) := (YI BK226.out 8).trans rfl; have q19_9 : w17.cell? ⟨gb226, 9, none⟩ = some (.int .i64 0) := (YI BK226.out 9).trans rfl; have q19_10 : w17.cell? ⟨gb226, 10, none⟩ = some (.int .i64 0) := (YI BK226.out 10).trans rfl; have q19_11 : w17.cell? ⟨gb226, 11, none⟩ = some (.int .i64 0) := (YI BK226.out 11).trans rfl; have f19_0 := YJ BK226.out 0; have f19_1 := YJ BK226.out 1; have f19_2 := YJ BK226.out 2; have f19_3 := YJ BK226.out 3; have f19_4 := YJ BK226.out 4; have f19_5 := YJ BK226.out 5; have f19_6 := YJ BK226.out 6; have f19_7 := YJ BK226.out 7; have f19_8 := YJ BK226.out 8; have f19_9 := YJ BK226.out 9; have f19_10 := YJ BK226.out 10; have f19_11 := YJ BK226.out 11) | ((with_reducible refine gate_callee (f := 23) rfl ?_); refine goesL_ (some 36) rfl rfl Try.func23 (by kernel_rfl) rfl #[.agg #[.int .i64 ((rd_T45 l0_1 x30_1).f0), .int .i64 ((rd_T45 l0_1 x30_1).f1), .bool ((rd_T45 l0_1 x30_1).f2.f0), .int .i64 ((rd_T45 l0_1 x30_1).f2.f1), .int .i64 ((rd_T45 l0_1 x30_1).f2.f2), .int .i64 ((rd_T45 l0_1 x30_1).f2.f3), .int .i64 ((rd_T45 l0_1 x30_1).f2.f4), .int .i64 ((rd_T45 l0_1 x30_1).f2.f5), .int .i64 ((rd_T45 l0_1 x30_1).f3.f0), .int .i64 ((rd_T45 l0_1 x30_1).f3.f1), .int .i64 ((rd_T45 l0_1 x30_1).f3.f2), .int .i64 ((rd_T45 l0_1 x30_1).f4)]] rfl (by (try simp only [YM, List.map_cons, List.map_nil]); first | done | rfl | (simp only [YO, YN]; rfl)) ?_; (with_reducible refine (object_Bytes.calls k1 ((rd_T45 l0_1 x30_1).f0) ((rd_T45 l0_1 x30_1).f1) ((rd_T45 l0_1 x30_1).f2.f0) ((rd_T45 l0_1 x30_1).f2.f1) ((rd_T45 l0_1 x30_1).f2.f2) ((rd_T45 l0_1 x30_1).f2.f3) ((rd_T45 l0_1 x30_1).f2.f4) ((rd_T45 l0_1 x30_1).f2.f5) ((rd_T45 l0_1 x30_1).f3.f0) ((rd_T45 l0_1 x30_1).f3.f1) ((rd_T45 l0_1 x30_1).f3.f2) ((rd_T45 l0_1 x30_1).f4) t227 t230 _ A14.out).mono ?_); rintro e w20 ⟨v228, rfl, ho0, hb⟩; refine ⟨_, rfl, ?_⟩; have n0_ := YL (Kd.R_elder' (by (with_reducible repeat (first | apply YP | apply YQ | apply YR)); exact (Kd.R_mono (Kd.R_far (p := ⟨gb226, 11, none⟩) (Kd.R_far (p := ⟨gb226, 10, none⟩) (Kd.R_far (p := ⟨gb226, 9, none⟩) (Kd.R_far (p := ⟨gb226, 8, none⟩) (Kd.R_far (p := ⟨gb226, 7, none⟩) (Kd.R_far (p := ⟨gb226, 6, none⟩) (Kd.R_far (p := ⟨gb226, 5, none⟩) (Kd.R_far (p := ⟨gb226, 4, none⟩) (Kd.R_far (p := ⟨gb226, 3, none⟩) (Kd.R_far (p := ⟨gb226, 2, none⟩) (Kd.R_far (p := ⟨gb226, 1, none⟩) (Kd.R_far (p := ⟨gb226, 0, none⟩) (Kd.R_types HO_5.out BK226.out (by decide)) (fun _ hk => hk.2) (.int .i64 ((rd_T45 l0_1 x30_1).f0))) (fun _ hk => hk.2) (.int .i64 ((rd_T45 l0_1 x30_1).f1))) (fun _ hk => hk.2) (.bool ((rd_T45 l0_1 x30_1).f2.f0))) (fun _ hk => hk.2) (.int .i64 ((rd_T45 l0_1 x30_1).f2.f1))) (fun _ hk => hk.2) (.int .i64 ((rd_T45 l0_1 x30_1).f2.f2))) (fun _ hk => hk.2) (.int .i64 ((rd_T45 l0_1 x30_1).f2.f3))) (fun _ hk => hk.2) (.int .i64 ((rd_T45 l0_1 x30_1).f2.f4))) (fun _ hk => hk.2) (.int .i64 ((rd_T45 l0_1 x30_1).f2.f5))) (fun _ hk => hk.2) (.int .i64 ((rd_T45 l0_1 x30_1).f3.f0))) (fun _ hk => hk.2) (.int .i64 ((rd_T45 l0_1 x30_1).f3.f1))) (fun _ hk => hk.2) (.int .i64 ((rd_T45 l0_1 x30_1).f3.f2))) (fun _ hk => hk.2) (.int .i64 ((rd_T45 l0_1 x30_1).f4))) (fun _ h_ => h_.1))) (Kd.R_base ho0) hb); have n1_ := YL (Kd.R_lower (Kd.R_new' ho0 (Kd.R_lt (by (with_reducible repeat (first | apply YP | apply YQ | apply YR)); exact (Kd.R_mono (Kd.R_far (p := ⟨gb226, 11, none⟩) (Kd.R_far (p := ⟨gb226, 10, none⟩) (Kd.R_far (p := ⟨gb226, 9, none⟩) (Kd.R_far (p := ⟨gb226, 8, none⟩) (Kd.R_far (p := ⟨gb226, 7, none⟩) (Kd.R_far (p := ⟨gb226, 6, none⟩) (Kd.R_far (p := ⟨gb226, 5, none⟩) (Kd.R_far (p := ⟨gb226, 4, none⟩) (Kd.R_far (p := ⟨gb226, 3, none⟩) (Kd.R_far (p := ⟨gb226, 2, none⟩) (Kd.R_far (p := ⟨gb226, 1, none⟩) (Kd.R_far (p := ⟨gb226, 0, none⟩) (Kd.R_types HO_5.out BK226.out (by decide)) (fun _ hk => hk.2) (.int .i64 ((rd_T45 l0_1 x30_1).f0))) (fun _ hk => hk.2) (.int .i64 ((rd_T45 l0_1 x30_1).f1))) (fun _ hk => hk.2) (.bool ((rd_T45 l0_1 x30_1).f2.f0))) (fun _ hk => hk.2) (.int .i64 ((rd_T45 l0_1 x30_1).f2.f1))) (fun _ hk => hk.2) (.int .i64 ((rd_T45 l0_1 x30_1).f2.f2))) (fun _ hk => hk.2) (.int .i64 ((rd_T45 l0_1 x30_1).f2.f3))) (fun _ hk => hk.2) (.int .i64 ((rd_T45 l0_1 x30_1).f2.f4))) (fun _ hk => hk.2) (.int .i64 ((rd_T45 l0_1 x30_1).f2.f5))) (fun _ hk => hk.2) (.int .i64 ((rd_T45 l0_1 x30_1).f3.f0))) (fun _ hk => hk.2) (.int .i64 ((rd_T45 l0_1 x30_1).f3.f1))) (fun _ hk => hk.2) (.int .i64 ((rd_T45 l0_1 x30_1).f3.f2))) (fun _ hk => hk.2) (.int .i64 ((rd_T45 l0_1 x30_1).f4))) (fun _ h_ => h_.1))))) (YE (by repeat (first | (with_reducible first | exact HB.out | apply YA | apply YB | apply YC | refine below_set ?_ GE220.out | refine below_set ?_ GE226.out) | exact HB.out)))); have n2_ := YL (YK (g := gb220) (o := .cells #[.int .i64 a0_0, .slice (some ad225) l0_1.length c0_1] 24 (0, 0)) (by (with_reducible repeat (first | refine YF ?_ _ | refine YG ?_ | refine YH ?_ _)); refine blk_far ?_ NB220_226.out _; (with_reducible repeat (first | refine YF ?_ _ | refine YG ?_ | refine YH ?_ _)); refine blk_far ?_ NB220_226.out _; (with_reducible repeat (first | refine YF ?_ _ | refine YG ?_ | refine YH ?_ _)); refine blk_far ?_ NB220_226.out _; (with_reducible repeat (first | refine YF ?_ _ | refine YG ?_ | refine YH ?_ _)); refine blk_far ?_ NB220_226.out _; (with_reducible repeat (first | refine YF ?_ _ | refine YG ?_ | refine YH ?_ _)); refine blk_far ?_ NB220_226.out _; (with_reducible repeat (first | refine YF ?_ _ | refine YG ?_ | refine YH ?_ _)); refine blk_far ?_ NB220_226.out _; (with_reducible repeat (first | refine YF ?_ _ | refine YG ?_ | refine YH ?_ _)); refine blk_far ?_ NB220_226.out _; (with_reducible repeat (first | refine YF ?_ _ | refine YG ?_ | refine YH ?_ _)); refine blk_far ?_ NB220_226.out _; (with_reducible repeat (first | refine YF ?_ _ | refine YG ?_ | refine YH ?_ _)); refine blk_far ?_ NB220_226.out _; (with_reducible repeat (first | refine YF ?_ _ | refine YG ?_ | refine YH ?_ _)); refine blk_far ?_ NB220_226.out _; (with_reducible repeat (first | refine YF ?_ _ | refine YG ?_ | refine YH ?_ _)); refine blk_far ?_ NB220_226.out _; (with_reducible repeat (first | refine YF ?_ _ | refine YG ?_ | refine YH ?_ _)); refine blk_far ?_ NB220_226.out _; (with_reducible repeat (first | refine YF ?_ _ | refine YG ?_ | refine YH ?_ _)); exact BK220.out) hb); have n3_ := YL (YK (g := gb226) (o := .cells #[.int .i64 ((rd_T45 l0_1 x30_1).f0), .int .i64 ((rd_T45 l0_1 x30_1).f1), .bool ((rd_T45 l0_1 x30_1).f2.f0), .int .i64 ((rd_T45 l0_1 x30_1).f2.f1), .int .i64 ((rd_T45 l0_1 x30_1).f2.f2), .int .i64 ((rd_T45 l0_1 x30_1).f2.f3), .int .i64 ((rd_T45 l0_1 x30_1).f2.f4), .int .i64 ((rd_T45 l0_1 x30_1).f2.f5), .int .i64 ((rd_T45 l0_1 x30_1).f3.f0), .int .i64 ((rd_T45 l0_1 x30_1).f3.f1), .int .i64 ((rd_T45 l0_1 x30_1).f3.f2), .int .i64 ((rd_T45 l0_1 x30_1).f4)] 45 (0, 0)) (by (with_reducible repeat (first | refine YF ?_ _ | refine YG ?_ | refine YH ?_ _)); refine blk_put (cs := #[.int .i64 ((rd_T45 l0_1 x30_1).f0), .int .i64 ((rd_T45 l0_1 x30_1).f1), .bool ((rd_T45 l0_1 x30_1).f2.f0), .int .i64 ((rd_T45 l0_1 x30_1).f2.f1), .int .i64 ((rd_T45 l0_1 x30_1).f2.f2), .int .i64 ((rd_T45 l0_1 x30_1).f2.f3), .int .i64 ((rd_T45 l0_1 x30_1).f2.f4), .int .i64 ((rd_T45 l0_1 x30_1).f2.f5), .int .i64 ((rd_T45 l0_1 x30_1).f3.f0), .int .i64 ((rd_T45 l0_1 x30_1).f3.f1), .int .i64 ((rd_T45 l0_1 x30_1).f3.f2), .int .i64 0]) ?_ 11 _ rfl; (with_reducible repeat (first | refine YF ?_ _ | refine YG ?_ | refine YH ?_ _)); refine blk_put (cs := #[.int .i64 ((rd_T45 l0_1 x30_1).f0), .int .i64 ((rd_T45 l0_1 x30_1).f1), .bool ((rd_T45 l0_1 x30_1).f2.f0), .int .i64 ((rd_T45 l0_1 x30_1).f2.f1), .int .i64 ((rd_T45 l0_1 x30_1).f2.f2), .int .i64 ((rd_T45 l0_1 x30_1).f2.f3), .int .i64 ((rd_T45 l0_1 x30_1).f2.f4), .int .i64 ((rd_T45 l0_1 x30_1).f2.f5), .int .i64 ((rd_T45 l0_1 x30_1).f3.f0), .int .i64 ((rd_T45 l0_1 x30_1).f3.f1), .int .i64 0, .int .i64 0]) ?_ 10 _ rfl; (with_reducible repeat (first | refine YF ?_ _ | refine YG ?_ | refine YH ?_ _)); refine blk_put (cs := #[.int .i64 ((rd_T45 l0_1 x30_1).f0), .int .i64 ((rd_T45 l0_1 x30_1).f1), .bool ((rd_T45 l0_1 x30_1).f2.f0), .int .i64 ((rd_T45 l0_1 x30_1).f2.f1), .int .i64 ((rd_T45 l0_1 x30_1).f2.f2), .int .i64 ((rd_T45 l0_1 x30_1).f2.f3), .int .i64 ((rd_T45 l0_1 x30_1).f2.f4), .int .i64 ((rd_T45 l0_1 x30_1).f2.f5), .int .i64 ((rd_T45 l0_1 x30_1).f3.f0), .int .i64 0, .int .i64 0, .int .i64 0]) ?_ 9 _ rfl; (with_reducible repeat (first | refine YF ?_ _ | refine YG ?_ | refine YH ?_ _)); refine blk_put (cs := #[.int .i64 ((rd_T45 l0_1 x30_1).f0), .int .i64 ((rd_T45 l0_1 x30_1).f1), .bool ((rd_T45 l0_1 x30_1).f2.f0), .int .i64 ((rd_T45 l0_1 x30_1).f2.f1), .int .i64 ((rd_T45 l0_1 x30_1).f2.f2), .int .i64 ((rd_T45 l0_1 x30_1).f2.f3), .int .i64 ((rd_T45 l0_1 x30_1).f2.f4), .int .i64 ((rd_T45 l0_1 x30_1).f2.f5), .int .i64 0, .int .i64 0, .int .i64 0, .int .i64 0]) ?_ 8 _ rfl; (with_reducible repeat (first | refine YF ?_ _ | refine YG ?_ | refine YH ?_ _)); refine blk_put (cs := #[.int .i64 ((rd_T45 l0_1 x30_1).f0), .int .i64 ((rd_T45 l0_1 x30_1).f1), .bool ((rd_T45 l0_1 x30_1).f2.f0), .int .i64 ((rd_T45 l0_1 x30_1).f2.f1), .int .i64 ((rd_T45 l0_1 x30_1).f2.f2), .int .i64 ((rd_T45 l0_1 x30_1).f2.f3), .int .i64 ((rd_T45 l0_1 x30_1).f2.f4), .int .i64 0, .int .i64 0, .int .i64 0, .int .i64 0, .int .i64 0]) ?_ 7 _ rfl; (with_reducible repeat (first | refine YF ?_ _ | refine YG ?_ | refine YH ?_ _)); refine blk_put (cs := #[.int .i64 ((rd_T45 l0_1 x30_1).f0), .int .i64 ((rd_T45 l0_1 x30_1).f1), .bool ((rd_T45 l0_1 x30_1).f2.f0), .int .i64 ((rd_T45 l0_1 x30_1).f2.f1), .int .i64 ((rd_T45 l0_1 x30_1).f2.f2), .int .i64 ((rd_T45 l0_1 x30_1).f2.f3), .int .i64 0, .int .i64 0, .int .i64 0, .int .i64 0, .int .i64 0, .int .i64 0]) ?_ 6 _ rfl; (with_reducible repeat (first | refine YF ?_ _ | refine YG ?_ | refine YH ?_ _)); refine blk_put (cs := #[.int .i64 ((rd_T45 l0_1 x30_1).f0), .int .i64 ((rd_T45 l0_1 x30_1).f1), .bool ((rd_T45 l0_1 x30_1).f2.f0), .int .i64 ((rd_T45 l0_1 x30_1).f2.f1), .int .i64 ((rd_T45 l0_1 x30_1).f2.f2), .int .i64 0, .int .i64 0, .int .i64 0, .int .i64 0, .int .i64 0, .int .i64 0, .int .i64 0]) ?_ 5 _ rfl; (with_reducible repeat (first | refine YF ?_ _ | refine YG ?_ | refine YH ?_ _)); refine blk_put (cs := #[.int .i64 ((rd_T45 l0_1 x30_1).f0), .int .i64 ((rd_T45 l0_1 x30_1).f1), .bool ((rd_T45 l0_1 x30_1).f2.f0), .int .i64 ((rd_T45 l0_1 x30_1).f2.f1), .int .i64 0, .int .i64 0, .int .i64 0, .int .i64 0, .int .i64 0, .int .i64 0, .int .i64 0, .int .i64 0]) ?_ 4 _ rfl; (with_reducible repeat (first | refine YF ?_ _ | refine YG ?_ | refine YH ?_ _)); refine blk_put (cs := #[.int .i64 ((rd_T45 l0_1 x30_1).f0), .int .i64 ((rd_T45 l0_1 x30_1).f1), .bool ((rd_T45 l0_1 x30_1).f2.f0), .int .i64 0, .int .i64 0, .int .i64 0, .int .i64 0, .int .i64 0, .int .i64 0, .int .i64 0, .int .i64 0, .int .i64 0]) ?_ 3 _ rfl; (with_reducible repeat (first | refine YF ?_ _ | refine YG ?_ | refine YH ?_ _)); refine blk_put (cs := #[.int .i64 ((rd_T45 l0_1 x30_1).f0), .int .i64 ((rd_T45 l0_1 x30_1).f1), .bool false, .int .i64 0, .int .i64 0, .int .i64 0, .int .i64 0, .int .i64 0, .int .i64 0, .int .i64 0, .int .i64 0, .int .i64 0]) ?_ 2 _ rfl; (with_reducible repeat (first | refine YF ?_ _ | refine YG ?_ | refine YH ?_ _)); refine blk_put (cs := #[.int .i64 ((rd_T45 l0_1 x30_1).f0), .int .i64 0, .bool false, .int .i64 0, .int .i64 0, .int .i64 0, .int .i64 0, .int .i64 0, .int .i64 0, .int .i64 0, .int .i64 0, .int .i64 0]) ?_ 1 _ rfl; (with_reducible repeat (first | refine YF ?_ _ | refine YG ?_ | refine YH ?_ _)); refine blk_put (cs := #[.int .i64 0, .int .i64 0, .bool false, .int .i64 0, .int .i64 0, .int .i64 0, .int .i64 0, .int .i64 0, .int .i64 0, .int .i64 0, .int .i64 0, .int .i64 0]) ?_ 0 _ rfl; (with_reducible repeat (first | refine YF ?_ _ | refine YG ?_ | refine YH ?_ _)); exact BK226.out) hb); have n4_ := YL (YD (by repeat (first | (with_reducible first | exact HB.out | apply YA | apply YB | apply YC | refine below_set ?_ GE220.out | refine below_set ?_ GE226.out) | exact HB.out)) hb); clear HO_5; clear BK220; clear BK226; clear HB; have HO_5 := n0_; have HO229 := n1_; have BK220 := n2_; have BK226 := n3_; have HB := n4_; clear n0_ n1_ n2_ n3_ n4_; (try clear hb); (try clear hb2); (try clear hk); (try clear hi); (try clear ho0); obtain ⟨Ao22, co22, eo22⟩ := Kd.R_slice HO229.out; subst eo22) | ((with_reducible refine gate_builtin (b := .append) (xs := #[.tmp 42, .tmp 43]) rfl ?_); at_builtin; refine Kd.R_append_rows (Kd.int .u8) (w0 := w) w.heap.size rfl (.tmp 42) (.tmp 43) 26 5 (.int .u8 0) 1 rfl Try.underlying26 info5 rfl (by decide) (by omega) u5 x5_1 t227 _ _ _ (fun k_ => some k_ ≠ (.slice Ao22 t227.length co22 : Value).ownBlock) (fun _ => False) rfl rfl ?aO ?aR (fun _ _ h => h) (fun _ h => h.elim) ?aF ?aB ?aS ?aL ?_; (case aR => repeat (first | exact (Kd.R_reads' HO229.out).2.2 | (with_reducible refine Kd.C_alloc ?_ _) | (with_reducible refine Kd.C_drewN ?_ _) | (with_reducible refine Kd.C_drew ?_))); (case aB => exact (by repeat (first | (with_reducible first | exact HB.out | apply YA | apply YB | apply YC | refine below_set ?_ GE220.out | refine below_set ?_ GE226.out) | exact HB.out))); (case aF => exact (fun k_ hk => Kd.fresh' (Kd.R_lt (by (with_reducible repeat (first | apply YP | apply YQ | apply YR)); exact HO229.out)) k_ hk)); (case aO => exact (by (with_reducible repeat (first | apply YP | apply YQ | apply YR)); exact Kd.R_mono HO_5.out (fun _ hk => by first | exact hk.2 | exact trivial | (simp [hk]; done) | simp_all))); (case aS => exact (YE (by repeat (first | (with_reducible first | exact HB.out | apply YA | apply YB | apply YC | refine below_set ?_ GE220.out | refine below_set ?_ GE226.out) | exact HB.out)))); (case aL => have := LMc16.out; omega); intro v232 w21 ho hb hg hat; rw [← Ny231.out] at ho; have n0_ := YL (blk_grown (g := gb220) (o := .cells #[.int .i64 a0_0, .slice (some ad225) l0_1.length c0_1] 24 (0, 0)) (by (with_reducible repeat (first | refine YF ?_ _ | refine YG ?_ | refine YH ?_ _)); exact BK220.out) hg (Kd.R_ne HO_5.out BK220.out (by decide))); have n1_ := YL (blk_grown (g := gb226) (o := .cells #[.int .i64 ((rd_T45 l0_1 x30_1).f0), .int .i64 ((rd_T45 l0_1 x30_1).f1), .bool ((rd_T45 l0_1 x30_1).f2.f0), .int .i64 ((rd_T45 l0_1 x30_1).f2.f1), .int .i64 ((rd_T45 l0_1 x30_1).f2.f2), .int .i64 ((rd_T45 l0_1 x30_1).f2.f3), .int .i64 ((rd_T45 l0_1 x30_1).f2.f4), .int .i64 ((rd_T45 l0_1 x30_1).f2.f5), .int .i64 ((rd_T45 l0_1 x30_1).f3.f0), .int .i64 ((rd_T45 l0_1 x30_1).f3.f1), .int .i64 ((rd_T45 l0_1 x30_1).f3.f2), .int .i64 ((rd_T45 l0_1 x30_1).f4)] 45 (0, 0)) (by (with_reducible repeat (first | refine YF ?_ _ | refine YG ?_ | refine YH ?_ _)); exact BK226.out) hg (Kd.R_ne HO_5.out BK226.out (by decide))); have n2_ := YL (Kd.R_after (ok := (fun _ => True)) (by (with_reducible repeat (first | apply YP | apply YQ | apply YR)); exact HO229.out) hg hat); have n3_ := YL (hb); have n4_ := YL (ho); clear BK220; clear BK226; clear HO229; clear HB; clear HO_5; have BK220 := n0_; have BK226 := n1_; have HO229 := n2_; have HB := n3_; have HO233 := n4_; clear n0_ n1_ n2_ n3_ n4_; clear ho hb hg hat))
            go_roundg k1
            case measure => have := HK1.out; omega
            case rel => exact ⟨(y231), (wrap64 (x30_1 + 1)), (by first | rfl | (simp; done) | (simp [*]; done)), H', ⟨by have := HK1.out; omega⟩, ⟨by (with_reducible repeat (first | apply YP | apply YQ | apply YR)); exact Kd.R_mono HO233.out (fun _ hk => trivial)⟩, ⟨by (with_reducible repeat (first | refine YF ?_ _ | refine YG ?_ | refine YH ?_ _)); exact BK220.out⟩, ⟨by repeat (first | (with_reducible first | exact HB.out | apply YA | apply YB | apply YC | refine below_set ?_ GE220.out | refine below_set ?_ GE226.out) | exact HB.out)⟩⟩
          rw [if_neg c15] at H
          have c15b0 : (t230 == 0) = false := beq_eq_false_iff_ne.mpr c15
          have c15b1 : (t230 != 0) = true := bne_iff_ne.mpr c15
          simp only [Option.some.injEq, Prod.mk.injEq] at H
          obtain ⟨rfl, rfl⟩ := H
          have p225 : 0 ≤ (x30_1 : Int) := of_decide_eq_true (by first | (with_reducible assumption) | assumption)
          have q225 : x30_1 < (l0_1.length : Int) := of_decide_eq_true (by first | (with_reducible assumption) | assumption)
          obtain ⟨ad225, e225, hx225_0, hx225_1, hx225_2, hx225_3, hx225_4, hx225_5, hx225_6, hx225_7, hx225_8, hx225_9, hx225_10, hx225_11⟩ := at_T45 HR0_1.out x30_1 p225 q225
          cases e225
          replace hx225_0 := (HB.out.cell (World.block_lt_of_cell? w _ hx225_0)).trans hx225_0
          replace hx225_1 := (HB.out.cell (World.block_lt_of_cell? w _ hx225_1)).trans hx225_1
          replace hx225_2 := (HB.out.cell (World.block_lt_of_cell? w _ hx225_2)).trans hx225_2
          replace hx225_3 := (HB.out.cell (World.block_lt_of_cell? w _ hx225_3)).trans hx225_3
          replace hx225_4 := (HB.out.cell (World.block_lt_of_cell? w _ hx225_4)).trans hx225_4
          replace hx225_5 := (HB.out.cell (World.block_lt_of_cell? w _ hx225_5)).trans hx225_5
          replace hx225_6 := (HB.out.cell (World.block_lt_of_cell? w _ hx225_6)).trans hx225_6
          replace hx225_7 := (HB.out.cell (World.block_lt_of_cell? w _ hx225_7)).trans hx225_7
          replace hx225_8 := (HB.out.cell (World.block_lt_of_cell? w _ hx225_8)).trans hx225_8
          replace hx225_9 := (HB.out.cell (World.block_lt_of_cell? w _ hx225_9)).trans hx225_9
          replace hx225_10 := (HB.out.cell (World.block_lt_of_cell? w _ hx225_10)).trans hx225_10
          replace hx225_11 := (HB.out.cell (World.block_lt_of_cell? w _ hx225_11)).trans hx225_11
          replace p225 := eq_true p225
          replace q225 := eq_true q225
          go_wp2_with (first | ((with_reducible refine gate_dst (N := 7) rfl ?_); refine box_event ?hg (N := 7) ?hd (cs := #[.int .i64 0, .int .i64 0, .bool false, .int .i64 0, .int .i64 0, .int .i64 0, .int .i64 0, .int .i64 0, .int .i64 0, .int .i64 0, .int .i64 0, .int .i64 0]) (t := 45) ?hr ?_; (case hd => rfl); (case hg => rfl); (case hr => first | (go_simp; done) | (go_simp; rfl)); intro gb226 hg w23 hbox hb; have n0_ := YL (Kd.R_below (by (with_reducible repeat (first | apply YP | apply YQ | apply YR)); exact HO_5.out) hb); have n1_ := YL (YK (g := gb220) (o := .cells #[.int .i64 a0_0, .slice (some ad225) l0_1.length c0_1] 24 (0, 0)) (by (with_reducible repeat (first | refine YF ?_ _ | refine YG ?_ | refine YH ?_ _)); exact BK220.out) hb); have n2_ := YL (YD (by repeat (first | (with_reducible first | exact HB.out | apply YA | apply YB | apply YC | refine below_set ?_ GE220.out) | exact HB.out)) hb); have n3_ := YL (hbox); have n4_ := YL ((by rw [hg]; exact (YE (by repeat (first | (with_reducible first | exact HB.out | apply YA | apply YB | apply YC | refine below_set ?_ GE220.out) | exact HB.out))) : w.heap.size ≤ gb226)); have n5_ := YL ((by rw [hg]; exact (YE (by repeat (first | (with_reducible first | exact HB.out | apply YA | apply YB | apply YC | refine below_set ?_ GE220.out) | exact HB.out))) : w.heap.size ≤ gb226)); have n6_ := YL ((by rw [hg]; exact Nat.ne_of_lt (blk_lt (g := gb220) (o := .cells #[.int .i64 a0_0, .slice (some ad225) l0_1.length c0_1] 24 (0, 0)) (by (with_reducible repeat (first | refine YF ?_ _ | refine YG ?_ | refine YH ?_ _)); exact BK220.out)) : gb220 ≠ gb226)); have n7_ := YL ((by rw [hg]; exact Nat.ne_of_gt (blk_lt (g := gb220) (o := .cells #[.int .i64 a0_0, .slice (some ad225) l0_1.length c0_1] 24 (0, 0)) (by (with_reducible repeat (first | refine YF ?_ _ | refine YG ?_ | refine YH ?_ _)); exact BK220.out)) : gb226 ≠ gb220)); clear HO_5; clear BK220; clear HB; have HO_5 := n0_; have BK220 := n1_; have HB := n2_; have BK226 := n3_; have GW226 := n4_; have GE226 := n5_; have NB220_226 := n6_; have NB226_220 := n7_; clear n0_ n1_ n2_ n3_ n4_ n5_ n6_ n7_; clear hb hbox hg; have hnb24 := NB226_220.out; have hnc24 := NB220_226.out; have q25_0 : w23.cell? ⟨gb226, 0, none⟩ = some (.int .i64 0) := (YI BK226.out 0).trans rfl; have q25_1 : w23.cell? ⟨gb226, 1, none⟩ = some (.int .i64 0) := (YI BK226.out 1).trans rfl; have q25_2 : w23.cell? ⟨gb226, 2, none⟩ = some (.bool false) := (YI BK226.out 2).trans rfl; have q25_3 : w23.cell? ⟨gb226, 3, none⟩ = some (.int .i64 0) := (YI BK226.out 3).trans rfl; have q25_4 : w23.cell? ⟨gb226, 4, none⟩ = some (.int .i64 0) := (YI BK226.out 4).trans rfl; have q25_5 : w23.cell? ⟨gb226, 5, none⟩ = some (.int .i64 0) := (YI BK226.out 5).trans rfl; have q25_6 : w23.cell? ⟨gb226, 6, none⟩ = some (.int .i64 0) := (YI BK226.out 6).trans rfl; have q25_7 : w23.cell? ⟨gb226, 7, none⟩ = some (.int .i64 0) := (YI BK226.out 7).trans rfl; have q25_8 : w23.cell? ⟨gb226, 8, none⟩ = some (.int .i64 0) := (YI BK226.out 8).trans rfl; have q25_9 : w23.cell? ⟨gb226, 9, none⟩ = some (.int .i64 0) := (YI BK226.out 9).trans rfl; have q25_10 : w23.cell? ⟨gb226, 10, none⟩ = some (.int .i64 0) := (YI BK226.out 10).trans rfl; have q25_11 : w23.cell? ⟨gb226, 11, none⟩ = some (.int .i64 0) := (YI BK226.out 11).trans rfl; have f25_0 := YJ BK226.out 0; have f25_1 := YJ BK226.out 1; have f25_2 := YJ BK226.out 2; have f25_3 := YJ BK226.out 3; have f25_4 := YJ BK226.out 4; have f25_5 := YJ BK226.out 5; have f25_6 := YJ BK226.out 6; have f25_7 := YJ BK226.out 7; have f25_8 := YJ BK226.out 8; have f25_9 := YJ BK226.out 9; have f25_10 := YJ BK226.out 10; have f25_11 := YJ BK226.out 11) | ((with_reducible refine gate_callee (f := 23) rfl ?_); refine goesL_ (some 36) rfl rfl Try.func23 (by kernel_rfl) rfl #[.agg #[.int .i64 ((rd_T45 l0_1 x30_1).f0), .int .i64 ((rd_T45 l0_1 x30_1).f1), .bool ((rd_T45 l0_1 x30_1).f2.f0), .int .i64 ((rd_T45 l0_1 x30_1).f2.f1), .int .i64 ((rd_T45 l0_1 x30_1).f2.f2), .int .i64 ((rd_T45 l0_1 x30_1).f2.f3), .int .i64 ((rd_T45 l0_1 x30_1).f2.f4), .int .i64 ((rd_T45 l0_1 x30_1).f2.f5), .int .i64 ((rd_T45 l0_1 x30_1).f3.f0), .int .i64 ((rd_T45 l0_1 x30_1).f3.f1), .int .i64 ((rd_T45 l0_1 x30_1).f3.f2), .int .i64 ((rd_T45 l0_1 x30_1).f4)]] rfl (by (try simp only [YM, List.map_cons, List.map_nil]); first | done | rfl | (simp only [YO, YN]; rfl)) ?_; (with_reducible refine (object_Bytes.calls k1 ((rd_T45 l0_1 x30_1).f0) ((rd_T45 l0_1 x30_1).f1) ((rd_T45 l0_1 x30_1).f2.f0) ((rd_T45 l0_1 x30_1).f2.f1) ((rd_T45 l0_1 x30_1).f2.f2) ((rd_T45 l0_1 x30_1).f2.f3) ((rd_T45 l0_1 x30_1).f2.f4) ((rd_T45 l0_1 x30_1).f2.f5) ((rd_T45 l0_1 x30_1).f3.f0) ((rd_T45 l0_1 x30_1).f3.f1) ((rd_T45 l0_1 x30_1).f3.f2) ((rd_T45 l0_1 x30_1).f4) t227 t230 _ A14.out).mono ?_); rintro e w26 ⟨v228, rfl, ho0, hb⟩; refine ⟨_, rfl, ?_⟩; have n0_ := YL (Kd.R_elder' (by (with_reducible repeat (first | apply YP | apply YQ | apply YR)); exact (Kd.R_mono (Kd.R_far (p := ⟨gb226, 11, none⟩) (Kd.R_far (p := ⟨gb226, 10, none⟩) (Kd.R_far (p := ⟨gb226, 9, none⟩) (Kd.R_far (p := ⟨gb226, 8, none⟩) (Kd.R_far (p := ⟨gb226, 7, none⟩) (Kd.R_far (p := ⟨gb226, 6, none⟩) (Kd.R_far (p := ⟨gb226, 5, none⟩) (Kd.R_far (p := ⟨gb226, 4, none⟩) (Kd.R_far (p := ⟨gb226, 3, none⟩) (Kd.R_far (p := ⟨gb226, 2, none⟩) (Kd.R_far (p := ⟨gb226, 1, none⟩) (Kd.R_far (p := ⟨gb226, 0, none⟩) (Kd.R_types HO_5.out BK226.out (by decide)) (fun _ hk => hk.2) (.int .i64 ((rd_T45 l0_1 x30_1).f0))) (fun _ hk => hk.2) (.int .i64 ((rd_T45 l0_1 x30_1).f1))) (fun _ hk => hk.2) (.bool ((rd_T45 l0_1 x30_1).f2.f0))) (fun _ hk => hk.2) (.int .i64 ((rd_T45 l0_1 x30_1).f2.f1))) (fun _ hk => hk.2) (.int .i64 ((rd_T45 l0_1 x30_1).f2.f2))) (fun _ hk => hk.2) (.int .i64 ((rd_T45 l0_1 x30_1).f2.f3))) (fun _ hk => hk.2) (.int .i64 ((rd_T45 l0_1 x30_1).f2.f4))) (fun _ hk => hk.2) (.int .i64 ((rd_T45 l0_1 x30_1).f2.f5))) (fun _ hk => hk.2) (.int .i64 ((rd_T45 l0_1 x30_1).f3.f0))) (fun _ hk => hk.2) (.int .i64 ((rd_T45 l0_1 x30_1).f3.f1))) (fun _ hk => hk.2) (.int .i64 ((rd_T45 l0_1 x30_1).f3.f2))) (fun _ hk => hk.2) (.int .i64 ((rd_T45 l0_1 x30_1).f4))) (fun _ h_ => h_.1))) (Kd.R_base ho0) hb); have n1_ := YL (Kd.R_lower (Kd.R_new' ho0 (Kd.R_lt (by (with_reducible repeat (first | apply YP | apply YQ | apply YR)); exact (Kd.R_mono (Kd.R_far (p := ⟨gb226, 11, none⟩) (Kd.R_far (p := ⟨gb226, 10, none⟩) (Kd.R_far (p := ⟨gb226, 9, none⟩) (Kd.R_far (p := ⟨gb226, 8, none⟩) (Kd.R_far (p := ⟨gb226, 7, none⟩) (Kd.R_far (p := ⟨gb226, 6, none⟩) (Kd.R_far (p := ⟨gb226, 5, none⟩) (Kd.R_far (p := ⟨gb226, 4, none⟩) (Kd.R_far (p := ⟨gb226, 3, none⟩) (Kd.R_far (p := ⟨gb226, 2, none⟩) (Kd.R_far (p := ⟨gb226, 1, none⟩) (Kd.R_far (p := ⟨gb226, 0, none⟩) (Kd.R_types HO_5.out BK226.out (by decide)) (fun _ hk => hk.2) (.int .i64 ((rd_T45 l0_1 x30_1).f0))) (fun _ hk => hk.2) (.int .i64 ((rd_T45 l0_1 x30_1).f1))) (fun _ hk => hk.2) (.bool ((rd_T45 l0_1 x30_1).f2.f0))) (fun _ hk => hk.2) (.int .i64 ((rd_T45 l0_1 x30_1).f2.f1))) (fun _ hk => hk.2) (.int .i64 ((rd_T45 l0_1 x30_1).f2.f2))) (fun _ hk => hk.2) (.int .i64 ((rd_T45 l0_1 x30_1).f2.f3))) (fun _ hk => hk.2) (.int .i64 ((rd_T45 l0_1 x30_1).f2.f4))) (fun _ hk => hk.2) (.int .i64 ((rd_T45 l0_1 x30_1).f2.f5))) (fun _ hk => hk.2) (.int .i64 ((rd_T45 l0_1 x30_1).f3.f0))) (fun _ hk => hk.2) (.int .i64 ((rd_T45 l0_1 x30_1).f3.f1))) (fun _ hk => hk.2) (.int .i64 ((rd_T45 l0_1 x30_1).f3.f2))) (fun _ hk => hk.2) (.int .i64 ((rd_T45 l0_1 x30_1).f4))) (fun _ h_ => h_.1))))) (YE (by repeat (first | (with_reducible first | exact HB.out | apply YA | apply YB | apply YC | refine below_set ?_ GE220.out | refine below_set ?_ GE226.out) | exact HB.out)))); have n2_ := YL (YK (g := gb220) (o := .cells #[.int .i64 a0_0, .slice (some ad225) l0_1.length c0_1] 24 (0, 0)) (by (with_reducible repeat (first | refine YF ?_ _ | refine YG ?_ | refine YH ?_ _)); refine blk_far ?_ NB220_226.out _; (with_reducible repeat (first | refine YF ?_ _ | refine YG ?_ | refine YH ?_ _)); refine blk_far ?_ NB220_226.out _; (with_reducible repeat (first | refine YF ?_ _ | refine YG ?_ | refine YH ?_ _)); refine blk_far ?_ NB220_226.out _; (with_reducible repeat (first | refine YF ?_ _ | refine YG ?_ | refine YH ?_ _)); refine blk_far ?_ NB220_226.out _; (with_reducible repeat (first | refine YF ?_ _ | refine YG ?_ | refine YH ?_ _)); refine blk_far ?_ NB220_226.out _; (with_reducible repeat (first | refine YF ?_ _ | refine YG ?_ | refine YH ?_ _)); refine blk_far ?_ NB220_226.out _; (with_reducible repeat (first | refine YF ?_ _ | refine YG ?_ | refine YH ?_ _)); refine blk_far ?_ NB220_226.out _; (with_reducible repeat (first | refine YF ?_ _ | refine YG ?_ | refine YH ?_ _)); refine blk_far ?_ NB220_226.out _; (with_reducible repeat (first | refine YF ?_ _ | refine YG ?_ | refine YH ?_ _)); refine blk_far ?_ NB220_226.out _; (with_reducible repeat (first | refine YF ?_ _ | refine YG ?_ | refine YH ?_ _)); refine blk_far ?_ NB220_226.out _; (with_reducible repeat (first | refine YF ?_ _ | refine YG ?_ | refine YH ?_ _)); refine blk_far ?_ NB220_226.out _; (with_reducible repeat (first | refine YF ?_ _ | refine YG ?_ | refine YH ?_ _)); refine blk_far ?_ NB220_226.out _; (with_reducible repeat (first | refine YF ?_ _ | refine YG ?_ | refine YH ?_ _)); exact BK220.out) hb); have n3_ := YL (YK (g := gb226) (o := .cells #[.int .i64 ((rd_T45 l0_1 x30_1).f0), .int .i64 ((rd_T45 l0_1 x30_1).f1), .bool ((rd_T45 l0_1 x30_1).f2.f0), .int .i64 ((rd_T45 l0_1 x30_1).f2.f1), .int .i64 ((rd_T45 l0_1 x30_1).f2.f2), .int .i64 ((rd_T45 l0_1 x30_1).f2.f3), .int .i64 ((rd_T45 l0_1 x30_1).f2.f4), .int .i64 ((rd_T45 l0_1 x30_1).f2.f5), .int .i64 ((rd_T45 l0_1 x30_1).f3.f0), .int .i64 ((rd_T45 l0_1 x30_1).f3.f1), .int .i64 ((rd_T45 l0_1 x30_1).f3.f2), .int .i64 ((rd_T45 l0_1 x30_1).f4)] 45 (0, 0)) (by (with_reducible repeat (first | refine YF ?_ _ | refine YG ?_ | refine YH ?_ _)); refine blk_put (cs := #[.int .i64 ((rd_T45 l0_1 x30_1).f0), .int .i64 ((rd_T45 l0_1 x30_1).f1), .bool ((rd_T45 l0_1 x30_1).f2.f0), .int .i64 ((rd_T45 l0_1 x30_1).f2.f1), .int .i64 ((rd_T45 l0_1 x30_1).f2.f2), .int .i64 ((rd_T45 l0_1 x30_1).f2.f3), .int .i64 ((rd_T45 l0_1 x30_1).f2.f4), .int .i64 ((rd_T45 l0_1 x30_1).f2.f5), .int .i64 ((rd_T45 l0_1 x30_1).f3.f0), .int .i64 ((rd_T45 l0_1 x30_1).f3.f1), .int .i64 ((rd_T45 l0_1 x30_1).f3.f2), .int .i64 0]) ?_ 11 _ rfl; (with_reducible repeat (first | refine YF ?_ _ | refine YG ?_ | refine YH ?_ _)); refine blk_put (cs := #[.int .i64 ((rd_T45 l0_1 x30_1).f0), .int .i64 ((rd_T45 l0_1 x30_1).f1), .bool ((rd_T45 l0_1 x30_1).f2.f0), .int .i64 ((rd_T45 l0_1 x30_1).f2.f1), .int .i64 ((rd_T45 l0_1 x30_1).f2.f2), .int .i64 ((rd_T45 l0_1 x30_1).f2.f3), .int .i64 ((rd_T45 l0_1 x30_1).f2.f4), .int .i64 ((rd_T45 l0_1 x30_1).f2.f5), .int .i64 ((rd_T45 l0_1 x30_1).f3.f0), .int .i64 ((rd_T45 l0_1 x30_1).f3.f1), .int .i64 0, .int .i64 0]) ?_ 10 _ rfl; (with_reducible repeat (first | refine YF ?_ _ | refine YG ?_ | refine YH ?_ _)); refine blk_put (cs := #[.int .i64 ((rd_T45 l0_1 x30_1).f0), .int .i64 ((rd_T45 l0_1 x30_1).f1), .bool ((rd_T45 l0_1 x30_1).f2.f0), .int .i64 ((rd_T45 l0_1 x30_1).f2.f1), .int .i64 ((rd_T45 l0_1 x30_1).f2.f2), .int .i64 ((rd_T45 l0_1 x30_1).f2.f3), .int .i64 ((rd_T45 l0_1 x30_1).f2.f4), .int .i64 ((rd_T45 l0_1 x30_1).f2.f5), .int .i64 ((rd_T45 l0_1 x30_1).f3.f0), .int .i64 0, .int .i64 0, .int .i64 0]) ?_ 9 _ rfl; (with_reducible repeat (first | refine YF ?_ _ | refine YG ?_ | refine YH ?_ _)); refine blk_put (cs := #[.int .i64 ((rd_T45 l0_1 x30_1).f0), .int .i64 ((rd_T45 l0_1 x30_1).f1), .bool ((rd_T45 l0_1 x30_1).f2.f0), .int .i64 ((rd_T45 l0_1 x30_1).f2.f1), .int .i64 ((rd_T45 l0_1 x30_1).f2.f2), .int .i64 ((rd_T45 l0_1 x30_1).f2.f3), .int .i64 ((rd_T45 l0_1 x30_1).f2.f4), .int .i64 ((rd_T45 l0_1 x30_1).f2.f5), .int .i64 0, .int .i64 0, .int .i64 0, .int .i64 0]) ?_ 8 _ rfl; (with_reducible repeat (first | refine YF ?_ _ | refine YG ?_ | refine YH ?_ _)); refine blk_put (cs := #[.int .i64 ((rd_T45 l0_1 x30_1).f0), .int .i64 ((rd_T45 l0_1 x30_1).f1), .bool ((rd_T45 l0_1 x30_1).f2.f0), .int .i64 ((rd_T45 l0_1 x30_1).f2.f1), .int .i64 ((rd_T45 l0_1 x30_1).f2.f2), .int .i64 ((rd_T45 l0_1 x30_1).f2.f3), .int .i64 ((rd_T45 l0_1 x30_1).f2.f4), .int .i64 0, .int .i64 0, .int .i64 0, .int .i64 0, .int .i64 0]) ?_ 7 _ rfl; (with_reducible repeat (first | refine YF ?_ _ | refine YG ?_ | refine YH ?_ _)); refine blk_put (cs := #[.int .i64 ((rd_T45 l0_1 x30_1).f0), .int .i64 ((rd_T45 l0_1 x30_1).f1), .bool ((rd_T45 l0_1 x30_1).f2.f0), .int .i64 ((rd_T45 l0_1 x30_1).f2.f1), .int .i64 ((rd_T45 l0_1 x30_1).f2.f2), .int .i64 ((rd_T45 l0_1 x30_1).f2.f3), .int .i64 0, .int .i64 0, .int .i64 0, .int .i64 0, .int .i64 0, .int .i64 0]) ?_ 6 _ rfl; (with_reducible repeat (first | refine YF ?_ _ | refine YG ?_ | refine YH ?_ _)); refine blk_put (cs := #[.int .i64 ((rd_T45 l0_1 x30_1).f0), .int .i64 ((rd_T45 l0_1 x30_1).f1), .bool ((rd_T45 l0_1 x30_1).f2.f0), .int .i64 ((rd_T45 l0_1 x30_1).f2.f1), .int .i64 ((rd_T45 l0_1 x30_1).f2.f2), .int .i64 0, .int .i64 0, .int .i64 0, .int .i64 0, .int .i64 0, .int .i64 0, .int .i64 0]) ?_ 5 _ rfl; (with_reducible repeat (first | refine YF ?_ _ | refine YG ?_ | refine YH ?_ _)); refine blk_put (cs := #[.int .i64 ((rd_T45 l0_1 x30_1).f0), .int .i64 ((rd_T45 l0_1 x30_1).f1), .bool ((rd_T45 l0_1 x30_1).f2.f0), .int .i64 ((rd_T45 l0_1 x30_1).f2.f1), .int .i64 0, .int .i64 0, .int .i64 0, .int .i64 0, .int .i64 0, .int .i64 0, .int .i64 0, .int .i64 0]) ?_ 4 _ rfl; (with_reducible repeat (first | refine YF ?_ _ | refine YG ?_ | refine YH ?_ _)); refine blk_put (cs := #[.int .i64 ((rd_T45 l0_1 x30_1).f0), .int .i64 ((rd_T45 l0_1 x30_1).f1), .bool ((rd_T45 l0_1 x30_1).f2.f0), .int .i64 0, .int .i64 0, .int .i64 0, .int .i64 0, .int .i64 0, .int .i64 0, .int .i64 0, .int .i64 0, .int .i64 0]) ?_ 3 _ rfl; (with_reducible repeat (first | refine YF ?_ _ | refine YG ?_ | refine YH ?_ _)); refine blk_put (cs := #[.int .i64 ((rd_T45 l0_1 x30_1).f0), .int .i64 ((rd_T45 l0_1 x30_1).f1), .bool false, .int .i64 0, .int .i64 0, .int .i64 0, .int .i64 0, .int .i64 0, .int .i64 0, .int .i64 0, .int .i64 0, .int .i64 0]) ?_ 2 _ rfl; (with_reducible repeat (first | refine YF ?_ _ | refine YG ?_ | refine YH ?_ _)); refine blk_put (cs := #[.int .i64 ((rd_T45 l0_1 x30_1).f0), .int .i64 0, .bool false, .int .i64 0, .int .i64 0, .int .i64 0, .int .i64 0, .int .i64 0, .int .i64 0, .int .i64 0, .int .i64 0, .int .i64 0]) ?_ 1 _ rfl; (with_reducible repeat (first | refine YF ?_ _ | refine YG ?_ | refine YH ?_ _)); refine blk_put (cs := #[.int .i64 0, .int .i64 0, .bool false, .int .i64 0, .int .i64 0, .int .i64 0, .int .i64 0, .int .i64 0, .int .i64 0, .int .i64 0, .int .i64 0, .int .i64 0]) ?_ 0 _ rfl; (with_reducible repeat (first | refine YF ?_ _ | refine YG ?_ | refine YH ?_ _)); exact BK226.out) hb); have n4_ := YL (YD (by repeat (first | (with_reducible first | exact HB.out | apply YA | apply YB | apply YC | refine below_set ?_ GE220.out | refine below_set ?_ GE226.out) | exact HB.out)) hb); clear HO_5; clear BK220; clear BK226; clear HB; have HO_5 := n0_; have HO229 := n1_; have BK220 := n2_; have BK226 := n3_; have HB := n4_; clear n0_ n1_ n2_ n3_ n4_; (try clear hb); (try clear hb2); (try clear hk); (try clear hi); (try clear ho0)))
          go_ret2
          exact ⟨_, by first | rfl | (simp [errW_none, errW_some] <;> rfl) | (simp [*, errW_none, errW_some] <;> rfl), by first | exact Kd.R_nil _ _ _ _ _ | exact Kd.N_nil _ _ _ _ _ | exact Kd.V_nil _ _ _ _ _ | exact Kd.Q_nil _ _ _ _ _ | exact Kd.S_nil _ _ _ _ _, by repeat (first | (with_reducible first | exact HB.out | apply YA | apply YB | apply YC | refine below_set ?_ GE220.out | refine below_set ?_ GE226.out) | exact HB.out)⟩
        rw [if_neg c11] at H
        have c11b0 : decide (x30_1 < (l0_1.length : Int)) = false := decide_eq_false c11
        clear c11
        simp only [Option.some.injEq, Prod.mk.injEq] at H
        obtain ⟨rfl, rfl⟩ := H
        go_wp2
        go_ret2
        exact ⟨_, by first | rfl | (simp [errW_none, errW_some] <;> rfl) | (simp [*, errW_none, errW_some] <;> rfl), by (with_reducible repeat (first | apply YP | apply YQ | apply YR)); exact HO_5.out, by repeat (first | (with_reducible first | exact HB.out | apply YA | apply YB | apply YC | refine below_set ?_ GE220.out) | exact HB.out)⟩
  rw [if_neg c3] at H
  have c3b0 : (t221 == 0) = false := beq_eq_false_iff_ne.mpr c3
  have c3b1 : (t221 != 0) = true := bne_iff_ne.mpr c3
  simp only [Option.some.injEq, Prod.mk.injEq] at H
  obtain ⟨rfl, rfl⟩ := H
  go_enter Try.func9, Try.ntmps9
  go_wp2_with (first | ((with_reducible refine gate_dst (N := 1) rfl ?_); refine box_event ?hg (N := 1) ?hd (cs := #[.int .i64 a0_0, .slice A0_1 l0_1.length c0_1]) (t := 24) ?hr ?_; (case hd => rfl); (case hg => rfl); (case hr => first | (go_simp; done) | (go_simp; rfl)); intro gb220 hg w27 hbox hb; have n0_ := YL (YD (by repeat (first | (with_reducible first | exact HB.out | apply YA | apply YB | apply YC) | exact HB.out)) hb); have n1_ := YL (hbox); have n2_ := YL ((by rw [hg]; exact (YE (by repeat (first | (with_reducible first | exact HB.out | apply YA | apply YB | apply YC) | exact HB.out))) : w.heap.size ≤ gb220)); have n3_ := YL ((by rw [hg]; exact (YE (by repeat (first | (with_reducible first | exact HB.out | apply YA | apply YB | apply YC) | exact HB.out))) : w.heap.size ≤ gb220)); clear HB; have HB := n0_; have BK220 := n1_; have GW220 := n2_; have GE220 := n3_; clear n0_ n1_ n2_ n3_; clear hb hbox hg; have q28_0 : w27.cell? ⟨gb220, 0, none⟩ = some (.int .i64 a0_0) := (YI BK220.out 0).trans rfl; have q28_1 : w27.cell? ⟨gb220, 1, none⟩ = some (.slice A0_1 l0_1.length c0_1) := (YI BK220.out 1).trans rfl; have f28_0 := YJ BK220.out 0; have f28_1 := YJ BK220.out 1) | ((with_reducible refine gate_callee (f := 12) rfl ?_); refine goesL_ (some 11) rfl rfl Try.func12 (by kernel_rfl) rfl #[.agg #[.int .i64 a0_0, .slice A0_1 l0_1.length c0_1]] rfl (by (try simp only [YM, List.map_cons, List.map_nil]); first | done | rfl | (simp only [YO, YN]; rfl)) ?_; (with_reducible refine (batch_Check.calls k a0_0 _ _ l0_1 t221 _ ?side1 ?side2 A2.out).mono ?_); (case side1 => repeat (first | exact (Kd.C_below HR0_1.out HB.out) | (with_reducible refine Kd.C_alloc ?_ _) | (with_reducible refine Kd.C_drewN ?_ _) | (with_reducible refine Kd.C_drew ?_))); (case side2 => exact HC0_1.out); rintro e w29 ⟨rfl, hb⟩; refine ⟨_, rfl, ?_⟩; have n0_ := YL (YK (g := gb220) (o := .cells #[.int .i64 a0_0, .slice A0_1 l0_1.length c0_1] 24 (0, 0)) (by (with_reducible repeat (first | refine YF ?_ _ | refine YG ?_ | refine YH ?_ _)); exact BK220.out) hb); have n1_ := YL (YD (by repeat (first | (with_reducible first | exact HB.out | apply YA | apply YB | apply YC | refine below_set ?_ GE220.out) | exact HB.out)) hb); clear BK220; clear HB; have BK220 := n0_; have HB := n1_; clear n0_ n1_; (try clear hb); (try clear hb2); (try clear hk); (try clear hi)))
  go_ret2
  exact ⟨_, by first | rfl | (simp [errW_none, errW_some] <;> rfl) | (simp [*, errW_none, errW_some] <;> rfl), by first | exact Kd.R_nil _ _ _ _ _ | exact Kd.N_nil _ _ _ _ _ | exact Kd.V_nil _ _ _ _ _ | exact Kd.Q_nil _ _ _ _ _ | exact Kd.S_nil _ _ _ _ _, by repeat (first | (with_reducible first | exact HB.out | apply YA | apply YB | apply YC | refine below_set ?_ GE220.out) | exact HB.out)⟩
end Go.Proofs.Ytfigbjjaffkidaa.P
namespace Go.Proofs.Ytfigbjjaffkidaa.P
open Go.RowKit YtfigbjjaffkidaaW.PrintWords YtfigbjjaffkidaaW.PrintLast YtfigbjjaffkidaaW.PrintMore
open YtfigbjjaffkidaaW.PrintWords renaming below_alloc → YA, pw_below_drewN → YB, below_drew1 → YC, blk_cell → YD, blk_frozen → YE
open YtfigbjjaffkidaaW.PrintWords.Aside0 renaming mk → YF
attribute [local go_sem] max2_int min2_int max_two min_two max_three min_three max_four min_four   -- for this text's walks alone
attribute [local go_sem high] eqA41
def thalwegref02_Right.j0 : Nat → Bool → Bool → Int → Int → Int → Int → Int → Option (Bool)
  | 0, _, _, _, _, _, _, _ => none
  | k + 1, x10, x235000, x235001, x235002, x235003, x235004, x235005 => if x10 = true then (some false) else (if x235000 = true then (some (x235001 == 0 && (x235002 == 0 && (x235003 == 0 && (x235004 == 0))))) else (if x235001 ≥ 0 then (if x235001 ≤ 4611686018427387903 then (if x235002 ≥ 0 then (if x235002 < 64 then (if x235003 = 0 then (if x235004 ≥ (-1099511627776) then (some (decide (x235004 ≤ 1099511627776))) else (some false)) else (if x235003 = 1 then (if x235004 ≥ (-1099511627776) then (some (decide (x235004 ≤ 1099511627776))) else (some false)) else (some false))) else (some false)) else (some false)) else (some false)) else (some false)))
def thalwegref02_Right.f (k : Nat) (a0_0 : Bool) (a0_1 : Int) (a0_2 : Int) (a0_3 : Int) (a0_4 : Int) (a0_5 : Int) : Option (Bool) := if a0_5 < 0 then (thalwegref02_Right.j0 k true a0_0 a0_1 a0_2 a0_3 a0_4 a0_5) else (thalwegref02_Right.j0 k (decide (a0_5 ≥ 64)) a0_0 a0_1 a0_2 a0_3 a0_4 a0_5)
set_option maxHeartbeats 8000000 in
set_option maxRecDepth 100000 in
theorem thalwegref02_Right.calls (k : Nat) (a0_0 : Bool) (a0_1 : Int) (a0_2 : Int) (a0_3 : Int) (a0_4 : Int) (a0_5 : Int) (r : Bool) (w : World) (h : thalwegref02_Right.f k a0_0 a0_1 a0_2 a0_3 a0_4 a0_5 = some r) :
    Calls Try.prog 47 #[.agg #[.bool a0_0, .int .i64 a0_1, .int .i64 a0_2, .int .i64 a0_3, .int .i64 a0_4, .int .i64 a0_5]] w fun e w' => e = .returned (.bool r) ∧ Below w.heap.size w w' := by
  have hu41 := Try.underlying41
  have HB := YF (Below.refl w.heap.size w)
  have H : (if a0_5 < 0 then (thalwegref02_Right.j0 k true a0_0 a0_1 a0_2 a0_3 a0_4 a0_5) else (thalwegref02_Right.j0 k (decide (a0_5 ≥ 64)) a0_0 a0_1 a0_2 a0_3 a0_4 a0_5)) = some r := h
  clear h; have HC2 := YF H; clear H
  go_enter Try.func47, Try.ntmps47
  go_upto_region 1 with (first | ((with_reducible refine gate_dst (N := 1) rfl ?_); refine box_event ?hg (N := 1) ?hd (cs := #[.bool a0_0, .int .i64 a0_1, .int .i64 a0_2, .int .i64 a0_3, .int .i64 a0_4, .int .i64 a0_5]) (t := 41) ?hr ?_; (case hd => rfl); (case hg => rfl); (case hr => first | (go_simp; done) | (go_simp; rfl)); intro gb234 hg w3 hbox hb; have n0_ := YF (below_step (by repeat (first | (with_reducible first | exact HB.out | apply YA | apply YB | apply YC) | exact HB.out)) hb); have n1_ := YF (hbox); have n2_ := YF ((by rw [hg]; exact (below_size (by repeat (first | (with_reducible first | exact HB.out | apply YA | apply YB | apply YC) | exact HB.out))) : w.heap.size ≤ gb234)); have n3_ := YF ((by rw [hg]; exact (below_size (by repeat (first | (with_reducible first | exact HB.out | apply YA | apply YB | apply YC) | exact HB.out))) : w.heap.size ≤ gb234)); clear HB; have HB := n0_; have BK234 := n1_; have GW234 := n2_; have GE234 := n3_; clear n0_ n1_ n2_ n3_; clear hb hbox hg))
  (try simp only [Act.put, List.setIfInBounds_toArray, List.set_cons_zero, List.set_cons_succ])
  go_cut [10] (fun v10 wc => ∃ (kq : Nat) (x10_1 : Bool), v10 = .bool x10_1 ∧ Aside0 (thalwegref02_Right.j0 kq x10_1 a0_0 a0_1 a0_2 a0_3 a0_4 a0_5 = some r) ∧ Aside0 (kq ≤ k) ∧ Aside0 (wc.heap[gb234]? = some (.cells #[.bool a0_0, .int .i64 a0_1, .int .i64 a0_2, .int .i64 a0_3, .int .i64 a0_4, .int .i64 a0_5] 41 (0, 0))) ∧ Aside0 (Below w.heap.size w wc))
  case first =>
    have H := HC2.out
    clear HC2
    by_cases c4 : a0_5 < 0
    · rw [if_pos c4] at H
      have c4b0 : decide (a0_5 < 0) = true := decide_eq_true c4; clear c4
      (first | rw [c4b0] | (simp only [i64_w, i32_w]; rw [c4b0]) | skip)
      have H' := YF H
      clear H
      have q5_0 : w3.cell? ⟨gb234, 0, none⟩ = some (.bool a0_0) := (YD BK234.out 0).trans rfl
      have q5_1 : w3.cell? ⟨gb234, 1, none⟩ = some (.int .i64 a0_1) := (YD BK234.out 1).trans rfl
      have q5_2 : w3.cell? ⟨gb234, 2, none⟩ = some (.int .i64 a0_2) := (YD BK234.out 2).trans rfl
      have q5_3 : w3.cell? ⟨gb234, 3, none⟩ = some (.int .i64 a0_3) := (YD BK234.out 3).trans rfl
      have q5_4 : w3.cell? ⟨gb234, 4, none⟩ = some (.int .i64 a0_4) := (YD BK234.out 4).trans rfl
      have q5_5 : w3.cell? ⟨gb234, 5, none⟩ = some (.int .i64 a0_5) := (YD BK234.out 5).trans rfl
      have f5_0 := YE BK234.out 0
      have f5_1 := YE BK234.out 1
      have f5_2 := YE BK234.out 2
      have f5_3 := YE BK234.out 3
      have f5_4 := YE BK234.out 4
      have f5_5 := YE BK234.out 5
      go_wp2
      go_meet
      case rel => exact ⟨_, (true), (by first | rfl | (simp; done) | (simp [*]; done)), H', ⟨by first | omega | exact Nat.le_refl _⟩, ⟨by (with_reducible repeat (first | refine blk_drewN ?_ _ | refine blk_drew ?_ | refine blk_alloc ?_ _)); exact BK234.out⟩, ⟨by repeat (first | (with_reducible first | exact HB.out | apply YA | apply YB | apply YC | refine below_set ?_ GE234.out) | exact HB.out)⟩⟩
    rw [if_neg c4] at H; have c4b0 : decide (a0_5 < 0) = false := decide_eq_false c4; clear c4
    (first | rw [c4b0] | (simp only [i64_w, i32_w]; rw [c4b0]) | skip)
    have H' := YF H
    clear H
    have q6_0 : w3.cell? ⟨gb234, 0, none⟩ = some (.bool a0_0) := (YD BK234.out 0).trans rfl
    have q6_1 : w3.cell? ⟨gb234, 1, none⟩ = some (.int .i64 a0_1) := (YD BK234.out 1).trans rfl
    have q6_2 : w3.cell? ⟨gb234, 2, none⟩ = some (.int .i64 a0_2) := (YD BK234.out 2).trans rfl
    have q6_3 : w3.cell? ⟨gb234, 3, none⟩ = some (.int .i64 a0_3) := (YD BK234.out 3).trans rfl
    have q6_4 : w3.cell? ⟨gb234, 4, none⟩ = some (.int .i64 a0_4) := (YD BK234.out 4).trans rfl
    have q6_5 : w3.cell? ⟨gb234, 5, none⟩ = some (.int .i64 a0_5) := (YD BK234.out 5).trans rfl
    have f6_0 := YE BK234.out 0
    have f6_1 := YE BK234.out 1
    have f6_2 := YE BK234.out 2
    have f6_3 := YE BK234.out 3
    have f6_4 := YE BK234.out 4
    have f6_5 := YE BK234.out 5
    go_wp2
    go_meet
    case rel => exact ⟨_, (decide (a0_5 ≥ 64)), (by first | rfl | (simp; done) | (simp [*]; done)), H', ⟨by first | omega | exact Nat.le_refl _⟩, ⟨by (with_reducible repeat (first | refine blk_drewN ?_ _ | refine blk_drew ?_ | refine blk_alloc ?_ _)); exact BK234.out⟩, ⟨by repeat (first | (with_reducible first | exact HB.out | apply YA | apply YB | apply YC | refine below_set ?_ GE234.out) | exact HB.out)⟩⟩
  case rest =>
    clear HC2
    try clear p2; try clear c4
    try clear c4b0; try clear q5_0
    try clear q5_1; try clear q5_2
    try clear q5_3; try clear q5_4
    try clear q5_5; try clear q6_0
    try clear q6_1; try clear q6_2
    try clear q6_3; try clear q6_4
    try clear q6_5; try clear f5_0
    try clear f5_1; try clear f5_2
    try clear f5_3; try clear f5_4
    try clear f5_5; try clear f6_0
    try clear f6_1; try clear f6_2
    try clear f6_3; try clear f6_4; try clear f6_5
    obtain ⟨kq, x10_1, rfl, HA, HJ1, BK234, HB⟩ := hcut
    cases kq with
    | zero => exact absurd HA.out (by simp [thalwegref02_Right.j0])
    | succ kj1 =>
      have H := HA.out
      clear HA
      simp only [thalwegref02_Right.j0] at H
      by_cases c7 : x10_1 = true
      · subst c7
        have H1 : (some false) = some r := by rw [if_pos rfl] at H; exact H
        clear H
        have H := H1
        clear H1
        obtain rfl := Option.some.inj H
        go_wp2
        go_ret
        exact ⟨by first | rfl | (simp [errW_none, errW_some] <;> rfl) | (simp [*, errW_none, errW_some] <;> rfl), by repeat (first | (with_reducible first | exact HB.out | apply YA | apply YB | apply YC | refine below_set ?_ GE234.out) | exact HB.out)⟩
      replace c7 := Bool.eq_false_iff.mpr c7
      subst c7
      have H1 : (if a0_0 = true then (some (a0_1 == 0 && (a0_2 == 0 && (a0_3 == 0 && (a0_4 == 0))))) else (if a0_1 ≥ 0 then (if a0_1 ≤ 4611686018427387903 then (if a0_2 ≥ 0 then (if a0_2 < 64 then (if a0_3 = 0 then (if a0_4 ≥ (-1099511627776) then (some (decide (a0_4 ≤ 1099511627776))) else (some false)) else (if a0_3 = 1 then (if a0_4 ≥ (-1099511627776) then (some (decide (a0_4 ≤ 1099511627776))) else (some false)) else (some false))) else (some false)) else (some false)) else (some false)) else (some false))) = some r := by rw [if_neg (show ¬ (false = true) by decide)] at H; exact H
      clear H
      have H := H1
      clear H1
      by_cases c8 : a0_0 = true
      · subst c8
        have H1 : (some (a0_1 == 0 && (a0_2 == 0 && (a0_3 == 0 && (a0_4 == 0))))) = some r := by rw [if_pos rfl] at H; exact H
        clear H
        have H := H1
        clear H1
        obtain rfl := Option.some.inj H
        have q9_0 : wc.cell? ⟨gb234, 0, none⟩ = some (.bool true) := (YD BK234.out 0).trans rfl
        have q9_1 : wc.cell? ⟨gb234, 1, none⟩ = some (.int .i64 a0_1) := (YD BK234.out 1).trans rfl
        have q9_2 : wc.cell? ⟨gb234, 2, none⟩ = some (.int .i64 a0_2) := (YD BK234.out 2).trans rfl
        have q9_3 : wc.cell? ⟨gb234, 3, none⟩ = some (.int .i64 a0_3) := (YD BK234.out 3).trans rfl
        have q9_4 : wc.cell? ⟨gb234, 4, none⟩ = some (.int .i64 a0_4) := (YD BK234.out 4).trans rfl
        have q9_5 : wc.cell? ⟨gb234, 5, none⟩ = some (.int .i64 a0_5) := (YD BK234.out 5).trans rfl
        have f9_0 := YE BK234.out 0
        have f9_1 := YE BK234.out 1
        have f9_2 := YE BK234.out 2
        have f9_3 := YE BK234.out 3
        have f9_4 := YE BK234.out 4
        have f9_5 := YE BK234.out 5
        go_wp2
        go_ret
        exact ⟨by first | rfl | (simp [errW_none, errW_some] <;> rfl) | (simp [*, errW_none, errW_some] <;> rfl), by repeat (first | (with_reducible first | exact HB.out | apply YA | apply YB | apply YC | refine below_set ?_ GE234.out) | exact HB.out)⟩
      replace c8 := Bool.eq_false_iff.mpr c8
      subst c8
      have H1 : (if a0_1 ≥ 0 then (if a0_1 ≤ 4611686018427387903 then (if a0_2 ≥ 0 then (if a0_2 < 64 then (if a0_3 = 0 then (if a0_4 ≥ (-1099511627776) then (some (decide (a0_4 ≤ 1099511627776))) else (some false)) else (if a0_3 = 1 then (if a0_4 ≥ (-1099511627776) then (some (decide (a0_4 ≤ 1099511627776))) else (some false)) else (some false))) else (some false)) else (some false)) else (some false)) else (some false)) = some r := by rw [if_neg (show ¬ (false = true) by decide)] at H; exact H
      clear H
      have H := H1
      clear H1
      by_cases c10 : a0_1 ≥ 0
      · rw [if_pos c10] at H
        have c10b0 : decide (0 ≤ a0_1) = true := decide_eq_true c10; clear c10
        by_cases c11 : a0_1 ≤ 4611686018427387903
        · rw [if_pos c11] at H
          have c11b0 : decide (a0_1 ≤ 4611686018427387903) = true := decide_eq_true c11; clear c11
          by_cases c12 : a0_2 ≥ 0
          · rw [if_pos c12] at H
            have c12b0 : decide (0 ≤ a0_2) = true := decide_eq_true c12; clear c12
            by_cases c13 : a0_2 < 64
            · rw [if_pos c13] at H
              have c13b0 : decide (a0_2 < 64) = true := decide_eq_true c13; clear c13
              by_cases c14 : a0_3 = 0
              · rw [if_pos c14] at H
                have c14b0 : (a0_3 == 0) = true := beq_iff_eq.mpr c14
                have c14b1 : (a0_3 != 0) = false := bne_eq_false_iff_eq.mpr c14
                clear c14
                by_cases c15 : a0_4 ≥ (-1099511627776)
                · rw [if_pos c15] at H
                  have c15b0 : decide ((-1099511627776) ≤ a0_4) = true := decide_eq_true c15; clear c15
                  obtain rfl := Option.some.inj H
                  have q16_0 : wc.cell? ⟨gb234, 0, none⟩ = some (.bool false) := (YD BK234.out 0).trans rfl
                  have q16_1 : wc.cell? ⟨gb234, 1, none⟩ = some (.int .i64 a0_1) := (YD BK234.out 1).trans rfl
                  have q16_2 : wc.cell? ⟨gb234, 2, none⟩ = some (.int .i64 a0_2) := (YD BK234.out 2).trans rfl
                  have q16_3 : wc.cell? ⟨gb234, 3, none⟩ = some (.int .i64 a0_3) := (YD BK234.out 3).trans rfl
                  have q16_4 : wc.cell? ⟨gb234, 4, none⟩ = some (.int .i64 a0_4) := (YD BK234.out 4).trans rfl
                  have q16_5 : wc.cell? ⟨gb234, 5, none⟩ = some (.int .i64 a0_5) := (YD BK234.out 5).trans rfl
                  have f16_0 := YE BK234.out 0
                  have f16_1 := YE BK234.out 1
                  have f16_2 := YE BK234.out 2
                  have f16_3 := YE BK234.out 3
                  have f16_4 := YE BK234.out 4
                  have f16_5 := YE BK234.out 5
                  go_wp2
                  go_ret
                  exact ⟨by first | rfl | (simp [errW_none, errW_some] <;> rfl) | (simp [*, errW_none, errW_some] <;> rfl), by repeat (first | (with_reducible first | exact HB.out | apply YA | apply YB | apply YC | refine below_set ?_ GE234.out) | exact HB.out)⟩
                rw [if_neg c15] at H; have c15b0 : decide ((-1099511627776) ≤ a0_4) = false := decide_eq_false c15; clear c15
                obtain rfl := Option.some.inj H
                have q17_0 : wc.cell? ⟨gb234, 0, none⟩ = some (.bool false) := (YD BK234.out 0).trans rfl
                have q17_1 : wc.cell? ⟨gb234, 1, none⟩ = some (.int .i64 a0_1) := (YD BK234.out 1).trans rfl
                have q17_2 : wc.cell? ⟨gb234, 2, none⟩ = some (.int .i64 a0_2) := (YD BK234.out 2).trans rfl
                have q17_3 : wc.cell? ⟨gb234, 3, none⟩ = some (.int .i64 a0_3) := (YD BK234.out 3).trans rfl
                have q17_4 : wc.cell? ⟨gb234, 4, none⟩ = some (.int .i64 a0_4) := (YD BK234.out 4).trans rfl
                have q17_5 : wc.cell? ⟨gb234, 5, none⟩ = some (.int .i64 a0_5) := (YD BK234.out 5).trans rfl
                have f17_0 := YE BK234.out 0
                have f17_1 := YE BK234.out 1
                have f17_2 := YE BK234.out 2
                have f17_3 := YE BK234.out 3
                have f17_4 := YE BK234.out 4
                have f17_5 := YE BK234.out 5
                go_wp2
                go_ret
                exact ⟨by first | rfl | (simp [errW_none, errW_some] <;> rfl) | (simp [*, errW_none, errW_some] <;> rfl), by repeat (first | (with_reducible first | exact HB.out | apply YA | apply YB | apply YC | refine below_set ?_ GE234.out) | exact HB.out)⟩
              rw [if_neg c14] at H
              have c14b0 : (a0_3 == 0) = false := beq_eq_false_iff_ne.mpr c14
              have c14b1 : (a0_3 != 0) = true := bne_iff_ne.mpr c14
              by_cases c18 : a0_3 = 1
              · rw [if_pos c18] at H
                have c18b0 : (a0_3 == 1) = true := beq_iff_eq.mpr c18
                have c18b1 : (a0_3 != 1) = false := bne_eq_false_iff_eq.mpr c18
                clear c18
                by_cases c19 : a0_4 ≥ (-1099511627776)
                · rw [if_pos c19] at H
                  have c19b0 : decide ((-1099511627776) ≤ a0_4) = true := decide_eq_true c19; clear c19
                  obtain rfl := Option.some.inj H
                  have q20_0 : wc.cell? ⟨gb234, 0, none⟩ = some (.bool false) := (YD BK234.out 0).trans rfl
                  have q20_1 : wc.cell? ⟨gb234, 1, none⟩ = some (.int .i64 a0_1) := (YD BK234.out 1).trans rfl
                  have q20_2 : wc.cell? ⟨gb234, 2, none⟩ = some (.int .i64 a0_2) := (YD BK234.out 2).trans rfl
                  have q20_3 : wc.cell? ⟨gb234, 3, none⟩ = some (.int .i64 a0_3) := (YD BK234.out 3).trans rfl
                  have q20_4 : wc.cell? ⟨gb234, 4, none⟩ = some (.int .i64 a0_4) := (YD BK234.out 4).trans rfl
                  have q20_5 : wc.cell? ⟨gb234, 5, none⟩ = some (.int .i64 a0_5) := (YD BK234.out 5).trans rfl
                  have f20_0 := YE BK234.out 0
                  have f20_1 := YE BK234.out 1
                  have f20_2 := YE BK234.out 2
                  have f20_3 := YE BK234.out 3
                  have f20_4 := YE BK234.out 4
                  have f20_5 := YE BK234.out 5
                  go_wp2
                  go_ret
                  exact ⟨by first | rfl | (simp [errW_none, errW_some] <;> rfl) | (simp [*, errW_none, errW_some] <;> rfl), by repeat (first | (with_reducible first | exact HB.out | apply YA | apply YB | apply YC | refine below_set ?_ GE234.out) | exact HB.out)⟩
                rw [if_neg c19] at H; have c19b0 : decide ((-1099511627776) ≤ a0_4) = false := decide_eq_false c19; clear c19
                obtain rfl := Option.some.inj H
                have q21_0 : wc.cell? ⟨gb234, 0, none⟩ = some (.bool false) := (YD BK234.out 0).trans rfl
                have q21_1 : wc.cell? ⟨gb234, 1, none⟩ = some (.int .i64 a0_1) := (YD BK234.out 1).trans rfl
                have q21_2 : wc.cell? ⟨gb234, 2, none⟩ = some (.int .i64 a0_2) := (YD BK234.out 2).trans rfl
                have q21_3 : wc.cell? ⟨gb234, 3, none⟩ = some (.int .i64 a0_3) := (YD BK234.out 3).trans rfl
                have q21_4 : wc.cell? ⟨gb234, 4, none⟩ = some (.int .i64 a0_4) := (YD BK234.out 4).trans rfl
                have q21_5 : wc.cell? ⟨gb234, 5, none⟩ = some (.int .i64 a0_5) := (YD BK234.out 5).trans rfl
                have f21_0 := YE BK234.out 0
                have f21_1 := YE BK234.out 1
                have f21_2 := YE BK234.out 2
                have f21_3 := YE BK234.out 3
                have f21_4 := YE BK234.out 4
                have f21_5 := YE BK234.out 5
                go_wp2
                go_ret
                exact ⟨by first | rfl | (simp [errW_none, errW_some] <;> rfl) | (simp [*, errW_none, errW_some] <;> rfl), by repeat (first | (with_reducible first | exact HB.out | apply YA | apply YB | apply YC | refine below_set ?_ GE234.out) | exact HB.out)⟩
              rw [if_neg c18] at H
              have c18b0 : (a0_3 == 1) = false := beq_eq_false_iff_ne.mpr c18
              have c18b1 : (a0_3 != 1) = true := bne_iff_ne.mpr c18
              obtain rfl := Option.some.inj H
              have q22_0 : wc.cell? ⟨gb234, 0, none⟩ = some (.bool false) := (YD BK234.out 0).trans rfl
              have q22_1 : wc.cell? ⟨gb234, 1, none⟩ = some (.int .i64 a0_1) := (YD BK234.out 1).trans rfl
              have q22_2 : wc.cell? ⟨gb234, 2, none⟩ = some (.int .i64 a0_2) := (YD BK234.out 2).trans rfl
              have q22_3 : wc.cell? ⟨gb234, 3, none⟩ = some (.int .i64 a0_3) := (YD BK234.out 3).trans rfl
              have q22_4 : wc.cell? ⟨gb234, 4, none⟩ = some (.int .i64 a0_4) := (YD BK234.out 4).trans rfl
              have q22_5 : wc.cell? ⟨gb234, 5, none⟩ = some (.int .i64 a0_5) := (YD BK234.out 5).trans rfl
              have f22_0 := YE BK234.out 0
              have f22_1 := YE BK234.out 1
              have f22_2 := YE BK234.out 2
              have f22_3 := YE BK234.out 3
              have f22_4 := YE BK234.out 4
              have f22_5 := YE BK234.out 5
              go_wp2
              go_ret
              exact ⟨by first | rfl | (simp [errW_none, errW_some] <;> rfl) | (simp [*, errW_none, errW_some] <;> rfl), by repeat (first | (with_reducible first | exact HB.out | apply YA | apply YB | apply YC | refine below_set ?_ GE234.out) | exact HB.out)⟩
            rw [if_neg c13] at H; have c13b0 : decide (a0_2 < 64) = false := decide_eq_false c13; clear c13
            obtain rfl := Option.some.inj H
            have q23_0 : wc.cell? ⟨gb234, 0, none⟩ = some (.bool false) := (YD BK234.out 0).trans rfl
            have q23_1 : wc.cell? ⟨gb234, 1, none⟩ = some (.int .i64 a0_1) := (YD BK234.out 1).trans rfl
            have q23_2 : wc.cell? ⟨gb234, 2, none⟩ = some (.int .i64 a0_2) := (YD BK234.out 2).trans rfl
            have q23_3 : wc.cell? ⟨gb234, 3, none⟩ = some (.int .i64 a0_3) := (YD BK234.out 3).trans rfl
            have q23_4 : wc.cell? ⟨gb234, 4, none⟩ = some (.int .i64 a0_4) := (YD BK234.out 4).trans rfl
            have q23_5 : wc.cell? ⟨gb234, 5, none⟩ = some (.int .i64 a0_5) := (YD BK234.out 5).trans rfl
            have f23_0 := YE BK234.out 0
            have f23_1 := YE BK234.out 1
            have f23_2 := YE BK234.out 2
            have f23_3 := YE BK234.out 3
            have f23_4 := YE BK234.out 4
            have f23_5 := YE BK234.out 5
            go_wp2
            go_ret
            exact ⟨by first | rfl | (simp [errW_none, errW_some] <;> rfl) | (simp [*, errW_none, errW_some] <;> rfl), by repeat (first | (with_reducible first | exact HB.out | apply YA | apply YB | apply YC | refine below_set ?_ GE234.out) | exact HB.out)⟩
          rw [if_neg c12] at H; have c12b0 : decide (0 ≤ a0_2) = false := decide_eq_false c12; clear c12
          obtain rfl := Option.some.inj H
          have q24_0 : wc.cell? ⟨gb234, 0, none⟩ = some (.bool false) := (YD BK234.out 0).trans rfl
          have q24_1 : wc.cell? ⟨gb234, 1, none⟩ = some (.int .i64 a0_1) := (YD BK234.out 1).trans rfl
          have q24_2 : wc.cell? ⟨gb234, 2, none⟩ = some (.int .i64 a0_2) := (YD BK234.out 2).trans rfl
          have q24_3 : wc.cell? ⟨gb234, 3, none⟩ = some (.int .i64 a0_3) := (YD BK234.out 3).trans rfl
          have q24_4 : wc.cell? ⟨gb234, 4, none⟩ = some (.int .i64 a0_4) := (YD BK234.out 4).trans rfl
          have q24_5 : wc.cell? ⟨gb234, 5, none⟩ = some (.int .i64 a0_5) := (YD BK234.out 5).trans rfl
          have f24_0 := YE BK234.out 0
          have f24_1 := YE BK234.out 1
          have f24_2 := YE BK234.out 2
          have f24_3 := YE BK234.out 3
          have f24_4 := YE BK234.out 4
          have f24_5 := YE BK234.out 5
          go_wp2
          go_ret
          exact ⟨by first | rfl | (simp [errW_none, errW_some] <;> rfl) | (simp [*, errW_none, errW_some] <;> rfl), by repeat (first | (with_reducible first | exact HB.out | apply YA | apply YB | apply YC | refine below_set ?_ GE234.out) | exact HB.out)⟩
        rw [if_neg c11] at H; have c11b0 : decide (a0_1 ≤ 4611686018427387903) = false := decide_eq_false c11; clear c11
        obtain rfl := Option.some.inj H
        have q25_0 : wc.cell? ⟨gb234, 0, none⟩ = some (.bool false) := (YD BK234.out 0).trans rfl
        have q25_1 : wc.cell? ⟨gb234, 1, none⟩ = some (.int .i64 a0_1) := (YD BK234.out 1).trans rfl
        have q25_2 : wc.cell? ⟨gb234, 2, none⟩ = some (.int .i64 a0_2) := (YD BK234.out 2).trans rfl
        have q25_3 : wc.cell? ⟨gb234, 3, none⟩ = some (.int .i64 a0_3) := (YD BK234.out 3).trans rfl
        have q25_4 : wc.cell? ⟨gb234, 4, none⟩ = some (.int .i64 a0_4) := (YD BK234.out 4).trans rfl
        have q25_5 : wc.cell? ⟨gb234, 5, none⟩ = some (.int .i64 a0_5) := (YD BK234.out 5).trans rfl
        have f25_0 := YE BK234.out 0
        have f25_1 := YE BK234.out 1
        have f25_2 := YE BK234.out 2
        have f25_3 := YE BK234.out 3
        have f25_4 := YE BK234.out 4
        have f25_5 := YE BK234.out 5
        go_wp2
        go_ret
        exact ⟨by first | rfl | (simp [errW_none, errW_some] <;> rfl) | (simp [*, errW_none, errW_some] <;> rfl), by repeat (first | (with_reducible first | exact HB.out | apply YA | apply YB | apply YC | refine below_set ?_ GE234.out) | exact HB.out)⟩
      rw [if_neg c10] at H; have c10b0 : decide (0 ≤ a0_1) = false := decide_eq_false c10; clear c10
      obtain rfl := Option.some.inj H
      have q26_0 : wc.cell? ⟨gb234, 0, none⟩ = some (.bool false) := (YD BK234.out 0).trans rfl
      have q26_1 : wc.cell? ⟨gb234, 1, none⟩ = some (.int .i64 a0_1) := (YD BK234.out 1).trans rfl
      have q26_2 : wc.cell? ⟨gb234, 2, none⟩ = some (.int .i64 a0_2) := (YD BK234.out 2).trans rfl
      have q26_3 : wc.cell? ⟨gb234, 3, none⟩ = some (.int .i64 a0_3) := (YD BK234.out 3).trans rfl
      have q26_4 : wc.cell? ⟨gb234, 4, none⟩ = some (.int .i64 a0_4) := (YD BK234.out 4).trans rfl
      have q26_5 : wc.cell? ⟨gb234, 5, none⟩ = some (.int .i64 a0_5) := (YD BK234.out 5).trans rfl
      have f26_0 := YE BK234.out 0
      have f26_1 := YE BK234.out 1
      have f26_2 := YE BK234.out 2
      have f26_3 := YE BK234.out 3
      have f26_4 := YE BK234.out 4
      have f26_5 := YE BK234.out 5
      go_wp2
      go_ret
      exact ⟨by first | rfl | (simp [errW_none, errW_some] <;> rfl) | (simp [*, errW_none, errW_some] <;> rfl), by repeat (first | (with_reducible first | exact HB.out | apply YA | apply YB | apply YC | refine below_set ?_ GE234.out) | exact HB.out)⟩
end Go.Proofs.Ytfigbjjaffkidaa.P
namespace Go.Proofs.Ytfigbjjaffkidaa.P
open Go.RowKit YtfigbjjaffkidaaW.PrintWords YtfigbjjaffkidaaW.PrintLast YtfigbjjaffkidaaW.PrintMore
open YtfigbjjaffkidaaW.PrintWords renaming below_alloc → YA, pw_below_drewN → YB, below_drew1 → YC, below_step → YD, below_size → YE, blk_cell → YF, blk_frozen → YG
open YtfigbjjaffkidaaW.PrintWords.Aside0 renaming mk → YH
attribute [local go_sem] max2_int min2_int max_two min_two max_three min_three max_four min_four   -- for this text's walks alone
def thalwegref02_Told.f (k : Nat) (a0_0 : Bool) (a0_1 : Int) (a0_2 : Int) (a0_3 : Int) (a0_4 : Int) (a0_5 : Int) : Option (Bool) := (thalwegref02_Right.f k a0_0 a0_1 a0_2 a0_3 a0_4 a0_5).bind fun t236 => (if t236 = true then (some (!a0_0)) else (some false))
set_option maxHeartbeats 8000000 in
set_option maxRecDepth 100000 in
theorem thalwegref02_Told.calls (k : Nat) (a0_0 : Bool) (a0_1 : Int) (a0_2 : Int) (a0_3 : Int) (a0_4 : Int) (a0_5 : Int) (r : Bool) (w : World) (h : thalwegref02_Told.f k a0_0 a0_1 a0_2 a0_3 a0_4 a0_5 = some r) :
    Calls Try.prog 48 #[.agg #[.bool a0_0, .int .i64 a0_1, .int .i64 a0_2, .int .i64 a0_3, .int .i64 a0_4, .int .i64 a0_5]] w fun e w' => e = .returned (.bool r) ∧ Below w.heap.size w w' := by
  have hu41 := Try.underlying41
  have HB := YH (Below.refl w.heap.size w)
  have H : ((thalwegref02_Right.f k a0_0 a0_1 a0_2 a0_3 a0_4 a0_5).bind fun t236 => (if t236 = true then (some (!a0_0)) else (some false))) = some r := h
  clear h; replace H := Option.bind_eq_some_iff.mp H; obtain ⟨t236, A20, H⟩ := H
  replace H : (if t236 = true then (some (!a0_0)) else (some false)) = some r := H
  have A2 := YH A20; clear A20
  by_cases c3 : t236 = true
  · subst c3
    have H1 : (some (!a0_0)) = some r := by rw [if_pos rfl] at H; exact H
    clear H
    have H := H1
    clear H1
    obtain rfl := Option.some.inj H
    go_enter Try.func48, Try.ntmps48
    go_wp2_with (first | ((with_reducible refine gate_dst (N := 1) rfl ?_); refine box_event ?hg (N := 1) ?hd (cs := #[.bool a0_0, .int .i64 a0_1, .int .i64 a0_2, .int .i64 a0_3, .int .i64 a0_4, .int .i64 a0_5]) (t := 41) ?hr ?_; (case hd => rfl); (case hg => rfl); (case hr => first | (go_simp; done) | (go_simp; rfl)); intro gb235 hg w4 hbox hb; have n0_ := YH (YD (by repeat (first | (with_reducible first | exact HB.out | apply YA | apply YB | apply YC) | exact HB.out)) hb); have n1_ := YH (hbox); have n2_ := YH ((by rw [hg]; exact (YE (by repeat (first | (with_reducible first | exact HB.out | apply YA | apply YB | apply YC) | exact HB.out))) : w.heap.size ≤ gb235)); have n3_ := YH ((by rw [hg]; exact (YE (by repeat (first | (with_reducible first | exact HB.out | apply YA | apply YB | apply YC) | exact HB.out))) : w.heap.size ≤ gb235)); clear HB; have HB := n0_; have BK235 := n1_; have GW235 := n2_; have GE235 := n3_; clear n0_ n1_ n2_ n3_; clear hb hbox hg; have q5_0 : w4.cell? ⟨gb235, 0, none⟩ = some (.bool a0_0) := (YF BK235.out 0).trans rfl; have q5_1 : w4.cell? ⟨gb235, 1, none⟩ = some (.int .i64 a0_1) := (YF BK235.out 1).trans rfl; have q5_2 : w4.cell? ⟨gb235, 2, none⟩ = some (.int .i64 a0_2) := (YF BK235.out 2).trans rfl; have q5_3 : w4.cell? ⟨gb235, 3, none⟩ = some (.int .i64 a0_3) := (YF BK235.out 3).trans rfl; have q5_4 : w4.cell? ⟨gb235, 4, none⟩ = some (.int .i64 a0_4) := (YF BK235.out 4).trans rfl; have q5_5 : w4.cell? ⟨gb235, 5, none⟩ = some (.int .i64 a0_5) := (YF BK235.out 5).trans rfl; have f5_0 := YG BK235.out 0; have f5_1 := YG BK235.out 1; have f5_2 := YG BK235.out 2; have f5_3 := YG BK235.out 3; have f5_4 := YG BK235.out 4; have f5_5 := YG BK235.out 5) | ((with_reducible refine gate_callee (f := 47) rfl ?_); refine goesL_ (some 4) rfl rfl Try.func47 (by kernel_rfl) rfl #[.agg #[.bool a0_0, .int .i64 a0_1, .int .i64 a0_2, .int .i64 a0_3, .int .i64 a0_4, .int .i64 a0_5]] rfl (by (try simp only [List.map_toArray, List.map_cons, List.map_nil]); first | done | rfl | (simp only [List.length_drop, List.length_take]; rfl)) ?_; (with_reducible refine (thalwegref02_Right.calls k a0_0 a0_1 a0_2 a0_3 a0_4 a0_5 true _ A2.out).mono ?_); rintro e w6 ⟨rfl, hb⟩; refine ⟨_, rfl, ?_⟩; have n0_ := YH (blk_below (g := gb235) (o := .cells #[.bool a0_0, .int .i64 a0_1, .int .i64 a0_2, .int .i64 a0_3, .int .i64 a0_4, .int .i64 a0_5] 41 (0, 0)) (by (with_reducible repeat (first | refine blk_drewN ?_ _ | refine blk_drew ?_ | refine blk_alloc ?_ _)); exact BK235.out) hb); have n1_ := YH (YD (by repeat (first | (with_reducible first | exact HB.out | apply YA | apply YB | apply YC | refine below_set ?_ GE235.out) | exact HB.out)) hb); clear BK235; clear HB; have BK235 := n0_; have HB := n1_; clear n0_ n1_; (try clear hb); (try clear hb2); (try clear hk); (try clear hi); have q7_0 : w6.cell? ⟨gb235, 0, none⟩ = some (.bool a0_0) := (YF BK235.out 0).trans rfl; have q7_1 : w6.cell? ⟨gb235, 1, none⟩ = some (.int .i64 a0_1) := (YF BK235.out 1).trans rfl; have q7_2 : w6.cell? ⟨gb235, 2, none⟩ = some (.int .i64 a0_2) := (YF BK235.out 2).trans rfl; have q7_3 : w6.cell? ⟨gb235, 3, none⟩ = some (.int .i64 a0_3) := (YF BK235.out 3).trans rfl; have q7_4 : w6.cell? ⟨gb235, 4, none⟩ = some (.int .i64 a0_4) := (YF BK235.out 4).trans rfl; have q7_5 : w6.cell? ⟨gb235, 5, none⟩ = some (.int .i64 a0_5) := (YF BK235.out 5).trans rfl; have f7_0 := YG BK235.out 0; have f7_1 := YG BK235.out 1; have f7_2 := YG BK235.out 2; have f7_3 := YG BK235.out 3; have f7_4 := YG BK235.out 4; have f7_5 := YG BK235.out 5))
    go_ret
    exact ⟨by first | rfl | (simp [errW_none, errW_some] <;> rfl) | (simp [*, errW_none, errW_some] <;> rfl), by repeat (first | (with_reducible first | exact HB.out | apply YA | apply YB | apply YC | refine below_set ?_ GE235.out) | exact HB.out)⟩
  replace c3 := Bool.eq_false_iff.mpr c3
  subst c3
  have H1 : (some false) = some r := by rw [if_neg (show ¬ (false = true) by decide)] at H; exact H
  clear H
  have H := H1
  clear H1
  obtain rfl := Option.some.inj H
  go_enter Try.func48, Try.ntmps48
  go_wp2_with (first | ((with_reducible refine gate_dst (N := 1) rfl ?_); refine box_event ?hg (N := 1) ?hd (cs := #[.bool a0_0, .int .i64 a0_1, .int .i64 a0_2, .int .i64 a0_3, .int .i64 a0_4, .int .i64 a0_5]) (t := 41) ?hr ?_; (case hd => rfl); (case hg => rfl); (case hr => first | (go_simp; done) | (go_simp; rfl)); intro gb235 hg w8 hbox hb; have n0_ := YH (YD (by repeat (first | (with_reducible first | exact HB.out | apply YA | apply YB | apply YC) | exact HB.out)) hb); have n1_ := YH (hbox); have n2_ := YH ((by rw [hg]; exact (YE (by repeat (first | (with_reducible first | exact HB.out | apply YA | apply YB | apply YC) | exact HB.out))) : w.heap.size ≤ gb235)); have n3_ := YH ((by rw [hg]; exact (YE (by repeat (first | (with_reducible first | exact HB.out | apply YA | apply YB | apply YC) | exact HB.out))) : w.heap.size ≤ gb235)); clear HB; have HB := n0_; have BK235 := n1_; have GW235 := n2_; have GE235 := n3_; clear n0_ n1_ n2_ n3_; clear hb hbox hg; have q9_0 : w8.cell? ⟨gb235, 0, none⟩ = some (.bool a0_0) := (YF BK235.out 0).trans rfl; have q9_1 : w8.cell? ⟨gb235, 1, none⟩ = some (.int .i64 a0_1) := (YF BK235.out 1).trans rfl; have q9_2 : w8.cell? ⟨gb235, 2, none⟩ = some (.int .i64 a0_2) := (YF BK235.out 2).trans rfl; have q9_3 : w8.cell? ⟨gb235, 3, none⟩ = some (.int .i64 a0_3) := (YF BK235.out 3).trans rfl; have q9_4 : w8.cell? ⟨gb235, 4, none⟩ = some (.int .i64 a0_4) := (YF BK235.out 4).trans rfl; have q9_5 : w8.cell? ⟨gb235, 5, none⟩ = some (.int .i64 a0_5) := (YF BK235.out 5).trans rfl; have f9_0 := YG BK235.out 0; have f9_1 := YG BK235.out 1; have f9_2 := YG BK235.out 2; have f9_3 := YG BK235.out 3; have f9_4 := YG BK235.out 4; have f9_5 := YG BK235.out 5) | ((with_reducible refine gate_callee (f := 47) rfl ?_); refine goesL_ (some 4) rfl rfl Try.func47 (by kernel_rfl) rfl #[.agg #[.bool a0_0, .int .i64 a0_1, .int .i64 a0_2, .int .i64 a0_3, .int .i64 a0_4, .int .i64 a0_5]] rfl (by (try simp only [List.map_toArray, List.map_cons, List.map_nil]); first | done | rfl | (simp only [List.length_drop, List.length_take]; rfl)) ?_; (with_reducible refine (thalwegref02_Right.calls k a0_0 a0_1 a0_2 a0_3 a0_4 a0_5 false _ A2.out).mono ?_); rintro e w10 ⟨rfl, hb⟩; refine ⟨_, rfl, ?_⟩; have n0_ := YH (blk_below (g := gb235) (o := .cells #[.bool a0_0, .int .i64 a0_1, .int .i64 a0_2, .int .i64 a0_3, .int .i64 a0_4, .int .i64 a0_5] 41 (0, 0)) (by (with_reducible repeat (first | refine blk_drewN ?_ _ | refine blk_drew ?_ | refine blk_alloc ?_ _)); exact BK235.out) hb); have n1_ := YH (YD (by repeat (first | (with_reducible first | exact HB.out | apply YA | apply YB | apply YC | refine below_set ?_ GE235.out) | exact HB.out)) hb); clear BK235; clear HB; have BK235 := n0_; have HB := n1_; clear n0_ n1_; (try clear hb); (try clear hb2); (try clear hk); (try clear hi)))
  go_ret
  exact ⟨by first | rfl | (simp [errW_none, errW_some] <;> rfl) | (simp [*, errW_none, errW_some] <;> rfl), by repeat (first | (with_reducible first | exact HB.out | apply YA | apply YB | apply YC | refine below_set ?_ GE235.out) | exact HB.out)⟩
end Go.Proofs.Ytfigbjjaffkidaa.P
namespace Go.Proofs.Ytfigbjjaffkidaa.P
open Go.RowKit YtfigbjjaffkidaaW.PrintWords YtfigbjjaffkidaaW.PrintLast YtfigbjjaffkidaaW.PrintMore
open YtfigbjjaffkidaaW.PrintWords renaming below_alloc → YA, pw_below_drewN → YB, below_drew1 → YC, below_step → YD, blk_drewN → YE, blk_drew → YF, blk_alloc → YG, blk_cell → YH, blk_frozen → YI
open YtfigbjjaffkidaaW.PrintWords.Aside0 renaming mk → YJ
attribute [local go_sem] max2_int min2_int max_two min_two max_three min_three max_four min_four   -- for this text's walks alone
attribute [local go_sem high] eqA41 eqA43
def thalwegref04_Right.j0 : Nat → Bool → Int → Int → Bool → Int → Int → Int → Int → Int → Int → Int → Int → Int → Option (Bool)
  | 0, _, _, _, _, _, _, _, _, _, _, _, _, _ => none
  | k + 1, x12, x238000, x238001, x238002, x238003, x238004, x238005, x238006, x238007, x238008, x238009, x238010, x238011 => if x12 = true then (some false) else (if x238000 = 1 then (if (x238008 == 0 && (x238009 == 0 && (x238010 == 0))) = true then (if (!x238002 && (x238003 == 0 && (x238004 == 0 && (x238005 == 0 && (x238006 == 0 && (x238007 == 0)))))) = true then (some (x238011 == 0)) else (some false)) else (some false)) else (if x238000 = 2 then (if (x238008 == 0 && (x238009 == 0 && (x238010 == 0))) = true then (if x238011 = 0 then ((thalwegref02_Right.f k x238002 x238003 x238004 x238005 x238006 x238007).bind fun t238 => (some t238)) else (some false)) else (some false)) else (if x238000 = 3 then (if (!x238002 && (x238003 == 0 && (x238004 == 0 && (x238005 == 0 && (x238006 == 0 && (x238007 == 0)))))) = true then (if x238011 = 0 then ((thalwegref02_Right.f k false x238008 x238009 x238010 0 0).bind fun t239 => (some t239)) else (some false)) else (some false)) else (if x238000 = 4 then (if (x238008 == 0 && (x238009 == 0 && (x238010 == 0))) = true then (if x238011 ≥ 0 then (if x238011 ≤ 65535 then ((thalwegref02_Told.f k x238002 x238003 x238004 x238005 x238006 x238007).bind fun t240 => (some t240)) else (some false)) else (some false)) else (some false)) else (some false)))))
def thalwegref04_Right.f (k : Nat) (a0_0 : Int) (a0_1 : Int) (a0_2 : Bool) (a0_3 : Int) (a0_4 : Int) (a0_5 : Int) (a0_6 : Int) (a0_7 : Int) (a0_8 : Int) (a0_9 : Int) (a0_10 : Int) (a0_11 : Int) : Option (Bool) := if a0_1 < 0 then (thalwegref04_Right.j0 k true a0_0 a0_1 a0_2 a0_3 a0_4 a0_5 a0_6 a0_7 a0_8 a0_9 a0_10 a0_11) else (thalwegref04_Right.j0 k (decide (a0_1 ≥ 64)) a0_0 a0_1 a0_2 a0_3 a0_4 a0_5 a0_6 a0_7 a0_8 a0_9 a0_10 a0_11)
set_option maxHeartbeats 8000000 in
set_option maxRecDepth 100000 in
theorem thalwegref04_Right.calls (k : Nat) (a0_0 : Int) (a0_1 : Int) (a0_2 : Bool) (a0_3 : Int) (a0_4 : Int) (a0_5 : Int) (a0_6 : Int) (a0_7 : Int) (a0_8 : Int) (a0_9 : Int) (a0_10 : Int) (a0_11 : Int) (r : Bool) (w : World) (h : thalwegref04_Right.f k a0_0 a0_1 a0_2 a0_3 a0_4 a0_5 a0_6 a0_7 a0_8 a0_9 a0_10 a0_11 = some r) :
    Calls Try.prog 37 #[.agg #[.int .i64 a0_0, .int .i64 a0_1, .bool a0_2, .int .i64 a0_3, .int .i64 a0_4, .int .i64 a0_5, .int .i64 a0_6, .int .i64 a0_7, .int .i64 a0_8, .int .i64 a0_9, .int .i64 a0_10, .int .i64 a0_11]] w fun e w' => e = .returned (.bool r) ∧ Below w.heap.size w w' := by
  have hu45 := Try.underlying45
  have hu43 := Try.underlying43
  have hu41 := Try.underlying41
  have HB := YJ (Below.refl w.heap.size w)
  have H : (if a0_1 < 0 then (thalwegref04_Right.j0 k true a0_0 a0_1 a0_2 a0_3 a0_4 a0_5 a0_6 a0_7 a0_8 a0_9 a0_10 a0_11) else (thalwegref04_Right.j0 k (decide (a0_1 ≥ 64)) a0_0 a0_1 a0_2 a0_3 a0_4 a0_5 a0_6 a0_7 a0_8 a0_9 a0_10 a0_11)) = some r := h
  clear h; have HC2 := YJ H; clear H
  go_enter Try.func37, Try.ntmps37
  go_upto_region 1 with (first | ((with_reducible refine gate_dst (N := 1) rfl ?_); refine box_event ?hg (N := 1) ?hd (cs := #[.int .i64 a0_0, .int .i64 a0_1, .bool a0_2, .int .i64 a0_3, .int .i64 a0_4, .int .i64 a0_5, .int .i64 a0_6, .int .i64 a0_7, .int .i64 a0_8, .int .i64 a0_9, .int .i64 a0_10, .int .i64 a0_11]) (t := 45) ?hr ?_; (case hd => rfl); (case hg => rfl); (case hr => first | (go_simp; done) | (go_simp; rfl)); intro gb237 hg w3 hbox hb; have n0_ := YJ (YD (by repeat (first | (with_reducible first | exact HB.out | apply YA | apply YB | apply YC) | exact HB.out)) hb); have n1_ := YJ (hbox); have n2_ := YJ ((by rw [hg]; exact (below_size (by repeat (first | (with_reducible first | exact HB.out | apply YA | apply YB | apply YC) | exact HB.out))) : w.heap.size ≤ gb237)); have n3_ := YJ ((by rw [hg]; exact (below_size (by repeat (first | (with_reducible first | exact HB.out | apply YA | apply YB | apply YC) | exact HB.out))) : w.heap.size ≤ gb237)); clear HB; have HB := n0_; have BK237 := n1_; have GW237 := n2_; have GE237 := n3_; clear n0_ n1_ n2_ n3_; clear hb hbox hg))
  (try simp only [Act.put, List.setIfInBounds_toArray, List.set_cons_zero, List.set_cons_succ])
  go_cut [12] (fun v12 wc => ∃ (kq : Nat) (x12_1 : Bool), v12 = .bool x12_1 ∧ Aside0 (thalwegref04_Right.j0 kq x12_1 a0_0 a0_1 a0_2 a0_3 a0_4 a0_5 a0_6 a0_7 a0_8 a0_9 a0_10 a0_11 = some r) ∧ Aside0 (kq ≤ k) ∧ Aside0 (wc.heap[gb237]? = some (.cells #[.int .i64 a0_0, .int .i64 a0_1, .bool a0_2, .int .i64 a0_3, .int .i64 a0_4, .int .i64 a0_5, .int .i64 a0_6, .int .i64 a0_7, .int .i64 a0_8, .int .i64 a0_9, .int .i64 a0_10, .int .i64 a0_11] 45 (0, 0))) ∧ Aside0 (Below w.heap.size w wc))
  case first =>
    have H := HC2.out
    clear HC2
    by_cases c4 : a0_1 < 0
    · rw [if_pos c4] at H
      have c4b0 : decide (a0_1 < 0) = true := decide_eq_true c4; clear c4
      (first | rw [c4b0] | (simp only [i64_w, i32_w]; rw [c4b0]) | skip)
      have H' := YJ H
      clear H
      have q5_0 : w3.cell? ⟨gb237, 0, none⟩ = some (.int .i64 a0_0) := (YH BK237.out 0).trans rfl
      have q5_1 : w3.cell? ⟨gb237, 1, none⟩ = some (.int .i64 a0_1) := (YH BK237.out 1).trans rfl
      have q5_2 : w3.cell? ⟨gb237, 2, none⟩ = some (.bool a0_2) := (YH BK237.out 2).trans rfl
      have q5_3 : w3.cell? ⟨gb237, 3, none⟩ = some (.int .i64 a0_3) := (YH BK237.out 3).trans rfl
      have q5_4 : w3.cell? ⟨gb237, 4, none⟩ = some (.int .i64 a0_4) := (YH BK237.out 4).trans rfl
      have q5_5 : w3.cell? ⟨gb237, 5, none⟩ = some (.int .i64 a0_5) := (YH BK237.out 5).trans rfl
      have q5_6 : w3.cell? ⟨gb237, 6, none⟩ = some (.int .i64 a0_6) := (YH BK237.out 6).trans rfl
      have q5_7 : w3.cell? ⟨gb237, 7, none⟩ = some (.int .i64 a0_7) := (YH BK237.out 7).trans rfl
      have q5_8 : w3.cell? ⟨gb237, 8, none⟩ = some (.int .i64 a0_8) := (YH BK237.out 8).trans rfl
      have q5_9 : w3.cell? ⟨gb237, 9, none⟩ = some (.int .i64 a0_9) := (YH BK237.out 9).trans rfl
      have q5_10 : w3.cell? ⟨gb237, 10, none⟩ = some (.int .i64 a0_10) := (YH BK237.out 10).trans rfl
      have q5_11 : w3.cell? ⟨gb237, 11, none⟩ = some (.int .i64 a0_11) := (YH BK237.out 11).trans rfl
      have f5_0 := YI BK237.out 0
      have f5_1 := YI BK237.out 1
      have f5_2 := YI BK237.out 2
      have f5_3 := YI BK237.out 3
      have f5_4 := YI BK237.out 4
      have f5_5 := YI BK237.out 5
      have f5_6 := YI BK237.out 6
      have f5_7 := YI BK237.out 7
      have f5_8 := YI BK237.out 8
      have f5_9 := YI BK237.out 9
      have f5_10 := YI BK237.out 10
      have f5_11 := YI BK237.out 11
      go_wp2
      go_meet
      case rel => exact ⟨_, (true), (by first | rfl | (simp; done) | (simp [*]; done)), H', ⟨by first | omega | exact Nat.le_refl _⟩, ⟨by (with_reducible repeat (first | refine YE ?_ _ | refine YF ?_ | refine YG ?_ _)); exact BK237.out⟩, ⟨by repeat (first | (with_reducible first | exact HB.out | apply YA | apply YB | apply YC | refine below_set ?_ GE237.out) | exact HB.out)⟩⟩
    rw [if_neg c4] at H; have c4b0 : decide (a0_1 < 0) = false := decide_eq_false c4; clear c4
    (first | rw [c4b0] | (simp only [i64_w, i32_w]; rw [c4b0]) | skip)
    have H' := YJ H
    clear H
    have q6_0 : w3.cell? ⟨gb237, 0, none⟩ = some (.int .i64 a0_0) := (YH BK237.out 0).trans rfl
    have q6_1 : w3.cell? ⟨gb237, 1, none⟩ = some (.int .i64 a0_1) := (YH BK237.out 1).trans rfl
    have q6_2 : w3.cell? ⟨gb237, 2, none⟩ = some (.bool a0_2) := (YH BK237.out 2).trans rfl
    have q6_3 : w3.cell? ⟨gb237, 3, none⟩ = some (.int .i64 a0_3) := (YH BK237.out 3).trans rfl
    have q6_4 : w3.cell? ⟨gb237, 4, none⟩ = some (.int .i64 a0_4) := (YH BK237.out 4).trans rfl
    have q6_5 : w3.cell? ⟨gb237, 5, none⟩ = some (.int .i64 a0_5) := (YH BK237.out 5).trans rfl
    have q6_6 : w3.cell? ⟨gb237, 6, none⟩ = some (.int .i64 a0_6) := (YH BK237.out 6).trans rfl
    have q6_7 : w3.cell? ⟨gb237, 7, none⟩ = some (.int .i64 a0_7) := (YH BK237.out 7).trans rfl
    have q6_8 : w3.cell? ⟨gb237, 8, none⟩ = some (.int .i64 a0_8) := (YH BK237.out 8).trans rfl
    have q6_9 : w3.cell? ⟨gb237, 9, none⟩ = some (.int .i64 a0_9) := (YH BK237.out 9).trans rfl
    have q6_10 : w3.cell? ⟨gb237, 10, none⟩ = some (.int .i64 a0_10) := (YH BK237.out 10).trans rfl
    have q6_11 : w3.cell? ⟨gb237, 11, none⟩ = some (.int .i64 a0_11) := (YH BK237.out 11).trans rfl
    have f6_0 := YI BK237.out 0
    have f6_1 := YI BK237.out 1
    have f6_2 := YI BK237.out 2
    have f6_3 := YI BK237.out 3
    have f6_4 := YI BK237.out 4
    have f6_5 := YI BK237.out 5
    have f6_6 := YI BK237.out 6
    have f6_7 := YI BK237.out 7
    have f6_8 := YI BK237.out 8
    have f6_9 := YI BK237.out 9
    have f6_10 := YI BK237.out 10
    have f6_11 := YI BK237.out 11
    go_wp2
    go_meet
    case rel => exact ⟨_, (decide (a0_1 ≥ 64)), (by first | rfl | (simp; done) | (simp [*]; done)), H', ⟨by first | omega | exact Nat.le_refl _⟩, ⟨by (with_reducible repeat (first | refine YE ?_ _ | refine YF ?_ | refine YG ?_ _)); exact BK237.out⟩, ⟨by repeat (first | (with_reducible first | exact HB.out | apply YA | apply YB | apply YC | refine below_set ?_ GE237.out) | exact HB.out)⟩⟩
  case rest =>
    clear HC2
    try clear p2; try clear c3
    try clear c4; try clear c4b0
    try clear q5_0; try clear q5_1
    try clear q5_10; try clear q5_11
    try clear q5_2; try clear q5_3
    try clear q5_4; try clear q5_5
    try clear q5_6; try clear q5_7
    try clear q5_8; try clear q5_9
    try clear q6_0; try clear q6_1
    try clear q6_10; try clear q6_11
    try clear q6_2; try clear q6_3
    try clear q6_4; try clear q6_5
    try clear q6_6; try clear q6_7
    try clear q6_8; try clear q6_9
    try clear f5_0; try clear f5_1
    try clear f5_10; try clear f5_11
    try clear f5_2; try clear f5_3
    try clear f5_4; try clear f5_5
    try clear f5_6; try clear f5_7
    try clear f5_8; try clear f5_9
    try clear f6_0; try clear f6_1
    try clear f6_10; try clear f6_11
    try clear f6_2; try clear f6_3
    try clear f6_4; try clear f6_5
    try clear f6_6; try clear f6_7
    try clear f6_8; try clear f6_9
    obtain ⟨kq, x12_1, rfl, HA, HJ1, BK237, HB⟩ := hcut
    cases kq with
    | zero => exact absurd HA.out (by simp [thalwegref04_Right.j0])
    | succ kj1 =>
      have H := HA.out
      clear HA
      simp only [thalwegref04_Right.j0] at H
      by_cases c7 : x12_1 = true
      · subst c7
        have H1 : (some false) = some r := by rw [if_pos rfl] at H; exact H
        clear H
        have H := H1
        clear H1
        obtain rfl := Option.some.inj H
        go_wp2
        go_ret
        exact ⟨by first | rfl | (simp [errW_none, errW_some] <;> rfl) | (simp [*, errW_none, errW_some] <;> rfl), by repeat (first | (with_reducible first | exact HB.out | apply YA | apply YB | apply YC | refine below_set ?_ GE237.out) | exact HB.out)⟩
      replace c7 := Bool.eq_false_iff.mpr c7
      subst c7
      have H1 : (if a0_0 = 1 then (if (a0_8 == 0 && (a0_9 == 0 && (a0_10 == 0))) = true then (if (!a0_2 && (a0_3 == 0 && (a0_4 == 0 && (a0_5 == 0 && (a0_6 == 0 && (a0_7 == 0)))))) = true then (some (a0_11 == 0)) else (some false)) else (some false)) else (if a0_0 = 2 then (if (a0_8 == 0 && (a0_9 == 0 && (a0_10 == 0))) = true then (if a0_11 = 0 then ((thalwegref02_Right.f kj1 a0_2 a0_3 a0_4 a0_5 a0_6 a0_7).bind fun t238 => (some t238)) else (some false)) else (some false)) else (if a0_0 = 3 then (if (!a0_2 && (a0_3 == 0 && (a0_4 == 0 && (a0_5 == 0 && (a0_6 == 0 && (a0_7 == 0)))))) = true then (if a0_11 = 0 then ((thalwegref02_Right.f kj1 false a0_8 a0_9 a0_10 0 0).bind fun t239 => (some t239)) else (some false)) else (some false)) else (if a0_0 = 4 then (if (a0_8 == 0 && (a0_9 == 0 && (a0_10 == 0))) = true then (if a0_11 ≥ 0 then (if a0_11 ≤ 65535 then ((thalwegref02_Told.f kj1 a0_2 a0_3 a0_4 a0_5 a0_6 a0_7).bind fun t240 => (some t240)) else (some false)) else (some false)) else (some false)) else (some false))))) = some r := by rw [if_neg (show ¬ (false = true) by decide)] at H; exact H
      clear H
      have H := H1
      clear H1
      by_cases c8 : a0_0 = 1
      · rw [if_pos c8] at H
        have c8b0 : (a0_0 == 1) = true := beq_iff_eq.mpr c8
        have c8b1 : (a0_0 != 1) = false := bne_eq_false_iff_eq.mpr c8
        clear c8
        by_cases c9 : (a0_8 == 0 && (a0_9 == 0 && (a0_10 == 0))) = true
        · rw [if_pos c9] at H
          have c9b0 : (a0_8 == 0 && (a0_9 == 0 && (a0_10 == 0))) = true := c9
          (try (have c9b1 : decide (a0_8 = 0 && (a0_9 == 0 && (a0_10 == 0))) = true := by simpa using c9))
          (try (have c9b2 : (a0_8 == 0 && (a0_9 == 0 && (a0_10 == 0))) = true := by simpa using c9))
          clear c9
          by_cases c10 : (!a0_2 && (a0_3 == 0 && (a0_4 == 0 && (a0_5 == 0 && (a0_6 == 0 && (a0_7 == 0)))))) = true
          · rw [if_pos c10] at H
            have c10b0 : (!a0_2 && (a0_3 == 0 && (a0_4 == 0 && (a0_5 == 0 && (a0_6 == 0 && (a0_7 == 0)))))) = true := c10
            clear c10
            obtain rfl := Option.some.inj H
            have q11_0 : wc.cell? ⟨gb237, 0, none⟩ = some (.int .i64 a0_0) := (YH BK237.out 0).trans rfl
            have q11_1 : wc.cell? ⟨gb237, 1, none⟩ = some (.int .i64 a0_1) := (YH BK237.out 1).trans rfl
            have q11_2 : wc.cell? ⟨gb237, 2, none⟩ = some (.bool a0_2) := (YH BK237.out 2).trans rfl
            have q11_3 : wc.cell? ⟨gb237, 3, none⟩ = some (.int .i64 a0_3) := (YH BK237.out 3).trans rfl
            have q11_4 : wc.cell? ⟨gb237, 4, none⟩ = some (.int .i64 a0_4) := (YH BK237.out 4).trans rfl
            have q11_5 : wc.cell? ⟨gb237, 5, none⟩ = some (.int .i64 a0_5) := (YH BK237.out 5).trans rfl
            have q11_6 : wc.cell? ⟨gb237, 6, none⟩ = some (.int .i64 a0_6) := (YH BK237.out 6).trans rfl
            have q11_7 : wc.cell? ⟨gb237, 7, none⟩ = some (.int .i64 a0_7) := (YH BK237.out 7).trans rfl
            have q11_8 : wc.cell? ⟨gb237, 8, none⟩ = some (.int .i64 a0_8) := (YH BK237.out 8).trans rfl
            have q11_9 : wc.cell? ⟨gb237, 9, none⟩ = some (.int .i64 a0_9) := (YH BK237.out 9).trans rfl
            have q11_10 : wc.cell? ⟨gb237, 10, none⟩ = some (.int .i64 a0_10) := (YH BK237.out 10).trans rfl
            have q11_11 : wc.cell? ⟨gb237, 11, none⟩ = some (.int .i64 a0_11) := (YH BK237.out 11).trans rfl
            have f11_0 := YI BK237.out 0
            have f11_1 := YI BK237.out 1
            have f11_2 := YI BK237.out 2
            have f11_3 := YI BK237.out 3
            have f11_4 := YI BK237.out 4
            have f11_5 := YI BK237.out 5
            have f11_6 := YI BK237.out 6
            have f11_7 := YI BK237.out 7
            have f11_8 := YI BK237.out 8
            have f11_9 := YI BK237.out 9
            have f11_10 := YI BK237.out 10
            have f11_11 := YI BK237.out 11
            go_wp2
            go_ret
            exact ⟨by first | rfl | (simp [errW_none, errW_some] <;> rfl) | (simp [*, errW_none, errW_some] <;> rfl), by repeat (first | (with_reducible first | exact HB.out | apply YA | apply YB | apply YC | refine below_set ?_ GE237.out) | exact HB.out)⟩
          rw [if_neg c10] at H
          have c10b0 : (!a0_2 && (a0_3 == 0 && (a0_4 == 0 && (a0_5 == 0 && (a0_6 == 0 && (a0_7 == 0)))))) = false := by simpa using c10
          clear c10
          obtain rfl := Option.some.inj H
          have q12_0 : wc.cell? ⟨gb237, 0, none⟩ = some (.int .i64 a0_0) := (YH BK237.out 0).trans rfl
          have q12_1 : wc.cell? ⟨gb237, 1, none⟩ = some (.int .i64 a0_1) := (YH BK237.out 1).trans rfl
          have q12_2 : wc.cell? ⟨gb237, 2, none⟩ = some (.bool a0_2) := (YH BK237.out 2).trans rfl
          have q12_3 : wc.cell? ⟨gb237, 3, none⟩ = some (.int .i64 a0_3) := (YH BK237.out 3).trans rfl
          have q12_4 : wc.cell? ⟨gb237, 4, none⟩ = some (.int .i64 a0_4) := (YH BK237.out 4).trans rfl
          have q12_5 : wc.cell? ⟨gb237, 5, none⟩ = some (.int .i64 a0_5) := (YH BK237.out 5).trans rfl
          have q12_6 : wc.cell? ⟨gb237, 6, none⟩ = some (.int .i64 a0_6) := (YH BK237.out 6).trans rfl
          have q12_7 : wc.cell? ⟨gb237, 7, none⟩ = some (.int .i64 a0_7) := (YH BK237.out 7).trans rfl
          have q12_8 : wc.cell? ⟨gb237, 8, none⟩ = some (.int .i64 a0_8) := (YH BK237.out 8).trans rfl
          have q12_9 : wc.cell? ⟨gb237, 9, none⟩ = some (.int .i64 a0_9) := (YH BK237.out 9).trans rfl
          have q12_10 : wc.cell? ⟨gb237, 10, none⟩ = some (.int .i64 a0_10) := (YH BK237.out 10).trans rfl
          have q12_11 : wc.cell? ⟨gb237, 11, none⟩ = some (.int .i64 a0_11) := (YH BK237.out 11).trans rfl
          have f12_0 := YI BK237.out 0
          have f12_1 := YI BK237.out 1
          have f12_2 := YI BK237.out 2
          have f12_3 := YI BK237.out 3
          have f12_4 := YI BK237.out 4
          have f12_5 := YI BK237.out 5
          have f12_6 := YI BK237.out 6
          have f12_7 := YI BK237.out 7
          have f12_8 := YI BK237.out 8
          have f12_9 := YI BK237.out 9
          have f12_10 := YI BK237.out 10
          have f12_11 := YI BK237.out 11
          go_wp2
          go_ret
          exact ⟨by first | rfl | (simp [errW_none, errW_some] <;> rfl) | (simp [*, errW_none, errW_some] <;> rfl), by repeat (first | (with_reducible first | exact HB.out | apply YA | apply YB | apply YC | refine below_set ?_ GE237.out) | exact HB.out)⟩
        rw [if_neg c9] at H
        have c9b0 : (a0_8 == 0 && (a0_9 == 0 && (a0_10 == 0))) = false := by simpa using c9
        (try (have c9b1 : decide (a0_8 = 0 && (a0_9 == 0 && (a0_10 == 0))) = false := by simpa using c9))
        (try (have c9b2 : (a0_8 == 0 && (a0_9 == 0 && (a0_10 == 0))) = false := by simpa using c9))
        (try (have c9b3 : ¬ (a0_8 = 0 && (a0_9 == 0 && (a0_10 == 0))) := by simpa using c9))
        clear c9
        obtain rfl := Option.some.inj H
        have q13_0 : wc.cell? ⟨gb237, 0, none⟩ = some (.int .i64 a0_0) := (YH BK237.out 0).trans rfl
        have q13_1 : wc.cell? ⟨gb237, 1, none⟩ = some (.int .i64 a0_1) := (YH BK237.out 1).trans rfl
        have q13_2 : wc.cell? ⟨gb237, 2, none⟩ = some (.bool a0_2) := (YH BK237.out 2).trans rfl
        have q13_3 : wc.cell? ⟨gb237, 3, none⟩ = some (.int .i64 a0_3) := (YH BK237.out 3).trans rfl
        have q13_4 : wc.cell? ⟨gb237, 4, none⟩ = some (.int .i64 a0_4) := (YH BK237.out 4).trans rfl
        have q13_5 : wc.cell? ⟨gb237, 5, none⟩ = some (.int .i64 a0_5) := (YH BK237.out 5).trans rfl
        have q13_6 : wc.cell? ⟨gb237, 6, none⟩ = some (.int .i64 a0_6) := (YH BK237.out 6).trans rfl
        have q13_7 : wc.cell? ⟨gb237, 7, none⟩ = some (.int .i64 a0_7) := (YH BK237.out 7).trans rfl
        have q13_8 : wc.cell? ⟨gb237, 8, none⟩ = some (.int .i64 a0_8) := (YH BK237.out 8).trans rfl
        have q13_9 : wc.cell? ⟨gb237, 9, none⟩ = some (.int .i64 a0_9) := (YH BK237.out 9).trans rfl
        have q13_10 : wc.cell? ⟨gb237, 10, none⟩ = some (.int .i64 a0_10) := (YH BK237.out 10).trans rfl
        have q13_11 : wc.cell? ⟨gb237, 11, none⟩ = some (.int .i64 a0_11) := (YH BK237.out 11).trans rfl
        have f13_0 := YI BK237.out 0
        have f13_1 := YI BK237.out 1
        have f13_2 := YI BK237.out 2
        have f13_3 := YI BK237.out 3
        have f13_4 := YI BK237.out 4
        have f13_5 := YI BK237.out 5
        have f13_6 := YI BK237.out 6
        have f13_7 := YI BK237.out 7
        have f13_8 := YI BK237.out 8
        have f13_9 := YI BK237.out 9
        have f13_10 := YI BK237.out 10
        have f13_11 := YI BK237.out 11
        go_wp2
        go_ret
        exact ⟨by first | rfl | (simp [errW_none, errW_some] <;> rfl) | (simp [*, errW_none, errW_some] <;> rfl), by repeat (first | (with_reducible first | exact HB.out | apply YA | apply YB | apply YC | refine below_set ?_ GE237.out) | exact HB.out)⟩
      rw [if_neg c8] at H
      have c8b0 : (a0_0 == 1) = false := beq_eq_false_iff_ne.mpr c8
      have c8b1 : (a0_0 != 1) = true := bne_iff_ne.mpr c8
      by_cases c14 : a0_0 = 2
      · rw [if_pos c14] at H
        have c14b0 : (a0_0 == 2) = true := beq_iff_eq.mpr c14
        have c14b1 : (a0_0 != 2) = false := bne_eq_false_iff_eq.mpr c14
        clear c14
        by_cases c15 : (a0_8 == 0 && (a0_9 == 0 && (a0_10 == 0))) = true
        · rw [if_pos c15] at H
          have c15b0 : (a0_8 == 0 && (a0_9 == 0 && (a0_10 == 0))) = true := c15
          (try (have c15b1 : decide (a0_8 = 0 && (a0_9 == 0 && (a0_10 == 0))) = true := by simpa using c15))
          (try (have c15b2 : (a0_8 == 0 && (a0_9 == 0 && (a0_10 == 0))) = true := by simpa using c15))
          clear c15
          by_cases c16 : a0_11 = 0
          · rw [if_pos c16] at H
            have c16b0 : (a0_11 == 0) = true := beq_iff_eq.mpr c16
            have c16b1 : (a0_11 != 0) = false := bne_eq_false_iff_eq.mpr c16
            clear c16; replace H := Option.bind_eq_some_iff.mp H; obtain ⟨t238, A170, H⟩ := H
            replace H : (some t238) = some r := H
            have A17 := YJ A170; clear A170
            obtain rfl := Option.some.inj H
            have q18_0 : wc.cell? ⟨gb237, 0, none⟩ = some (.int .i64 a0_0) := (YH BK237.out 0).trans rfl
            have q18_1 : wc.cell? ⟨gb237, 1, none⟩ = some (.int .i64 a0_1) := (YH BK237.out 1).trans rfl
            have q18_2 : wc.cell? ⟨gb237, 2, none⟩ = some (.bool a0_2) := (YH BK237.out 2).trans rfl
            have q18_3 : wc.cell? ⟨gb237, 3, none⟩ = some (.int .i64 a0_3) := (YH BK237.out 3).trans rfl
            have q18_4 : wc.cell? ⟨gb237, 4, none⟩ = some (.int .i64 a0_4) := (YH BK237.out 4).trans rfl
            have q18_5 : wc.cell? ⟨gb237, 5, none⟩ = some (.int .i64 a0_5) := (YH BK237.out 5).trans rfl
            have q18_6 : wc.cell? ⟨gb237, 6, none⟩ = some (.int .i64 a0_6) := (YH BK237.out 6).trans rfl
            have q18_7 : wc.cell? ⟨gb237, 7, none⟩ = some (.int .i64 a0_7) := (YH BK237.out 7).trans rfl
            have q18_8 : wc.cell? ⟨gb237, 8, none⟩ = some (.int .i64 a0_8) := (YH BK237.out 8).trans rfl
            have q18_9 : wc.cell? ⟨gb237, 9, none⟩ = some (.int .i64 a0_9) := (YH BK237.out 9).trans rfl
            have q18_10 : wc.cell? ⟨gb237, 10, none⟩ = some (.int .i64 a0_10) := (YH BK237.out 10).trans rfl
            have q18_11 : wc.cell? ⟨gb237, 11, none⟩ = some (.int .i64 a0_11) := (YH BK237.out 11).trans rfl
            have f18_0 := YI BK237.out 0
            have f18_1 := YI BK237.out 1
            have f18_2 := YI BK237.out 2
            have f18_3 := YI BK237.out 3
            have f18_4 := YI BK237.out 4
            have f18_5 := YI BK237.out 5
            have f18_6 := YI BK237.out 6
            have f18_7 := YI BK237.out 7
            have f18_8 := YI BK237.out 8
            have f18_9 := YI BK237.out 9
            have f18_10 := YI BK237.out 10
            have f18_11 := YI BK237.out 11
            go_wp2_with (first | (go_at_call 47; (with_reducible refine (thalwegref02_Right.calls kj1 a0_2 a0_3 a0_4 a0_5 a0_6 a0_7 t238 _ A17.out).mono ?_); rintro e w19 ⟨rfl, hb⟩; have n0_ := YJ (blk_below (g := gb237) (o := .cells #[.int .i64 a0_0, .int .i64 a0_1, .bool a0_2, .int .i64 a0_3, .int .i64 a0_4, .int .i64 a0_5, .int .i64 a0_6, .int .i64 a0_7, .int .i64 a0_8, .int .i64 a0_9, .int .i64 a0_10, .int .i64 a0_11] 45 (0, 0)) (by (with_reducible repeat (first | refine YE ?_ _ | refine YF ?_ | refine YG ?_ _)); exact BK237.out) hb); have n1_ := YJ (YD (by repeat (first | (with_reducible first | exact HB.out | apply YA | apply YB | apply YC | refine below_set ?_ GE237.out) | exact HB.out)) hb); clear BK237; clear HB; have BK237 := n0_; have HB := n1_; clear n0_ n1_; (try clear hb); (try clear hb2); (try clear hk); (try clear hi)))
            go_ret
            exact ⟨by first | rfl | (simp [errW_none, errW_some] <;> rfl) | (simp [*, errW_none, errW_some] <;> rfl), by repeat (first | (with_reducible first | exact HB.out | apply YA | apply YB | apply YC | refine below_set ?_ GE237.out) | exact HB.out)⟩
          rw [if_neg c16] at H
          have c16b0 : (a0_11 == 0) = false := beq_eq_false_iff_ne.mpr c16
          have c16b1 : (a0_11 != 0) = true := bne_iff_ne.mpr c16
          obtain rfl := Option.some.inj H
          have q20_0 : wc.cell? ⟨gb237, 0, none⟩ = some (.int .i64 a0_0) := (YH BK237.out 0).trans rfl
          have q20_1 : wc.cell? ⟨gb237, 1, none⟩ = some (.int .i64 a0_1) := (YH BK237.out 1).trans rfl
          have q20_2 : wc.cell? ⟨gb237, 2, none⟩ = some (.bool a0_2) := (YH BK237.out 2).trans rfl
          have q20_3 : wc.cell? ⟨gb237, 3, none⟩ = some (.int .i64 a0_3) := (YH BK237.out 3).trans rfl
          have q20_4 : wc.cell? ⟨gb237, 4, none⟩ = some (.int .i64 a0_4) := (YH BK237.out 4).trans rfl
          have q20_5 : wc.cell? ⟨gb237, 5, none⟩ = some (.int .i64 a0_5) := (YH BK237.out 5).trans rfl
          have q20_6 : wc.cell? ⟨gb237, 6, none⟩ = some (.int .i64 a0_6) := (YH BK237.out 6).trans rfl
          have q20_7 : wc.cell? ⟨gb237, 7, none⟩ = some (.int .i64 a0_7) := (YH BK237.out 7).trans rfl
          have q20_8 : wc.cell? ⟨gb237, 8, none⟩ = some (.int .i64 a0_8) := (YH BK237.out 8).trans rfl
          have q20_9 : wc.cell? ⟨gb237, 9, none⟩ = some (.int .i64 a0_9) := (YH BK237.out 9).trans rfl
          have q20_10 : wc.cell? ⟨gb237, 10, none⟩ = some (.int .i64 a0_10) := (YH BK237.out 10).trans rfl
          have q20_11 : wc.cell? ⟨gb237, 11, none⟩ = some (.int .i64 a0_11) := (YH BK237.out 11).trans rfl
          have f20_0 := YI BK237.out 0
          have f20_1 := YI BK237.out 1
          have f20_2 := YI BK237.out 2
          have f20_3 := YI BK237.out 3
          have f20_4 := YI BK237.out 4
          have f20_5 := YI BK237.out 5
          have f20_6 := YI BK237.out 6
          have f20_7 := YI BK237.out 7
          have f20_8 := YI BK237.out 8
          have f20_9 := YI BK237.out 9
          have f20_10 := YI BK237.out 10
          have f20_11 := YI BK237.out 11
          go_wp2
          go_ret
          exact ⟨by first | rfl | (simp [errW_none, errW_some] <;> rfl) | (simp [*, errW_none, errW_some] <;> rfl), by repeat (first | (with_reducible first | exact HB.out | apply YA | apply YB | apply YC | refine below_set ?_ GE237.out) | exact HB.out)⟩
        rw [if_neg c15] at H
        have c15b0 : (a0_8 == 0 && (a0_9 == 0 && (a0_10 == 0))) = false := by simpa using c15
        (try (have c15b1 : decide (a0_8 = 0 && (a0_9 == 0 && (a0_10 == 0))) = false := by simpa using c15))
        (try (have c15b2 : (a0_8 == 0 && (a0_9 == 0 && (a0_10 == 0))) = false := by simpa using c15))
        (try (have c15b3 : ¬ (a0_8 = 0 && (a0_9 == 0 && (a0_10 == 0))) := by simpa using c15))
        clear c15
        obtain rfl := Option.some.inj H
        have q21_0 : wc.cell? ⟨gb237, 0, none⟩ = some (.int .i64 a0_0) := (YH BK237.out 0).trans rfl
        have q21_1 : wc.cell? ⟨gb237, 1, none⟩ = some (.int .i64 a0_1) := (YH BK237.out 1).trans rfl
        have q21_2 : wc.cell? ⟨gb237, 2, none⟩ = some (.bool a0_2) := (YH BK237.out 2).trans rfl
        have q21_3 : wc.cell? ⟨gb237, 3, none⟩ = some (.int .i64 a0_3) := (YH BK237.out 3).trans rfl
        have q21_4 : wc.cell? ⟨gb237, 4, none⟩ = some (.int .i64 a0_4) := (YH BK237.out 4).trans rfl
        have q21_5 : wc.cell? ⟨gb237, 5, none⟩ = some (.int .i64 a0_5) := (YH BK237.out 5).trans rfl
        have q21_6 : wc.cell? ⟨gb237, 6, none⟩ = some (.int .i64 a0_6) := (YH BK237.out 6).trans rfl
        have q21_7 : wc.cell? ⟨gb237, 7, none⟩ = some (.int .i64 a0_7) := (YH BK237.out 7).trans rfl
        have q21_8 : wc.cell? ⟨gb237, 8, none⟩ = some (.int .i64 a0_8) := (YH BK237.out 8).trans rfl
        have q21_9 : wc.cell? ⟨gb237, 9, none⟩ = some (.int .i64 a0_9) := (YH BK237.out 9).trans rfl
        have q21_10 : wc.cell? ⟨gb237, 10, none⟩ = some (.int .i64 a0_10) := (YH BK237.out 10).trans rfl
        have q21_11 : wc.cell? ⟨gb237, 11, none⟩ = some (.int .i64 a0_11) := (YH BK237.out 11).trans rfl
        have f21_0 := YI BK237.out 0
        have f21_1 := YI BK237.out 1
        have f21_2 := YI BK237.out 2
        have f21_3 := YI BK237.out 3
        have f21_4 := YI BK237.out 4
        have f21_5 := YI BK237.out 5
        have f21_6 := YI BK237.out 6
        have f21_7 := YI BK237.out 7
        have f21_8 := YI BK237.out 8
        have f21_9 := YI BK237.out 9
        have f21_10 := YI BK237.out 10
        have f21_11 := YI BK237.out 11
        go_wp2
        go_ret
        exact ⟨by first | rfl | (simp [errW_none, errW_some] <;> rfl) | (simp [*, errW_none, errW_some] <;> rfl), by repeat (first | (with_reducible first | exact HB.out | apply YA | apply YB | apply YC | refine below_set ?_ GE237.out) | exact HB.out)⟩
      rw [if_neg c14] at H
      have c14b0 : (a0_0 == 2) = false := beq_eq_false_iff_ne.mpr c14
      have c14b1 : (a0_0 != 2) = true := bne_iff_ne.mpr c14
      by_cases c22 : a0_0 = 3
      · rw [if_pos c22] at H
        have c22b0 : (a0_0 == 3) = true := beq_iff_eq.mpr c22
        have c22b1 : (a0_0 != 3) = false := bne_eq_false_iff_eq.mpr c22
        clear c22
        by_cases c23 : (!a0_2 && (a0_3 == 0 && (a0_4 == 0 && (a0_5 == 0 && (a0_6 == 0 && (a0_7 == 0)))))) = true
        · rw [if_pos c23] at H
          have c23b0 : (!a0_2 && (a0_3 == 0 && (a0_4 == 0 && (a0_5 == 0 && (a0_6 == 0 && (a0_7 == 0)))))) = true := c23
          clear c23
          by_cases c24 : a0_11 = 0
          · rw [if_pos c24] at H
            have c24b0 : (a0_11 == 0) = true := beq_iff_eq.mpr c24
            have c24b1 : (a0_11 != 0) = false := bne_eq_false_iff_eq.mpr c24
            clear c24; replace H := Option.bind_eq_some_iff.mp H; obtain ⟨t239, A250, H⟩ := H
            replace H : (some t239) = some r := H
            have A25 := YJ A250; clear A250
            obtain rfl := Option.some.inj H
            have q26_0 : wc.cell? ⟨gb237, 0, none⟩ = some (.int .i64 a0_0) := (YH BK237.out 0).trans rfl
            have q26_1 : wc.cell? ⟨gb237, 1, none⟩ = some (.int .i64 a0_1) := (YH BK237.out 1).trans rfl
            have q26_2 : wc.cell? ⟨gb237, 2, none⟩ = some (.bool a0_2) := (YH BK237.out 2).trans rfl
            have q26_3 : wc.cell? ⟨gb237, 3, none⟩ = some (.int .i64 a0_3) := (YH BK237.out 3).trans rfl
            have q26_4 : wc.cell? ⟨gb237, 4, none⟩ = some (.int .i64 a0_4) := (YH BK237.out 4).trans rfl
            have q26_5 : wc.cell? ⟨gb237, 5, none⟩ = some (.int .i64 a0_5) := (YH BK237.out 5).trans rfl
            have q26_6 : wc.cell? ⟨gb237, 6, none⟩ = some (.int .i64 a0_6) := (YH BK237.out 6).trans rfl
            have q26_7 : wc.cell? ⟨gb237, 7, none⟩ = some (.int .i64 a0_7) := (YH BK237.out 7).trans rfl
            have q26_8 : wc.cell? ⟨gb237, 8, none⟩ = some (.int .i64 a0_8) := (YH BK237.out 8).trans rfl
            have q26_9 : wc.cell? ⟨gb237, 9, none⟩ = some (.int .i64 a0_9) := (YH BK237.out 9).trans rfl
            have q26_10 : wc.cell? ⟨gb237, 10, none⟩ = some (.int .i64 a0_10) := (YH BK237.out 10).trans rfl
            have q26_11 : wc.cell? ⟨gb237, 11, none⟩ = some (.int .i64 a0_11) := (YH BK237.out 11).trans rfl
            have f26_0 := YI BK237.out 0
            have f26_1 := YI BK237.out 1
            have f26_2 := YI BK237.out 2
            have f26_3 := YI BK237.out 3
            have f26_4 := YI BK237.out 4
            have f26_5 := YI BK237.out 5
            have f26_6 := YI BK237.out 6
            have f26_7 := YI BK237.out 7
            have f26_8 := YI BK237.out 8
            have f26_9 := YI BK237.out 9
            have f26_10 := YI BK237.out 10
            have f26_11 := YI BK237.out 11
            go_wp2_with (first | (go_at_call 47; (with_reducible refine (thalwegref02_Right.calls kj1 false a0_8 a0_9 a0_10 0 0 t239 _ A25.out).mono ?_); rintro e w27 ⟨rfl, hb⟩; have n0_ := YJ (blk_below (g := gb237) (o := .cells #[.int .i64 a0_0, .int .i64 a0_1, .bool a0_2, .int .i64 a0_3, .int .i64 a0_4, .int .i64 a0_5, .int .i64 a0_6, .int .i64 a0_7, .int .i64 a0_8, .int .i64 a0_9, .int .i64 a0_10, .int .i64 a0_11] 45 (0, 0)) (by (with_reducible repeat (first | refine YE ?_ _ | refine YF ?_ | refine YG ?_ _)); exact BK237.out) hb); have n1_ := YJ (YD (by repeat (first | (with_reducible first | exact HB.out | apply YA | apply YB | apply YC | refine below_set ?_ GE237.out) | exact HB.out)) hb); clear BK237; clear HB; have BK237 := n0_; have HB := n1_; clear n0_ n1_; (try clear hb); (try clear hb2); (try clear hk); (try clear hi)))
            go_ret
            exact ⟨by first | rfl | (simp [errW_none, errW_some] <;> rfl) | (simp [*, errW_none, errW_some] <;> rfl), by repeat (first | (with_reducible first | exact HB.out | apply YA | apply YB | apply YC | refine below_set ?_ GE237.out) | exact HB.out)⟩
          rw [if_neg c24] at H
          have c24b0 : (a0_11 == 0) = false := beq_eq_false_iff_ne.mpr c24
          have c24b1 : (a0_11 != 0) = true := bne_iff_ne.mpr c24
          obtain rfl := Option.some.inj H
          have q28_0 : wc.cell? ⟨gb237, 0, none⟩ = some (.int .i64 a0_0) := (YH BK237.out 0).trans rfl
          have q28_1 : wc.cell? ⟨gb237, 1, none⟩ = some (.int .i64 a0_1) := (YH BK237.out 1).trans rfl
          have q28_2 : wc.cell? ⟨gb237, 2, none⟩ = some (.bool a0_2) := (YH BK237.out 2).trans rfl
          have q28_3 : wc.cell? ⟨gb237, 3, none⟩ = some (.int .i64 a0_3) := (YH BK237.out 3).trans rfl
          have q28_4 : wc.cell? ⟨gb237, 4, none⟩ = some (.int .i64 a0_4) := (YH BK237.out 4).trans rfl
          have q28_5 : wc.cell? ⟨gb237, 5, none⟩ = some (.int .i64 a0_5) := (YH BK237.out 5).trans rfl
          have q28_6 : wc.cell? ⟨gb237, 6, none⟩ = some (.int .i64 a0_6) := (YH BK237.out 6).trans rfl
          have q28_7 : wc.cell? ⟨gb237, 7, none⟩ = some (.int .i64 a0_7) := (YH BK237.out 7).trans rfl
          have q28_8 : wc.cell? ⟨gb237, 8, none⟩ = some (.int .i64 a0_8) := (YH BK237.out 8).trans rfl
          have q28_9 : wc.cell? ⟨gb237, 9, none⟩ = some (.int .i64 a0_9) := (YH BK237.out 9).trans rfl
          have q28_10 : wc.cell? ⟨gb237, 10, none⟩ = some (.int .i64 a0_10) := (YH BK237.out 10).trans rfl
          have q28_11 : wc.cell? ⟨gb237, 11, none⟩ = some (.int .i64 a0_11) := (YH BK237.out 11).trans rfl
          have f28_0 := YI BK237.out 0
          have f28_1 := YI BK237.out 1
          have f28_2 := YI BK237.out 2
          have f28_3 := YI BK237.out 3
          have f28_4 := YI BK237.out 4
          have f28_5 := YI BK237.out 5
          have f28_6 := YI BK237.out 6
          have f28_7 := YI BK237.out 7
          have f28_8 := YI BK237.out 8
          have f28_9 := YI BK237.out 9
          have f28_10 := YI BK237.out 10
          have f28_11 := YI BK237.out 11
          go_wp2
          go_ret
          exact ⟨by first | rfl | (simp [errW_none, errW_some] <;> rfl) | (simp [*, errW_none, errW_some] <;> rfl), by repeat (first | (with_reducible first | exact HB.out | apply YA | apply YB | apply YC | refine below_set ?_ GE237.out) | exact HB.out)⟩
        rw [if_neg c23] at H
        have c23b0 : (!a0_2 && (a0_3 == 0 && (a0_4 == 0 && (a0_5 == 0 && (a0_6 == 0 && (a0_7 == 0)))))) = false := by simpa using c23
        clear c23
        obtain rfl := Option.some.inj H
        have q29_0 : wc.cell? ⟨gb237, 0, none⟩ = some (.int .i64 a0_0) := (YH BK237.out 0).trans rfl
        have q29_1 : wc.cell? ⟨gb237, 1, none⟩ = some (.int .i64 a0_1) := (YH BK237.out 1).trans rfl
        have q29_2 : wc.cell? ⟨gb237, 2, none⟩ = some (.bool a0_2) := (YH BK237.out 2).trans rfl
        have q29_3 : wc.cell? ⟨gb237, 3, none⟩ = some (.int .i64 a0_3) := (YH BK237.out 3).trans rfl
        have q29_4 : wc.cell? ⟨gb237, 4, none⟩ = some (.int .i64 a0_4) := (YH BK237.out 4).trans rfl
        have q29_5 : wc.cell? ⟨gb237, 5, none⟩ = some (.int .i64 a0_5) := (YH BK237.out 5).trans rfl
        have q29_6 : wc.cell? ⟨gb237, 6, none⟩ = some (.int .i64 a0_6) := (YH BK237.out 6).trans rfl
        have q29_7 : wc.cell? ⟨gb237, 7, none⟩ = some (.int .i64 a0_7) := (YH BK237.out 7).trans rfl
        have q29_8 : wc.cell? ⟨gb237, 8, none⟩ = some (.int .i64 a0_8) := (YH BK237.out 8).trans rfl
        have q29_9 : wc.cell? ⟨gb237, 9, none⟩ = some (.int .i64 a0_9) := (YH BK237.out 9).trans rfl
        have q29_10 : wc.cell? ⟨gb237, 10, none⟩ = some (.int .i64 a0_10) := (YH BK237.out 10).trans rfl
        have q29_11 : wc.cell? ⟨gb237, 11, none⟩ = some (.int .i64 a0_11) := (YH BK237.out 11).trans rfl
        have f29_0 := YI BK237.out 0
        have f29_1 := YI BK237.out 1
        have f29_2 := YI BK237.out 2
        have f29_3 := YI BK237.out 3
        have f29_4 := YI BK237.out 4
        have f29_5 := YI BK237.out 5
        have f29_6 := YI BK237.out 6
        have f29_7 := YI BK237.out 7
        have f29_8 := YI BK237.out 8
        have f29_9 := YI BK237.out 9
        have f29_10 := YI BK237.out 10
        have f29_11 := YI BK237.out 11
        go_wp2
        go_ret
        exact ⟨by first | rfl | (simp [errW_none, errW_some] <;> rfl) | (simp [*, errW_none, errW_some] <;> rfl), by repeat (first | (with_reducible first | exact HB.out | apply YA | apply YB | apply YC | refine below_set ?_ GE237.out) | exact HB.out)⟩
      rw [if_neg c22] at H
      have c22b0 : (a0_0 == 3) = false := beq_eq_false_iff_ne.mpr c22
      have c22b1 : (a0_0 != 3) = true := bne_iff_ne.mpr c22
      by_cases c30 : a0_0 = 4
      · rw [if_pos c30] at H
        have c30b0 : (a0_0 == 4) = true := beq_iff_eq.mpr c30
        have c30b1 : (a0_0 != 4) = false := bne_eq_false_iff_eq.mpr c30
        clear c30
        by_cases c31 : (a0_8 == 0 && (a0_9 == 0 && (a0_10 == 0))) = true
        · rw [if_pos c31] at H
          have c31b0 : (a0_8 == 0 && (a0_9 == 0 && (a0_10 == 0))) = true := c31
          (try (have c31b1 : decide (a0_8 = 0 && (a0_9 == 0 && (a0_10 == 0))) = true := by simpa using c31))
          (try (have c31b2 : (a0_8 == 0 && (a0_9 == 0 && (a0_10 == 0))) = true := by simpa using c31))
          clear c31
          by_cases c32 : a0_11 ≥ 0
          · rw [if_pos c32] at H
            have c32b0 : decide (0 ≤ a0_11) = true := decide_eq_true c32; clear c32
            by_cases c33 : a0_11 ≤ 65535
            · rw [if_pos c33] at H
              have c33b0 : decide (a0_11 ≤ 65535) = true := decide_eq_true c33; clear c33; replace H := Option.bind_eq_some_iff.mp H; obtain ⟨t240, A340, H⟩ := H
              replace H : (some t240) = some r := H
              have A34 := YJ A340; clear A340
              obtain rfl := Option.some.inj H
              have q35_0 : wc.cell? ⟨gb237, 0, none⟩ = some (.int .i64 a0_0) := (YH BK237.out 0).trans rfl
              have q35_1 : wc.cell? ⟨gb237, 1, none⟩ = some (.int .i64 a0_1) := (YH BK237.out 1).trans rfl
              have q35_2 : wc.cell? ⟨gb237, 2, none⟩ = some (.bool a0_2) := (YH BK237.out 2).trans rfl
              have q35_3 : wc.cell? ⟨gb237, 3, none⟩ = some (.int .i64 a0_3) := (YH BK237.out 3).trans rfl
              have q35_4 : wc.cell? ⟨gb237, 4, none⟩ = some (.int .i64 a0_4) := (YH BK237.out 4).trans rfl
              have q35_5 : wc.cell? ⟨gb237, 5, none⟩ = some (.int .i64 a0_5) := (YH BK237.out 5).trans rfl
              have q35_6 : wc.cell? ⟨gb237, 6, none⟩ = some (.int .i64 a0_6) := (YH BK237.out 6).trans rfl
              have q35_7 : wc.cell? ⟨gb237, 7, none⟩ = some (.int .i64 a0_7) := (YH BK237.out 7).trans rfl
              have q35_8 : wc.cell? ⟨gb237, 8, none⟩ = some (.int .i64 a0_8) := (YH BK237.out 8).trans rfl
              have q35_9 : wc.cell? ⟨gb237, 9, none⟩ = some (.int .i64 a0_9) := (YH BK237.out 9).trans rfl
              have q35_10 : wc.cell? ⟨gb237, 10, none⟩ = some (.int .i64 a0_10) := (YH BK237.out 10).trans rfl
              have q35_11 : wc.cell? ⟨gb237, 11, none⟩ = some (.int .i64 a0_11) := (YH BK237.out 11).trans rfl
              have f35_0 := YI BK237.out 0
              have f35_1 := YI BK237.out 1
              have f35_2 := YI BK237.out 2
              have f35_3 := YI BK237.out 3
              have f35_4 := YI BK237.out 4
              have f35_5 := YI BK237.out 5
              have f35_6 := YI BK237.out 6
              have f35_7 := YI BK237.out 7
              have f35_8 := YI BK237.out 8
              have f35_9 := YI BK237.out 9
              have f35_10 := YI BK237.out 10
              have f35_11 := YI BK237.out 11
              go_wp2_with (first | (go_at_call 48; (with_reducible refine (thalwegref02_Told.calls kj1 a0_2 a0_3 a0_4 a0_5 a0_6 a0_7 t240 _ A34.out).mono ?_); rintro e w36 ⟨rfl, hb⟩; have n0_ := YJ (blk_below (g := gb237) (o := .cells #[.int .i64 a0_0, .int .i64 a0_1, .bool a0_2, .int .i64 a0_3, .int .i64 a0_4, .int .i64 a0_5, .int .i64 a0_6, .int .i64 a0_7, .int .i64 a0_8, .int .i64 a0_9, .int .i64 a0_10, .int .i64 a0_11] 45 (0, 0)) (by (with_reducible repeat (first | refine YE ?_ _ | refine YF ?_ | refine YG ?_ _)); exact BK237.out) hb); have n1_ := YJ (YD (by repeat (first | (with_reducible first | exact HB.out | apply YA | apply YB | apply YC | refine below_set ?_ GE237.out) | exact HB.out)) hb); clear BK237; clear HB; have BK237 := n0_; have HB := n1_; clear n0_ n1_; (try clear hb); (try clear hb2); (try clear hk); (try clear hi)))
              go_ret
              exact ⟨by first | rfl | (simp [errW_none, errW_some] <;> rfl) | (simp [*, errW_none, errW_some] <;> rfl), by repeat (first | (with_reducible first | exact HB.out | apply YA | apply YB | apply YC | refine below_set ?_ GE237.out) | exact HB.out)⟩
            rw [if_neg c33] at H; have c33b0 : decide (a0_11 ≤ 65535) = false := decide_eq_false c33; clear c33
            obtain rfl := Option.some.inj H
            have q37_0 : wc.cell? ⟨gb237, 0, none⟩ = some (.int .i64 a0_0) := (YH BK237.out 0).trans rfl
            have q37_1 : wc.cell? ⟨gb237, 1, none⟩ = some (.int .i64 a0_1) := (YH BK237.out 1).trans rfl
            have q37_2 : wc.cell? ⟨gb237, 2, none⟩ = some (.bool a0_2) := (YH BK237.out 2).trans rfl
            have q37_3 : wc.cell? ⟨gb237, 3, none⟩ = some (.int .i64 a0_3) := (YH BK237.out 3).trans rfl
            have q37_4 : wc.cell? ⟨gb237, 4, none⟩ = some (.int .i64 a0_4) := (YH BK237.out 4).trans rfl
            have q37_5 : wc.cell? ⟨gb237, 5, none⟩ = some (.int .i64 a0_5) := (YH BK237.out 5).trans rfl
            have q37_6 : wc.cell? ⟨gb237, 6, none⟩ = some (.int .i64 a0_6) := (YH BK237.out 6).trans rfl
            have q37_7 : wc.cell? ⟨gb237, 7, none⟩ = some (.int .i64 a0_7) := (YH BK237.out 7).trans rfl
            have q37_8 : wc.cell? ⟨gb237, 8, none⟩ = some (.int .i64 a0_8) := (YH BK237.out 8).trans rfl
            have q37_9 : wc.cell? ⟨gb237, 9, none⟩ = some (.int .i64 a0_9) := (YH BK237.out 9).trans rfl
            have q37_10 : wc.cell? ⟨gb237, 10, none⟩ = some (.int .i64 a0_10) := (YH BK237.out 10).trans rfl
            have q37_11 : wc.cell? ⟨gb237, 11, none⟩ = some (.int .i64 a0_11) := (YH BK237.out 11).trans rfl
            have f37_0 := YI BK237.out 0
            have f37_1 := YI BK237.out 1
            have f37_2 := YI BK237.out 2
            have f37_3 := YI BK237.out 3
            have f37_4 := YI BK237.out 4
            have f37_5 := YI BK237.out 5
            have f37_6 := YI BK237.out 6
            have f37_7 := YI BK237.out 7
            have f37_8 := YI BK237.out 8
            have f37_9 := YI BK237.out 9
            have f37_10 := YI BK237.out 10
            have f37_11 := YI BK237.out 11
            go_wp2
            go_ret
            exact ⟨by first | rfl | (simp [errW_none, errW_some] <;> rfl) | (simp [*, errW_none, errW_some] <;> rfl), by repeat (first | (with_reducible first | exact HB.out | apply YA | apply YB | apply YC | refine below_set ?_ GE237.out) | exact HB.out)⟩
          rw [if_neg c32] at H; have c32b0 : decide (0 ≤ a0_11) = false := decide_eq_false c32; clear c32
          obtain rfl := Option.some.inj H
          have q38_0 : wc.cell? ⟨gb237, 0, none⟩ = some (.int .i64 a0_0) := (YH BK237.out 0).trans rfl
          have q38_1 : wc.cell? ⟨gb237, 1, none⟩ = some (.int .i64 a0_1) := (YH BK237.out 1).trans rfl
          have q38_2 : wc.cell? ⟨gb237, 2, none⟩ = some (.bool a0_2) := (YH BK237.out 2).trans rfl
          have q38_3 : wc.cell? ⟨gb237, 3, none⟩ = some (.int .i64 a0_3) := (YH BK237.out 3).trans rfl
          have q38_4 : wc.cell? ⟨gb237, 4, none⟩ = some (.int .i64 a0_4) := (YH BK237.out 4).trans rfl
          have q38_5 : wc.cell? ⟨gb237, 5, none⟩ = some (.int .i64 a0_5) := (YH BK237.out 5).trans rfl
          have q38_6 : wc.cell? ⟨gb237, 6, none⟩ = some (.int .i64 a0_6) := (YH BK237.out 6).trans rfl
          have q38_7 : wc.cell? ⟨gb237, 7, none⟩ = some (.int .i64 a0_7) := (YH BK237.out 7).trans rfl
          have q38_8 : wc.cell? ⟨gb237, 8, none⟩ = some (.int .i64 a0_8) := (YH BK237.out 8).trans rfl
          have q38_9 : wc.cell? ⟨gb237, 9, none⟩ = some (.int .i64 a0_9) := (YH BK237.out 9).trans rfl
          have q38_10 : wc.cell? ⟨gb237, 10, none⟩ = some (.int .i64 a0_10) := (YH BK237.out 10).trans rfl
          have q38_11 : wc.cell? ⟨gb237, 11, none⟩ = some (.int .i64 a0_11) := (YH BK237.out 11).trans rfl
          have f38_0 := YI BK237.out 0
          have f38_1 := YI BK237.out 1
          have f38_2 := YI BK237.out 2
          have f38_3 := YI BK237.out 3
          have f38_4 := YI BK237.out 4
          have f38_5 := YI BK237.out 5
          have f38_6 := YI BK237.out 6
          have f38_7 := YI BK237.out 7
          have f38_8 := YI BK237.out 8
          have f38_9 := YI BK237.out 9
          have f38_10 := YI BK237.out 10
          have f38_11 := YI BK237.out 11
          go_wp2
          go_ret
          exact ⟨by first | rfl | (simp [errW_none, errW_some] <;> rfl) | (simp [*, errW_none, errW_some] <;> rfl), by repeat (first | (with_reducible first | exact HB.out | apply YA | apply YB | apply YC | refine below_set ?_ GE237.out) | exact HB.out)⟩
        rw [if_neg c31] at H
        have c31b0 : (a0_8 == 0 && (a0_9 == 0 && (a0_10 == 0))) = false := by simpa using c31
        (try (have c31b1 : decide (a0_8 = 0 && (a0_9 == 0 && (a0_10 == 0))) = false := by simpa using c31))
        (try (have c31b2 : (a0_8 == 0 && (a0_9 == 0 && (a0_10 == 0))) = false := by simpa using c31))
        (try (have c31b3 : ¬ (a0_8 = 0 && (a0_9 == 0 && (a0_10 == 0))) := by simpa using c31))
        clear c31
        obtain rfl := Option.some.inj H
        have q39_0 : wc.cell? ⟨gb237, 0, none⟩ = some (.int .i64 a0_0) := (YH BK237.out 0).trans rfl
        have q39_1 : wc.cell? ⟨gb237, 1, none⟩ = some (.int .i64 a0_1) := (YH BK237.out 1).trans rfl
        have q39_2 : wc.cell? ⟨gb237, 2, none⟩ = some (.bool a0_2) := (YH BK237.out 2).trans rfl
        have q39_3 : wc.cell? ⟨gb237, 3, none⟩ = some (.int .i64 a0_3) := (YH BK237.out 3).trans rfl
        have q39_4 : wc.cell? ⟨gb237, 4, none⟩ = some (.int .i64 a0_4) := (YH BK237.out 4).trans rfl
        have q39_5 : wc.cell? ⟨gb237, 5, none⟩ = some (.int .i64 a0_5) := (YH BK237.out 5).trans rfl
        have q39_6 : wc.cell? ⟨gb237, 6, none⟩ = some (.int .i64 a0_6) := (YH BK237.out 6).trans rfl
        have q39_7 : wc.cell? ⟨gb237, 7, none⟩ = some (.int .i64 a0_7) := (YH BK237.out 7).trans rfl
        have q39_8 : wc.cell? ⟨gb237, 8, none⟩ = some (.int .i64 a0_8) := (YH BK237.out 8).trans rfl
        have q39_9 : wc.cell? ⟨gb237, 9, none⟩ = some (.int .i64 a0_9) := (YH BK237.out 9).trans rfl
        have q39_10 : wc.cell? ⟨gb237, 10, none⟩ = some (.int .i64 a0_10) := (YH BK237.out 10).trans rfl
        have q39_11 : wc.cell? ⟨gb237, 11, none⟩ = some (.int .i64 a0_11) := (YH BK237.out 11).trans rfl
        have f39_0 := YI BK237.out 0
        have f39_1 := YI BK237.out 1
        have f39_2 := YI BK237.out 2
        have f39_3 := YI BK237.out 3
        have f39_4 := YI BK237.out 4
        have f39_5 := YI BK237.out 5
        have f39_6 := YI BK237.out 6
        have f39_7 := YI BK237.out 7
        have f39_8 := YI BK237.out 8
        have f39_9 := YI BK237.out 9
        have f39_10 := YI BK237.out 10
        have f39_11 := YI BK237.out 11
        go_wp2
        go_ret
        exact ⟨by first | rfl | (simp [errW_none, errW_some] <;> rfl) | (simp [*, errW_none, errW_some] <;> rfl), by repeat (first | (with_reducible first | exact HB.out | apply YA | apply YB | apply YC | refine below_set ?_ GE237.out) | exact HB.out)⟩
      rw [if_neg c30] at H
      have c30b0 : (a0_0 == 4) = false := beq_eq_false_iff_ne.mpr c30
      have c30b1 : (a0_0 != 4) = true := bne_iff_ne.mpr c30
      obtain rfl := Option.some.inj H
      have q40_0 : wc.cell? ⟨gb237, 0, none⟩ = some (.int .i64 a0_0) := (YH BK237.out 0).trans rfl
      have q40_1 : wc.cell? ⟨gb237, 1, none⟩ = some (.int .i64 a0_1) := (YH BK237.out 1).trans rfl
      have q40_2 : wc.cell? ⟨gb237, 2, none⟩ = some (.bool a0_2) := (YH BK237.out 2).trans rfl
      have q40_3 : wc.cell? ⟨gb237, 3, none⟩ = some (.int .i64 a0_3) := (YH BK237.out 3).trans rfl
      have q40_4 : wc.cell? ⟨gb237, 4, none⟩ = some (.int .i64 a0_4) := (YH BK237.out 4).trans rfl
      have q40_5 : wc.cell? ⟨gb237, 5, none⟩ = some (.int .i64 a0_5) := (YH BK237.out 5).trans rfl
      have q40_6 : wc.cell? ⟨gb237, 6, none⟩ = some (.int .i64 a0_6) := (YH BK237.out 6).trans rfl
      have q40_7 : wc.cell? ⟨gb237, 7, none⟩ = some (.int .i64 a0_7) := (YH BK237.out 7).trans rfl
      have q40_8 : wc.cell? ⟨gb237, 8, none⟩ = some (.int .i64 a0_8) := (YH BK237.out 8).trans rfl
      have q40_9 : wc.cell? ⟨gb237, 9, none⟩ = some (.int .i64 a0_9) := (YH BK237.out 9).trans rfl
      have q40_10 : wc.cell? ⟨gb237, 10, none⟩ = some (.int .i64 a0_10) := (YH BK237.out 10).trans rfl
      have q40_11 : wc.cell? ⟨gb237, 11, none⟩ = some (.int .i64 a0_11) := (YH BK237.out 11).trans rfl
      have f40_0 := YI BK237.out 0
      have f40_1 := YI BK237.out 1
      have f40_2 := YI BK237.out 2
      have f40_3 := YI BK237.out 3
      have f40_4 := YI BK237.out 4
      have f40_5 := YI BK237.out 5
      have f40_6 := YI BK237.out 6
      have f40_7 := YI BK237.out 7
      have f40_8 := YI BK237.out 8
      have f40_9 := YI BK237.out 9
      have f40_10 := YI BK237.out 10
      have f40_11 := YI BK237.out 11
      go_wp2
      go_ret
      exact ⟨by first | rfl | (simp [errW_none, errW_some] <;> rfl) | (simp [*, errW_none, errW_some] <;> rfl), by repeat (first | (with_reducible first | exact HB.out | apply YA | apply YB | apply YC | refine below_set ?_ GE237.out) | exact HB.out)⟩
end Go.Proofs.Ytfigbjjaffkidaa.P
namespace Go.Proofs.Ytfigbjjaffkidaa.P
open Go.RowKit YtfigbjjaffkidaaW.PrintWords YtfigbjjaffkidaaW.PrintLast YtfigbjjaffkidaaW.PrintMore
open YtfigbjjaffkidaaW.PrintWords renaming below_alloc → YA, pw_below_drewN → YB, below_drew1 → YC
open YtfigbjjaffkidaaW.PrintWords.Aside0 renaming mk → YD
open YtfigbjjaffkidaaW.PrintWords.Kd renaming R_alloc → YE, R_drewN → YF, R_drew → YG
attribute [local go_sem] max2_int min2_int max_two min_two max_three min_three max_four min_four   -- for this text's walks alone
def thalwegref01_Int.l0 : Nat → Int → List Int → Int → Option (List Int)
  | 0, _, _, _ => none
  | k + 1, x0, x3, x4 => if x4 ≥ 0 then (if (Int.tmod x0 256) < 0 then (if 0 ≤ x4 then (if x4 < (x3.length : Int) then ((some (x3.set (x4 : Int).toNat ((wrap64 ((Int.tmod x0 256) + 256)) % 256) : List Int)).bind fun y248 => (if x4 = 0 then (thalwegref01_Int.l0 k 0 y248 (wrap64 (x4 - 1))) else (thalwegref01_Int.l0 k (wrap64 (Int.tdiv (wrap64 (x0 - (wrap64 ((Int.tmod x0 256) + 256)))) 256)) y248 (wrap64 (x4 - 1))))) else (none)) else (none)) else (if 0 ≤ x4 then (if x4 < (x3.length : Int) then ((some (x3.set (x4 : Int).toNat ((Int.tmod x0 256) % 256) : List Int)).bind fun y249 => (if x4 = 0 then (thalwegref01_Int.l0 k 0 y249 (wrap64 (x4 - 1))) else (thalwegref01_Int.l0 k (wrap64 (Int.tdiv (wrap64 (x0 - (Int.tmod x0 256))) 256)) y249 (wrap64 (x4 - 1))))) else (none)) else (none))) else (some x3)
def thalwegref01_Int.f (k : Nat) (a0 : Int) : Option (List Int) := if 8 ≤ 281474976710656 then (thalwegref01_Int.l0 k a0 (List.replicate 8 0) 7) else (none)
set_option maxHeartbeats 8000000 in
set_option maxRecDepth 100000 in
theorem thalwegref01_Int.calls (k : Nat) (a0 : Int) (r : List Int) (w : World) (h : thalwegref01_Int.f k a0 = some r) :
    Calls Try.prog 39 #[.int .i64 a0] w fun e w' => ∃ v0_ : Value, e = .returned (v0_) ∧ Kd.R (Kd.int .u8) 5 w' w.heap.size (fun _ => True) v0_ r ∧ Below w.heap.size w w' := by
  have HB := YD (Below.refl w.heap.size w)
  have H : (if 8 ≤ 281474976710656 then (thalwegref01_Int.l0 k a0 (List.replicate 8 0) 7) else (none)) = some r := h
  clear h
  by_cases c2 : 8 ≤ 281474976710656
  rotate_left
  · rw [if_neg c2] at H
    exact absurd H (by simp)
  rw [if_pos c2] at H
  have c2b0 := eq_true c2
  have c2b1 : decide (8 ≤ 281474976710656) = true := decide_eq_true c2; clear c2
  obtain ⟨y245, hy245⟩ : ∃ y_ : List Int, y_ = (List.replicate 8 0) := ⟨_, rfl⟩
  replace H : (thalwegref01_Int.l0 k a0 y245 7) = some r := by first | (rw [hy245]; with_reducible exact H) | (have H2_ := (Option.bind_some _ _).symm.trans H; rw [hy245]; with_reducible exact H2_) | (have H2_ := (Option.bind_some _ _).symm.trans H; with_reducible exact H2_) | with_reducible exact H | (rw [hy245]; exact H) | exact H
  have Ny245 := YD hy245; clear hy245
  have H' := YD H
  clear H
  go_enter Try.func39, Try.ntmps39
  go_wp2_with (first | ((with_reducible refine gate_dst (N := 6) rfl ?_); refine Kd.R_make (Kd.int .u8) _ 5 rfl (N := 6) rfl 26 _ _ rfl 8 rfl rfl Try.underlying26 (.int .u8 0) 1 info5 rfl (by decide) (by omega) 0 (ok := fun _ => True) (okp := fun _ => True) rfl (fun _ hk => hk) trivial (by omega) (by omega) (Below.refl _ _) (Nat.le_refl _) ?_; intro v246 w3 ho4 hb hg_ hnew_; clear hg_ hnew_; (first | rw [← Ny245.out] at ho4 | (simp only [Int.reduceToNat] at ho4; rw [← Ny245.out] at ho4)); have n0_ := YD (Kd.R_lower ho4 (below_size (by repeat (first | (with_reducible first | exact HB.out | apply YA | apply YB | apply YC) | exact HB.out)))); have n1_ := YD (below_step (by repeat (first | (with_reducible first | exact HB.out | apply YA | apply YB | apply YC) | exact HB.out)) hb); clear HB; have HO247 := n0_; have HB := n1_; clear n0_ n1_; clear hb ho4))
  go_loopg [0, 4] k (fun kq v0 v4 w' => ∃ (x0_1 : Int) (x3_1 : List Int) (x4_1 : Int), v0 = .int .i64 x0_1 ∧ v4 = .int .i64 x4_1 ∧ Aside0 (thalwegref01_Int.l0 kq x0_1 x3_1 x4_1 = some r) ∧ Aside0 (kq ≤ k) ∧ Aside0 (Kd.R (Kd.int .u8) 5 w' w.heap.size (fun _ => True) v246 x3_1) ∧ Aside0 (Below w.heap.size w w'))
  case atStart => exact ⟨(a0), (y245), (7), (by first | rfl | (simp; done) | (simp [*]; done)), (by first | rfl | (simp; done) | (simp [*]; done)), H', ⟨Nat.le_refl _⟩, ⟨by (with_reducible repeat (first | apply YE | apply YF | apply YG)); exact HO247.out⟩, ⟨by repeat (first | (with_reducible first | exact HB.out | apply YA | apply YB | apply YC) | exact HB.out)⟩⟩
  case round =>
    clear H'
    try clear c2; try clear c2b0
    try clear c2b1; try clear p2; try clear c3
    obtain ⟨x0_1, x3_1, x4_1, rfl, rfl, HA, HK1, HO_3, HB⟩ := hrel
    cases gk with
    | zero => exact absurd HA.out (by simp [thalwegref01_Int.l0])
    | succ k1 =>
      have H := HA.out
      clear HA
      simp only [thalwegref01_Int.l0] at H
      by_cases c5 : x4_1 ≥ 0
      · rw [if_pos c5] at H
        have c5b0 : decide (0 ≤ x4_1) = true := decide_eq_true c5; clear c5
        by_cases c6 : (Int.tmod x0_1 256) < 0
        · rw [if_pos c6] at H
          have c6b0 : decide ((Int.tmod x0_1 256) < 0) = true := decide_eq_true c6; clear c6
          by_cases c7 : 0 ≤ x4_1
          rotate_left
          · rw [if_neg c7] at H
            exact absurd H (by simp)
          rw [if_pos c7] at H; have c7b0 : decide (0 ≤ x4_1) = true := decide_eq_true c7; clear c7
          by_cases c8 : x4_1 < (x3_1.length : Int)
          rotate_left
          · rw [if_neg c8] at H
            exact absurd H (by simp)
          rw [if_pos c8] at H
          have c8b0 : decide (x4_1 < (x3_1.length : Int)) = true := decide_eq_true c8
          clear c8
          obtain ⟨y248, hy248⟩ : ∃ y_ : List Int, y_ = (x3_1.set (x4_1 : Int).toNat ((wrap64 ((Int.tmod x0_1 256) + 256)) % 256)) := ⟨_, rfl⟩
          replace H : (if x4_1 = 0 then (thalwegref01_Int.l0 k1 0 y248 (wrap64 (x4_1 - 1))) else (thalwegref01_Int.l0 k1 (wrap64 (Int.tdiv (wrap64 (x0_1 - (wrap64 ((Int.tmod x0_1 256) + 256)))) 256)) y248 (wrap64 (x4_1 - 1)))) = some r := by first | (rw [hy248]; with_reducible exact H) | (have H2_ := (Option.bind_some _ _).symm.trans H; rw [hy248]; with_reducible exact H2_) | (have H2_ := (Option.bind_some _ _).symm.trans H; with_reducible exact H2_) | with_reducible exact H | (rw [hy248]; exact H) | exact H
          have Ny248 := YD hy248; clear hy248
          by_cases c10 : x4_1 = 0
          · rw [if_pos c10] at H
            have c10b0 : (x4_1 == 0) = true := beq_iff_eq.mpr c10
            have c10b1 : (x4_1 != 0) = false := bne_eq_false_iff_eq.mpr c10
            clear c10
            have H' := YD H
            clear H
            have p9 : 0 ≤ (x4_1 : Int) := of_decide_eq_true (by first | (with_reducible assumption) | assumption)
            have q9 : (x4_1 : Int) < ((x3_1.length : Int) : Int) := of_decide_eq_true (by first | (with_reducible assumption) | assumption)
            obtain ⟨go9, co9, eo9, gb9, gl9, cl9, HG9⟩ := Kd.R_form HO_3.out (by omega)
            (first | cases eo9 | (injection eo9 with ea_ en_ ec_; (first | subst ea_ | (injection ea_ with ea_; subst ea_)); subst ec_; clear en_))
            have GB9 := YD gb9; have GG9 := YD HG9; clear gb9 gl9 HG9
            obtain ⟨hx9_0, hf9_0⟩ := Kd.R_celln 0 HO_3.out (x4_1 : Int) p9 q9
            replace p9 := eq_true p9
            replace q9 := eq_true q9
            have HP11 := Kd.R_putg HO_3.out (x4_1 : Int) ((wrap64 ((Int.tmod x0_1 256) + 256)) % 256)
            go_wp2_with (first | ((with_reducible refine gate_store (t := 5) (p := 21) rfl ?_); refine store_event (t := 5) (p := 21) (v := ?vo_w12) (w1 := (wr.setCell ⟨go9, (x4_1 : Int).toNat, none⟩ (.int .u8 ((wrap64 ((Int.tmod x0_1 256) + 256)) % 256)))) ?hg ?ho ?hn ?hr ?_; (case ho => rfl); (case hg => rfl); (case hn => rfl); (case hr => first | (go_simp; done) | (go_simp; rfl)); intro w12 hw; have hg : wr.grownBy w12 (some go9) := (by rw [hw]; exact HP11.2); have hp_ : Kd.R (Kd.int .u8) 5 w12 w.heap.size (fun _ => True) (.slice (some ⟨go9, 0, none⟩) x3_1.length co9) y248 := (by rw [hw, Ny248.out]; exact HP11.1); clear HP11; have n0_ := YD (hp_); have n1_ := YD ((by rw [hw]; exact below_set (HB.out) GB9.out : Below w.heap.size w w12)); clear HO_3; clear HB; have HO_3 := n0_; have HB := n1_; clear n0_ n1_; clear hg hw hp_))
            go_roundg k1
            case measure => have := HK1.out; omega
            case rel => exact ⟨(0), (y248), (wrap64 (x4_1 - 1)), (by first | rfl | (simp; done) | (simp [*]; done)), (by first | rfl | (simp; done) | (simp [*]; done)), H', ⟨by have := HK1.out; omega⟩, ⟨by (with_reducible repeat (first | apply YE | apply YF | apply YG)); exact HO_3.out⟩, ⟨by repeat (first | (with_reducible first | exact HB.out | apply YA | apply YB | apply YC) | exact HB.out)⟩⟩
          rw [if_neg c10] at H
          have c10b0 : (x4_1 == 0) = false := beq_eq_false_iff_ne.mpr c10
          have c10b1 : (x4_1 != 0) = true := bne_iff_ne.mpr c10
          have H' := YD H
          clear H
          have p9 : 0 ≤ (x4_1 : Int) := of_decide_eq_true (by first | (with_reducible assumption) | assumption)
          have q9 : (x4_1 : Int) < ((x3_1.length : Int) : Int) := of_decide_eq_true (by first | (with_reducible assumption) | assumption)
          obtain ⟨go9, co9, eo9, gb9, gl9, cl9, HG9⟩ := Kd.R_form HO_3.out (by omega)
          (first | cases eo9 | (injection eo9 with ea_ en_ ec_; (first | subst ea_ | (injection ea_ with ea_; subst ea_)); subst ec_; clear en_))
          have GB9 := YD gb9; have GG9 := YD HG9; clear gb9 gl9 HG9
          obtain ⟨hx9_0, hf9_0⟩ := Kd.R_celln 0 HO_3.out (x4_1 : Int) p9 q9
          replace p9 := eq_true p9
          replace q9 := eq_true q9
          have HP13 := Kd.R_putg HO_3.out (x4_1 : Int) ((wrap64 ((Int.tmod x0_1 256) + 256)) % 256)
          go_wp2_with (first | ((with_reducible refine gate_store (t := 5) (p := 21) rfl ?_); refine store_event (t := 5) (p := 21) (v := ?vo_w14) (w1 := (wr.setCell ⟨go9, (x4_1 : Int).toNat, none⟩ (.int .u8 ((wrap64 ((Int.tmod x0_1 256) + 256)) % 256)))) ?hg ?ho ?hn ?hr ?_; (case ho => rfl); (case hg => rfl); (case hn => rfl); (case hr => first | (go_simp; done) | (go_simp; rfl)); intro w14 hw; have hg : wr.grownBy w14 (some go9) := (by rw [hw]; exact HP13.2); have hp_ : Kd.R (Kd.int .u8) 5 w14 w.heap.size (fun _ => True) (.slice (some ⟨go9, 0, none⟩) x3_1.length co9) y248 := (by rw [hw, Ny248.out]; exact HP13.1); clear HP13; have n0_ := YD (hp_); have n1_ := YD ((by rw [hw]; exact below_set (HB.out) GB9.out : Below w.heap.size w w14)); clear HO_3; clear HB; have HO_3 := n0_; have HB := n1_; clear n0_ n1_; clear hg hw hp_))
          go_roundg k1
          case measure => have := HK1.out; omega
          case rel => exact ⟨(wrap64 (Int.tdiv (wrap64 (x0_1 - (wrap64 ((Int.tmod x0_1 256) + 256)))) 256)), (y248), (wrap64 (x4_1 - 1)), (by first | rfl | (simp; done) | (simp [*]; done)), (by first | rfl | (simp; done) | (simp [*]; done)), H', ⟨by have := HK1.out; omega⟩, ⟨by (with_reducible repeat (first | apply YE | apply YF | apply YG)); exact HO_3.out⟩, ⟨by repeat (first | (with_reducible first | exact HB.out | apply YA | apply YB | apply YC) | exact HB.out)⟩⟩
        rw [if_neg c6] at H; have c6b0 : decide ((Int.tmod x0_1 256) < 0) = false := decide_eq_false c6; clear c6
        by_cases c15 : 0 ≤ x4_1
        rotate_left
        · rw [if_neg c15] at H
          exact absurd H (by simp)
        rw [if_pos c15] at H; have c15b0 : decide (0 ≤ x4_1) = true := decide_eq_true c15; clear c15
        by_cases c16 : x4_1 < (x3_1.length : Int)
        rotate_left
        · rw [if_neg c16] at H
          exact absurd H (by simp)
        rw [if_pos c16] at H
        have c16b0 : decide (x4_1 < (x3_1.length : Int)) = true := decide_eq_true c16
        clear c16
        obtain ⟨y249, hy249⟩ : ∃ y_ : List Int, y_ = (x3_1.set (x4_1 : Int).toNat ((Int.tmod x0_1 256) % 256)) := ⟨_, rfl⟩
        replace H : (if x4_1 = 0 then (thalwegref01_Int.l0 k1 0 y249 (wrap64 (x4_1 - 1))) else (thalwegref01_Int.l0 k1 (wrap64 (Int.tdiv (wrap64 (x0_1 - (Int.tmod x0_1 256))) 256)) y249 (wrap64 (x4_1 - 1)))) = some r := by first | (rw [hy249]; with_reducible exact H) | (have H2_ := (Option.bind_some _ _).symm.trans H; rw [hy249]; with_reducible exact H2_) | (have H2_ := (Option.bind_some _ _).symm.trans H; with_reducible exact H2_) | with_reducible exact H | (rw [hy249]; exact H) | exact H
        have Ny249 := YD hy249; clear hy249
        by_cases c18 : x4_1 = 0
        · rw [if_pos c18] at H
          have c18b0 : (x4_1 == 0) = true := beq_iff_eq.mpr c18
          have c18b1 : (x4_1 != 0) = false := bne_eq_false_iff_eq.mpr c18
          clear c18
          have H' := YD H
          clear H
          have p17 : 0 ≤ (x4_1 : Int) := of_decide_eq_true (by first | (with_reducible assumption) | assumption)
          have q17 : (x4_1 : Int) < ((x3_1.length : Int) : Int) := of_decide_eq_true (by first | (with_reducible assumption) | assumption)
          obtain ⟨go17, co17, eo17, gb17, gl17, cl17, HG17⟩ := Kd.R_form HO_3.out (by omega)
          (first | cases eo17 | (injection eo17 with ea_ en_ ec_; (first | subst ea_ | (injection ea_ with ea_; subst ea_)); subst ec_; clear en_))
          have GB17 := YD gb17; have GG17 := YD HG17; clear gb17 gl17 HG17
          obtain ⟨hx17_0, hf17_0⟩ := Kd.R_celln 0 HO_3.out (x4_1 : Int) p17 q17
          replace p17 := eq_true p17
          replace q17 := eq_true q17
          have HP19 := Kd.R_putg HO_3.out (x4_1 : Int) ((Int.tmod x0_1 256) % 256)
          go_wp2_with (first | ((with_reducible refine gate_store (t := 5) (p := 21) rfl ?_); refine store_event (t := 5) (p := 21) (v := ?vo_w20) (w1 := (wr.setCell ⟨go17, (x4_1 : Int).toNat, none⟩ (.int .u8 ((Int.tmod x0_1 256) % 256)))) ?hg ?ho ?hn ?hr ?_; (case ho => rfl); (case hg => rfl); (case hn => rfl); (case hr => first | (go_simp; done) | (go_simp; rfl)); intro w20 hw; have hg : wr.grownBy w20 (some go17) := (by rw [hw]; exact HP19.2); have hp_ : Kd.R (Kd.int .u8) 5 w20 w.heap.size (fun _ => True) (.slice (some ⟨go17, 0, none⟩) x3_1.length co17) y249 := (by rw [hw, Ny249.out]; exact HP19.1); clear HP19; have n0_ := YD (hp_); have n1_ := YD ((by rw [hw]; exact below_set (HB.out) GB17.out : Below w.heap.size w w20)); clear HO_3; clear HB; have HO_3 := n0_; have HB := n1_; clear n0_ n1_; clear hg hw hp_))
          go_roundg k1
          case measure => have := HK1.out; omega
          case rel => exact ⟨(0), (y249), (wrap64 (x4_1 - 1)), (by first | rfl | (simp; done) | (simp [*]; done)), (by first | rfl | (simp; done) | (simp [*]; done)), H', ⟨by have := HK1.out; omega⟩, ⟨by (with_reducible repeat (first | apply YE | apply YF | apply YG)); exact HO_3.out⟩, ⟨by repeat (first | (with_reducible first | exact HB.out | apply YA | apply YB | apply YC) | exact HB.out)⟩⟩
        rw [if_neg c18] at H
        have c18b0 : (x4_1 == 0) = false := beq_eq_false_iff_ne.mpr c18
        have c18b1 : (x4_1 != 0) = true := bne_iff_ne.mpr c18
        have H' := YD H
        clear H
        have p17 : 0 ≤ (x4_1 : Int) := of_decide_eq_true (by first | (with_reducible assumption) | assumption)
        have q17 : (x4_1 : Int) < ((x3_1.length : Int) : Int) := of_decide_eq_true (by first | (with_reducible assumption) | assumption)
        obtain ⟨go17, co17, eo17, gb17, gl17, cl17, HG17⟩ := Kd.R_form HO_3.out (by omega)
        (first | cases eo17 | (injection eo17 with ea_ en_ ec_; (first | subst ea_ | (injection ea_ with ea_; subst ea_)); subst ec_; clear en_))
        have GB17 := YD gb17; have GG17 := YD HG17; clear gb17 gl17 HG17
        obtain ⟨hx17_0, hf17_0⟩ := Kd.R_celln 0 HO_3.out (x4_1 : Int) p17 q17
        replace p17 := eq_true p17
        replace q17 := eq_true q17
        have HP21 := Kd.R_putg HO_3.out (x4_1 : Int) ((Int.tmod x0_1 256) % 256)
        go_wp2_with (first | ((with_reducible refine gate_store (t := 5) (p := 21) rfl ?_); refine store_event (t := 5) (p := 21) (v := ?vo_w22) (w1 := (wr.setCell ⟨go17, (x4_1 : Int).toNat, none⟩ (.int .u8 ((Int.tmod x0_1 256) % 256)))) ?hg ?ho ?hn ?hr ?_; (case ho => rfl); (case hg => rfl); (case hn => rfl); (case hr => first | (go_simp; done) | (go_simp; rfl)); intro w22 hw; have hg : wr.grownBy w22 (some go17) := (by rw [hw]; exact HP21.2); have hp_ : Kd.R (Kd.int .u8) 5 w22 w.heap.size (fun _ => True) (.slice (some ⟨go17, 0, none⟩) x3_1.length co17) y249 := (by rw [hw, Ny249.out]; exact HP21.1); clear HP21; have n0_ := YD (hp_); have n1_ := YD ((by rw [hw]; exact below_set (HB.out) GB17.out : Below w.heap.size w w22)); clear HO_3; clear HB; have HO_3 := n0_; have HB := n1_; clear n0_ n1_; clear hg hw hp_))
        go_roundg k1
        case measure => have := HK1.out; omega
        case rel => exact ⟨(wrap64 (Int.tdiv (wrap64 (x0_1 - (Int.tmod x0_1 256))) 256)), (y249), (wrap64 (x4_1 - 1)), (by first | rfl | (simp; done) | (simp [*]; done)), (by first | rfl | (simp; done) | (simp [*]; done)), H', ⟨by have := HK1.out; omega⟩, ⟨by (with_reducible repeat (first | apply YE | apply YF | apply YG)); exact HO_3.out⟩, ⟨by repeat (first | (with_reducible first | exact HB.out | apply YA | apply YB | apply YC) | exact HB.out)⟩⟩
      rw [if_neg c5] at H; have c5b0 : decide (0 ≤ x4_1) = false := decide_eq_false c5; clear c5
      obtain rfl := Option.some.inj H
      go_wp2
      go_ret
      exact ⟨_, by first | rfl | (simp [errW_none, errW_some] <;> rfl) | (simp [*, errW_none, errW_some] <;> rfl), by (with_reducible repeat (first | apply YE | apply YF | apply YG)); exact HO_3.out, by repeat (first | (with_reducible first | exact HB.out | apply YA | apply YB | apply YC) | exact HB.out)⟩
end Go.Proofs.Ytfigbjjaffkidaa.P
namespace Go.Proofs.Ytfigbjjaffkidaa.P
open Go.RowKit YtfigbjjaffkidaaW.PrintWords YtfigbjjaffkidaaW.PrintLast YtfigbjjaffkidaaW.PrintMore
open YtfigbjjaffkidaaW.PrintWords renaming below_alloc → YA, pw_below_drewN → YB, below_drew1 → YC
open YtfigbjjaffkidaaW.PrintWords.Aside0 renaming mk → YD
attribute [local go_sem] max2_int min2_int max_two min_two max_three min_three max_four min_four   -- for this text's walks alone
def thalwegref01_Both.l0 : Nat → List (List Int) → List Int → Int → Option (List Int)
  | 0, _, _, _ => none
  | k + 1, x0, x3, x4 => if x4 < (x0.length : Int) then (if 0 ≤ x4 then (if x3.length + (rd_L7 x0 x4).length < 140737488355328 then (thalwegref01_Both.l0 k x0 (x3 ++ (rd_L7 x0 x4)) (wrap64 (x4 + 1))) else (none)) else (none)) else (some x3)
def thalwegref01_Both.f (k : Nat) (l0 : List (List Int)) : Option (List Int) := thalwegref01_Both.l0 k l0 ([] : List Int) 0
set_option maxHeartbeats 8000000 in
set_option maxRecDepth 100000 in
theorem thalwegref01_Both.calls (k : Nat) (A0 : Option Addr) (c0 : Nat) (l0 : List (List Int)) (r : List Int) (w : World) (hr0 : Kd.C (Kd.slice 5 (Kd.int .u8)) w A0 l0.length l0) (hc0 : l0.length ≤ c0) (h : thalwegref01_Both.f k l0 = some r) :
    Calls Try.prog 22 #[.slice A0 l0.length c0] w fun e w' => ∃ v0_ : Value, e = .returned (v0_) ∧ Kd.R (Kd.int .u8) 5 w' w.heap.size (fun _ => True) v0_ r ∧ Below w.heap.size w w' := by
  have HR0 := YD hr0; have HC0 := YD hc0; clear hr0 hc0
  have HB := YD (Below.refl w.heap.size w)
  have H : (thalwegref01_Both.l0 k l0 ([] : List Int) 0) = some r := h
  clear h
  have H' := YD H
  clear H
  go_enter Try.func22, Try.ntmps22
  go_wp2
  go_loopg [3, 4] k (fun kq v3 v4 w' => ∃ (x3_1 : List Int) (x4_1 : Int), v4 = .int .i64 x4_1 ∧ Aside0 (thalwegref01_Both.l0 kq l0 x3_1 x4_1 = some r) ∧ Aside0 (kq ≤ k) ∧ Aside0 (Kd.R (Kd.int .u8) 5 w' w.heap.size (fun _ => True) v3 x3_1) ∧ Aside0 (Below w.heap.size w w'))
  case atStart => exact ⟨(([] : List Int)), (0), (by first | rfl | (simp; done) | (simp [*]; done)), H', ⟨Nat.le_refl _⟩, ⟨by first | exact Kd.R_nil _ _ _ _ _ | exact Kd.N_nil _ _ _ _ _ | exact Kd.V_nil _ _ _ _ _ | exact Kd.Q_nil _ _ _ _ _ | exact Kd.S_nil _ _ _ _ _⟩, ⟨by repeat (first | (with_reducible first | exact HB.out | apply YA | apply YB | apply YC) | exact HB.out)⟩⟩
  case round =>
    clear H'
    obtain ⟨x3_1, x4_1, rfl, HA, HK1, HO_3, HB⟩ := hrel
    cases gk with
    | zero => exact absurd HA.out (by simp [thalwegref01_Both.l0])
    | succ k1 =>
      have H := HA.out
      clear HA
      simp only [thalwegref01_Both.l0] at H
      by_cases c2 : x4_1 < (l0.length : Int)
      · rw [if_pos c2] at H
        have c2b0 : decide (x4_1 < (l0.length : Int)) = true := decide_eq_true c2
        clear c2
        by_cases c3 : 0 ≤ x4_1
        rotate_left
        · rw [if_neg c3] at H
          exact absurd H (by simp)
        rw [if_pos c3] at H; have c3b0 : decide (0 ≤ x4_1) = true := decide_eq_true c3; clear c3
        by_cases c4 : x3_1.length + (rd_L7 l0 x4_1).length < 140737488355328
        rotate_left
        · rw [if_neg c4] at H
          exact absurd H (by simp)
        rw [if_pos c4] at H; have LMc4 := YD c4; clear c4
        obtain ⟨y242, hy242⟩ : ∃ y_ : List Int, y_ = (x3_1 ++ (rd_L7 l0 x4_1)) := ⟨_, rfl⟩
        replace H : (thalwegref01_Both.l0 k1 l0 y242 (wrap64 (x4_1 + 1))) = some r := by first | (rw [hy242]; with_reducible exact H) | (have H2_ := (Option.bind_some _ _).symm.trans H; rw [hy242]; with_reducible exact H2_) | (have H2_ := (Option.bind_some _ _).symm.trans H; with_reducible exact H2_) | with_reducible exact H | (rw [hy242]; exact H) | exact H
        have Ny242 := YD hy242; clear hy242
        have H' := YD H
        clear H
        have p241 : 0 ≤ (x4_1 : Int) := of_decide_eq_true (by first | (with_reducible assumption) | assumption)
        have q241 : x4_1 < (l0.length : Int) := of_decide_eq_true (by first | (with_reducible assumption) | assumption)
        obtain ⟨ad241, A241_0, c241_0, e241, hx241_0, hl241_0, hi241_0⟩ := at_L7 HR0.out x4_1 p241 q241
        cases e241
        replace hx241_0 := (HB.out.cell (World.block_lt_of_cell? w _ hx241_0)).trans hx241_0
        have HR241_0 := YD hi241_0; have HC241_0 := YD hl241_0; clear hi241_0 hl241_0
        replace p241 := eq_true p241
        replace q241 := eq_true q241
        go_wp2_with (first | ((with_reducible refine gate_builtin (b := .append) (xs := #[.tmp 11, .tmp 15]) rfl ?_); at_builtin; refine Kd.R_append_rows (Kd.int .u8) (w0 := w) w.heap.size rfl (.tmp 11) (.tmp 15) 26 5 (.int .u8 0) 1 rfl Try.underlying26 info5 rfl (by decide) (by omega) u3 x3_1 (rd_L7 l0 x4_1) _ _ _ (fun _ => True) (fun _ => False) rfl rfl ?aO ?aR (fun _ _ h => h) (fun _ h => h.elim) ?aF ?aB ?aS ?aL ?_; (case aR => repeat (first | exact (Kd.C_below HR241_0.out HB.out) | (with_reducible refine Kd.C_alloc ?_ _) | (with_reducible refine Kd.C_drewN ?_ _) | (with_reducible refine Kd.C_drew ?_))); (case aB => exact (by repeat (first | (with_reducible first | exact HB.out | apply YA | apply YB | apply YC) | exact HB.out))); (case aF => exact (fun _ _ => trivial)); (case aO => exact (by (with_reducible repeat (first | apply Kd.R_alloc | apply Kd.R_drewN | apply Kd.R_drew)); exact HO_3.out)); (case aS => exact (below_size (by repeat (first | (with_reducible first | exact HB.out | apply YA | apply YB | apply YC) | exact HB.out)))); (case aL => have := LMc4.out; omega); intro v243 w5 ho hb hg hat; rw [← Ny242.out] at ho; have n0_ := YD (hb); have n1_ := YD (ho); clear HB; clear HO_3; have HB := n0_; have HO244 := n1_; clear n0_ n1_; clear ho hb hg hat))
        go_roundg k1
        case measure => have := HK1.out; omega
        case rel => exact ⟨(y242), (wrap64 (x4_1 + 1)), (by first | rfl | (simp; done) | (simp [*]; done)), H', ⟨by have := HK1.out; omega⟩, ⟨by (with_reducible repeat (first | apply Kd.R_alloc | apply Kd.R_drewN | apply Kd.R_drew)); exact HO244.out⟩, ⟨by repeat (first | (with_reducible first | exact HB.out | apply YA | apply YB | apply YC) | exact HB.out)⟩⟩
      rw [if_neg c2] at H
      have c2b0 : decide (x4_1 < (l0.length : Int)) = false := decide_eq_false c2
      clear c2
      obtain rfl := Option.some.inj H
      go_wp2
      go_ret
      exact ⟨_, by first | rfl | (simp [errW_none, errW_some] <;> rfl) | (simp [*, errW_none, errW_some] <;> rfl), by (with_reducible repeat (first | apply Kd.R_alloc | apply Kd.R_drewN | apply Kd.R_drew)); exact HO_3.out, by repeat (first | (with_reducible first | exact HB.out | apply YA | apply YB | apply YC) | exact HB.out)⟩
end Go.Proofs.Ytfigbjjaffkidaa.P
namespace Go.Proofs.Ytfigbjjaffkidaa.P
open Go.RowKit YtfigbjjaffkidaaW.PrintWords YtfigbjjaffkidaaW.PrintLast YtfigbjjaffkidaaW.PrintMore
open YtfigbjjaffkidaaW.PrintWords renaming below_alloc → YA, pw_below_drewN → YB, below_drew1 → YC, below_step → YD, below_size → YE, blk_drewN → YF, blk_drew → YG, blk_alloc → YH, blk_cell → YI, blk_frozen → YJ, blk_below → YK
open YtfigbjjaffkidaaW.PrintWords.Aside0 renaming mk → YL
open List renaming setIfInBounds_toArray → YM, set_cons_zero → YN, set_cons_succ → YO, map_toArray → YP
open YtfigbjjaffkidaaW.PrintWords.Kd renaming R_alloc → YQ, R_drewN → YR, R_drew → YS
attribute [local go_sem] max2_int min2_int max_two min_two max_three min_three max_four min_four   -- for this text's walks alone
def thalwegref02_Bytes.f (k : Nat) (a0_0 : Bool) (a0_1 : Int) (a0_2 : Int) (a0_3 : Int) (a0_4 : Int) (a0_5 : Int) : Option (List Int × Int) := (thalwegref02_Right.f k a0_0 a0_1 a0_2 a0_3 a0_4 a0_5).bind fun t251 => (if t251 = true then (if a0_0 = true then (some ((([0, (a0_5) % 256] : List Int)), 0)) else ((thalwegref01_Int.f k a0_1).bind fun t258 => ((thalwegref01_Int.f k a0_4).bind fun t264 => ((thalwegref01_Both.f k (([(([1] : List Int)), t258, (([(a0_2) % 256, (a0_3) % 256] : List Int)), t264, (([(a0_5) % 256] : List Int))] : List (List Int)))).bind fun t273 => (some (t273, 0)))))) else (some (([] : List Int), 1)))
def thalwegref02_Bytes.T5 : Bool × List (List Nat × List Nat) := (true, [([], []), ([], []), ([1], [1]), ([2], [2]), ([], []), ([4], [4]), ([5], [5]), ([], []), ([7], [7]), ([8], [8]), ([6, 9], [6, 9]), ([], []), ([11], [11]), ([12, 3], [12]), ([], []), ([14], [14]), ([15], [15]), ([16], [16]), ([0, 3, 10, 13, 17], [0, 3, 10, 13, 17]), ([18, 13], [18]), ([19, 19, 0, 1, 2, 3, 4, 5, 6, 7, 8, 9, 10, 11, 12, 13, 14, 15, 16, 17, 18, 19], [19]), ([20, 0, 1, 2, 3, 4, 5, 6, 7, 8, 9, 10, 11, 12, 13, 14, 15, 16, 17, 18, 19, 20], [])])
def thalwegref02_Bytes.B5 : List Nat := [0, 0, 2, 6, 0, 16, 48, 0, 128, 384, 1008, 0, 2048, 6158, 0, 16384, 49152, 114688, 262143, 524287, 1048575, 2097151]
theorem thalwegref02_Bytes.tab5 : rtab .any (opsOf Try.f38 5) = thalwegref02_Bytes.T5 := by kernel_rfl
theorem thalwegref02_Bytes.bits5 : waitsOk thalwegref02_Bytes.T5.2 thalwegref02_Bytes.B5 = true := by kernel_rfl
set_option maxHeartbeats 8000000 in
set_option maxRecDepth 100000 in
theorem thalwegref02_Bytes.calls (k : Nat) (a0_0 : Bool) (a0_1 : Int) (a0_2 : Int) (a0_3 : Int) (a0_4 : Int) (a0_5 : Int) (r1 : List Int) (r2 : Int) (w : World) (h : thalwegref02_Bytes.f k a0_0 a0_1 a0_2 a0_3 a0_4 a0_5 = some (r1, r2)) :
    Calls Try.prog 38 #[.agg #[.bool a0_0, .int .i64 a0_1, .int .i64 a0_2, .int .i64 a0_3, .int .i64 a0_4, .int .i64 a0_5]] w fun e w' => ∃ v0_ : Value, e = .returned (.tuple #[v0_, .int .i64 r2]) ∧ Kd.R (Kd.int .u8) 5 w' w.heap.size (fun _ => True) v0_ r1 ∧ Below w.heap.size w w' := by
  have hu41 := Try.underlying41
  have HB := YL (Below.refl w.heap.size w)
  have H : ((thalwegref02_Right.f k a0_0 a0_1 a0_2 a0_3 a0_4 a0_5).bind fun t251 => (if t251 = true then (if a0_0 = true then (some ((([0, (a0_5) % 256] : List Int)), 0)) else ((thalwegref01_Int.f k a0_1).bind fun t258 => ((thalwegref01_Int.f k a0_4).bind fun t264 => ((thalwegref01_Both.f k (([(([1] : List Int)), t258, (([(a0_2) % 256, (a0_3) % 256] : List Int)), t264, (([(a0_5) % 256] : List Int))] : List (List Int)))).bind fun t273 => (some (t273, 0)))))) else (some (([] : List Int), 1)))) = some (r1, r2) := h
  clear h; replace H := Option.bind_eq_some_iff.mp H; obtain ⟨t251, A20, H⟩ := H
  replace H : (if t251 = true then (if a0_0 = true then (some ((([0, (a0_5) % 256] : List Int)), 0)) else ((thalwegref01_Int.f k a0_1).bind fun t258 => ((thalwegref01_Int.f k a0_4).bind fun t264 => ((thalwegref01_Both.f k (([(([1] : List Int)), t258, (([(a0_2) % 256, (a0_3) % 256] : List Int)), t264, (([(a0_5) % 256] : List Int))] : List (List Int)))).bind fun t273 => (some (t273, 0)))))) else (some (([] : List Int), 1))) = some (r1, r2) := H
  have A2 := YL A20; clear A20
  by_cases c3 : t251 = true
  · subst c3
    have H1 : (if a0_0 = true then (some ((([0, (a0_5) % 256] : List Int)), 0)) else ((thalwegref01_Int.f k a0_1).bind fun t258 => ((thalwegref01_Int.f k a0_4).bind fun t264 => ((thalwegref01_Both.f k (([(([1] : List Int)), t258, (([(a0_2) % 256, (a0_3) % 256] : List Int)), t264, (([(a0_5) % 256] : List Int))] : List (List Int)))).bind fun t273 => (some (t273, 0)))))) = some (r1, r2) := by rw [if_pos rfl] at H; exact H
    clear H
    have H := H1
    clear H1
    by_cases c4 : a0_0 = true
    · subst c4
      have H1 : (some ((([0, (a0_5) % 256] : List Int)), 0)) = some (r1, r2) := by rw [if_pos rfl] at H; exact H
      clear H
      have H := H1
      clear H1
      obtain ⟨y252, hy252⟩ : ∃ y_ : List Int, y_ = (([0, (a0_5) % 256] : List Int)) := ⟨_, rfl⟩
      replace H : (some (y252, 0)) = some (r1, r2) := by first | (rw [hy252]; with_reducible exact H) | (have H2_ := (Option.bind_some _ _).symm.trans H; rw [hy252]; with_reducible exact H2_) | (have H2_ := (Option.bind_some _ _).symm.trans H; with_reducible exact H2_) | with_reducible exact H | (rw [hy252]; exact H) | exact H
      have Ny252 := YL hy252; clear hy252
      simp only [Option.some.injEq, Prod.mk.injEq] at H
      obtain ⟨rfl, rfl⟩ := H
      go_enter Try.func38, Try.ntmps38
      go_wp2_with (first | ((with_reducible refine gate_dst (N := 1) rfl ?_); refine box_event ?hg (N := 1) ?hd (cs := #[.bool true, .int .i64 a0_1, .int .i64 a0_2, .int .i64 a0_3, .int .i64 a0_4, .int .i64 a0_5]) (t := 41) ?hr ?_; (case hd => rfl); (case hg => rfl); (case hr => first | (go_simp; done) | (go_simp; rfl)); intro gb250 hg w5 hbox hb; have n0_ := YL (YD (by repeat (first | (with_reducible first | exact HB.out | apply YA | apply YB | apply YC) | exact HB.out)) hb); have n1_ := YL (hbox); have n2_ := YL ((by rw [hg]; exact (YE (by repeat (first | (with_reducible first | exact HB.out | apply YA | apply YB | apply YC) | exact HB.out))) : w.heap.size ≤ gb250)); have n3_ := YL ((by rw [hg]; exact (YE (by repeat (first | (with_reducible first | exact HB.out | apply YA | apply YB | apply YC) | exact HB.out))) : w.heap.size ≤ gb250)); clear HB; have HB := n0_; have BK250 := n1_; have GW250 := n2_; have GE250 := n3_; clear n0_ n1_ n2_ n3_; clear hb hbox hg; have q6_0 : w5.cell? ⟨gb250, 0, none⟩ = some (.bool true) := (YI BK250.out 0).trans rfl; have q6_1 : w5.cell? ⟨gb250, 1, none⟩ = some (.int .i64 a0_1) := (YI BK250.out 1).trans rfl; have q6_2 : w5.cell? ⟨gb250, 2, none⟩ = some (.int .i64 a0_2) := (YI BK250.out 2).trans rfl; have q6_3 : w5.cell? ⟨gb250, 3, none⟩ = some (.int .i64 a0_3) := (YI BK250.out 3).trans rfl; have q6_4 : w5.cell? ⟨gb250, 4, none⟩ = some (.int .i64 a0_4) := (YI BK250.out 4).trans rfl; have q6_5 : w5.cell? ⟨gb250, 5, none⟩ = some (.int .i64 a0_5) := (YI BK250.out 5).trans rfl; have f6_0 := YJ BK250.out 0; have f6_1 := YJ BK250.out 1; have f6_2 := YJ BK250.out 2; have f6_3 := YJ BK250.out 3; have f6_4 := YJ BK250.out 4; have f6_5 := YJ BK250.out 5) | ((with_reducible refine gate_callee (f := 47) rfl ?_); refine goesL_ (some 5) rfl rfl Try.func47 (by kernel_rfl) rfl #[.agg #[.bool true, .int .i64 a0_1, .int .i64 a0_2, .int .i64 a0_3, .int .i64 a0_4, .int .i64 a0_5]] rfl (by (try simp only [YP, List.map_cons, List.map_nil]); first | done | rfl | (simp only [List.length_drop, List.length_take]; rfl)) ?_; (with_reducible refine (thalwegref02_Right.calls k true a0_1 a0_2 a0_3 a0_4 a0_5 true _ A2.out).mono ?_); rintro e w7 ⟨rfl, hb⟩; refine ⟨_, rfl, ?_⟩; have n0_ := YL (YK (g := gb250) (o := .cells #[.bool true, .int .i64 a0_1, .int .i64 a0_2, .int .i64 a0_3, .int .i64 a0_4, .int .i64 a0_5] 41 (0, 0)) (by (with_reducible repeat (first | refine YF ?_ _ | refine YG ?_ | refine YH ?_ _)); exact BK250.out) hb); have n1_ := YL (YD (by repeat (first | (with_reducible first | exact HB.out | apply YA | apply YB | apply YC | refine below_set ?_ GE250.out) | exact HB.out)) hb); clear BK250; clear HB; have BK250 := n0_; have HB := n1_; clear n0_ n1_; (try clear hb); (try clear hb2); (try clear hk); (try clear hi); have q8_0 : w7.cell? ⟨gb250, 0, none⟩ = some (.bool true) := (YI BK250.out 0).trans rfl; have q8_1 : w7.cell? ⟨gb250, 1, none⟩ = some (.int .i64 a0_1) := (YI BK250.out 1).trans rfl; have q8_2 : w7.cell? ⟨gb250, 2, none⟩ = some (.int .i64 a0_2) := (YI BK250.out 2).trans rfl; have q8_3 : w7.cell? ⟨gb250, 3, none⟩ = some (.int .i64 a0_3) := (YI BK250.out 3).trans rfl; have q8_4 : w7.cell? ⟨gb250, 4, none⟩ = some (.int .i64 a0_4) := (YI BK250.out 4).trans rfl; have q8_5 : w7.cell? ⟨gb250, 5, none⟩ = some (.int .i64 a0_5) := (YI BK250.out 5).trans rfl; have f8_0 := YJ BK250.out 0; have f8_1 := YJ BK250.out 1; have f8_2 := YJ BK250.out 2; have f8_3 := YJ BK250.out 3; have f8_4 := YJ BK250.out 4; have f8_5 := YJ BK250.out 5) | ((with_reducible refine gate_dst (N := 12) rfl ?_); refine Kd.R_lit (Kd.int .u8) _ 5 ?hg (N := 12) ?hd (xs := ([0, (a0_5) % 256] : List Int)) (inner := [.int .u8 0, .int .u8 ((a0_5) % 256)]) (ok := fun _ => True) (okp := fun _ => True) ?hr ?hp (fun _ hk => hk) trivial (Below.refl _ _) (Nat.le_refl _) (by simp) ?_; (case hd => rfl); (case hg => rfl); (case hr => first | (go_simp; done) | (go_simp; rfl)); (case hp => exact (Reps.one (show Kd.M (Kd.int .u8) _ _ _ 0 [.int .u8 0] from rfl) (Reps.one (show Kd.M (Kd.int .u8) _ _ _ ((a0_5) % 256) [.int .u8 ((a0_5) % 256)] from rfl) (Reps.none _ _)))); intro v253 w9 ho10 hb hg_ hnew_; clear hg_ hnew_; (first | rw [← Ny252.out] at ho10 | (simp only [Int.reduceToNat] at ho10; rw [← Ny252.out] at ho10)); have n0_ := YL (Kd.R_lower ho10 (YE (by repeat (first | (with_reducible first | exact HB.out | apply YA | apply YB | apply YC | refine below_set ?_ GE250.out) | exact HB.out)))); have n1_ := YL (YK (g := gb250) (o := .cells #[.bool true, .int .i64 a0_1, .int .i64 a0_2, .int .i64 a0_3, .int .i64 a0_4, .int .i64 a0_5] 41 (0, 0)) (by (with_reducible repeat (first | refine YF ?_ _ | refine YG ?_ | refine YH ?_ _)); exact BK250.out) hb); have n2_ := YL (YD (by repeat (first | (with_reducible first | exact HB.out | apply YA | apply YB | apply YC | refine below_set ?_ GE250.out) | exact HB.out)) hb); clear BK250; clear HB; have HO254 := n0_; have BK250 := n1_; have HB := n2_; clear n0_ n1_ n2_; clear hb ho10))
      go_ret2
      exact ⟨_, by first | rfl | (simp [errW_none, errW_some] <;> rfl) | (simp [*, errW_none, errW_some] <;> rfl), by (with_reducible repeat (first | apply YQ | apply YR | apply YS)); exact HO254.out, by repeat (first | (with_reducible first | exact HB.out | apply YA | apply YB | apply YC | refine below_set ?_ GE250.out) | exact HB.out)⟩
    replace c4 := Bool.eq_false_iff.mpr c4
    subst c4
    have H1 : ((thalwegref01_Int.f k a0_1).bind fun t258 => ((thalwegref01_Int.f k a0_4).bind fun t264 => ((thalwegref01_Both.f k (([(([1] : List Int)), t258, (([(a0_2) % 256, (a0_3) % 256] : List Int)), t264, (([(a0_5) % 256] : List Int))] : List (List Int)))).bind fun t273 => (some (t273, 0))))) = some (r1, r2) := by rw [if_neg (show ¬ (false = true) by decide)] at H; exact H
    clear H
    have H := H1
    clear H1
    obtain ⟨y255, hy255⟩ : ∃ y_ : List Int, y_ = (([1] : List Int)) := ⟨_, rfl⟩
    replace H : ((thalwegref01_Int.f k a0_1).bind fun t258 => ((thalwegref01_Int.f k a0_4).bind fun t264 => ((thalwegref01_Both.f k (([y255, t258, (([(a0_2) % 256, (a0_3) % 256] : List Int)), t264, (([(a0_5) % 256] : List Int))] : List (List Int)))).bind fun t273 => (some (t273, 0))))) = some (r1, r2) := by first | (rw [hy255]; with_reducible exact H) | (have H2_ := (Option.bind_some _ _).symm.trans H; rw [hy255]; with_reducible exact H2_) | (have H2_ := (Option.bind_some _ _).symm.trans H; with_reducible exact H2_) | with_reducible exact H | (rw [hy255]; exact H) | exact H
    have Ny255 := YL hy255; clear hy255; replace H := Option.bind_eq_some_iff.mp H; obtain ⟨t258, A110, H⟩ := H
    replace H : ((thalwegref01_Int.f k a0_4).bind fun t264 => ((thalwegref01_Both.f k (([y255, t258, (([(a0_2) % 256, (a0_3) % 256] : List Int)), t264, (([(a0_5) % 256] : List Int))] : List (List Int)))).bind fun t273 => (some (t273, 0)))) = some (r1, r2) := H
    have A11 := YL A110; clear A110
    obtain ⟨y261, hy261⟩ : ∃ y_ : List Int, y_ = (([(a0_2) % 256, (a0_3) % 256] : List Int)) := ⟨_, rfl⟩
    replace H : ((thalwegref01_Int.f k a0_4).bind fun t264 => ((thalwegref01_Both.f k (([y255, t258, y261, t264, (([(a0_5) % 256] : List Int))] : List (List Int)))).bind fun t273 => (some (t273, 0)))) = some (r1, r2) := by first | (rw [hy261]; with_reducible exact H) | (have H2_ := (Option.bind_some _ _).symm.trans H; rw [hy261]; with_reducible exact H2_) | (have H2_ := (Option.bind_some _ _).symm.trans H; with_reducible exact H2_) | with_reducible exact H | (rw [hy261]; exact H) | exact H
    have Ny261 := YL hy261; clear hy261; replace H := Option.bind_eq_some_iff.mp H; obtain ⟨t264, A120, H⟩ := H
    replace H : ((thalwegref01_Both.f k (([y255, t258, y261, t264, (([(a0_5) % 256] : List Int))] : List (List Int)))).bind fun t273 => (some (t273, 0))) = some (r1, r2) := H
    have A12 := YL A120; clear A120
    obtain ⟨y267, hy267⟩ : ∃ y_ : List Int, y_ = (([(a0_5) % 256] : List Int)) := ⟨_, rfl⟩
    replace H : ((thalwegref01_Both.f k (([y255, t258, y261, t264, y267] : List (List Int)))).bind fun t273 => (some (t273, 0))) = some (r1, r2) := by first | (rw [hy267]; with_reducible exact H) | (have H2_ := (Option.bind_some _ _).symm.trans H; rw [hy267]; with_reducible exact H2_) | (have H2_ := (Option.bind_some _ _).symm.trans H; with_reducible exact H2_) | with_reducible exact H | (rw [hy267]; exact H) | exact H
    have Ny267 := YL hy267; clear hy267
    obtain ⟨y270, hy270⟩ : ∃ y_ : List (List Int), y_ = (([y255, t258, y261, t264, y267] : List (List Int))) := ⟨_, rfl⟩
    replace H : ((thalwegref01_Both.f k y270).bind fun t273 => (some (t273, 0))) = some (r1, r2) := by first | (rw [hy270]; with_reducible exact H) | (have H2_ := (Option.bind_some _ _).symm.trans H; rw [hy270]; with_reducible exact H2_) | (have H2_ := (Option.bind_some _ _).symm.trans H; with_reducible exact H2_) | with_reducible exact H | (rw [hy270]; exact H) | exact H
    have Ny270 := YL hy270; clear hy270; replace H := Option.bind_eq_some_iff.mp H; obtain ⟨t273, A130, H⟩ := H
    replace H : (some (t273, 0)) = some (r1, r2) := H
    have A13 := YL A130; clear A130
    simp only [Option.some.injEq, Prod.mk.injEq] at H
    obtain ⟨rfl, rfl⟩ := H
    go_enter Try.func38, Try.ntmps38
    try go_wp2_with (first | ((with_reducible refine gate_dst (N := 1) rfl ?_); refine box_event ?hg (N := 1) ?hd (cs := #[.bool false, .int .i64 a0_1, .int .i64 a0_2, .int .i64 a0_3, .int .i64 a0_4, .int .i64 a0_5]) (t := 41) ?hr ?_; (case hd => rfl); (case hg => rfl); (case hr => first | (go_simp; done) | (go_simp; rfl)); intro gb250 hg w14 hbox hb; have n0_ := YL (YD (by repeat (first | (with_reducible first | exact HB.out | apply YA | apply YB | apply YC) | exact HB.out)) hb); have n1_ := YL (hbox); have n2_ := YL ((by rw [hg]; exact (YE (by repeat (first | (with_reducible first | exact HB.out | apply YA | apply YB | apply YC) | exact HB.out))) : w.heap.size ≤ gb250)); have n3_ := YL ((by rw [hg]; exact (YE (by repeat (first | (with_reducible first | exact HB.out | apply YA | apply YB | apply YC) | exact HB.out))) : w.heap.size ≤ gb250)); clear HB; have HB := n0_; have BK250 := n1_; have GW250 := n2_; have GE250 := n3_; clear n0_ n1_ n2_ n3_; clear hb hbox hg; have q15_0 : w14.cell? ⟨gb250, 0, none⟩ = some (.bool false) := (YI BK250.out 0).trans rfl; have q15_1 : w14.cell? ⟨gb250, 1, none⟩ = some (.int .i64 a0_1) := (YI BK250.out 1).trans rfl; have q15_2 : w14.cell? ⟨gb250, 2, none⟩ = some (.int .i64 a0_2) := (YI BK250.out 2).trans rfl; have q15_3 : w14.cell? ⟨gb250, 3, none⟩ = some (.int .i64 a0_3) := (YI BK250.out 3).trans rfl; have q15_4 : w14.cell? ⟨gb250, 4, none⟩ = some (.int .i64 a0_4) := (YI BK250.out 4).trans rfl; have q15_5 : w14.cell? ⟨gb250, 5, none⟩ = some (.int .i64 a0_5) := (YI BK250.out 5).trans rfl; have f15_0 := YJ BK250.out 0; have f15_1 := YJ BK250.out 1; have f15_2 := YJ BK250.out 2; have f15_3 := YJ BK250.out 3; have f15_4 := YJ BK250.out 4; have f15_5 := YJ BK250.out 5) | ((with_reducible refine gate_callee (f := 47) rfl ?_); refine goesL_ (some 5) rfl rfl Try.func47 (by kernel_rfl) rfl #[.agg #[.bool false, .int .i64 a0_1, .int .i64 a0_2, .int .i64 a0_3, .int .i64 a0_4, .int .i64 a0_5]] rfl (by (try simp only [YP, List.map_cons, List.map_nil]); first | done | rfl | (simp only [List.length_drop, List.length_take]; rfl)) ?_; (with_reducible refine (thalwegref02_Right.calls k false a0_1 a0_2 a0_3 a0_4 a0_5 true _ A2.out).mono ?_); rintro e w16 ⟨rfl, hb⟩; refine ⟨_, rfl, ?_⟩; have n0_ := YL (YK (g := gb250) (o := .cells #[.bool false, .int .i64 a0_1, .int .i64 a0_2, .int .i64 a0_3, .int .i64 a0_4, .int .i64 a0_5] 41 (0, 0)) (by (with_reducible repeat (first | refine YF ?_ _ | refine YG ?_ | refine YH ?_ _)); exact BK250.out) hb); have n1_ := YL (YD (by repeat (first | (with_reducible first | exact HB.out | apply YA | apply YB | apply YC | refine below_set ?_ GE250.out) | exact HB.out)) hb); clear BK250; clear HB; have BK250 := n0_; have HB := n1_; clear n0_ n1_; (try clear hb); (try clear hb2); (try clear hk); (try clear hi); have q17_0 : w16.cell? ⟨gb250, 0, none⟩ = some (.bool false) := (YI BK250.out 0).trans rfl; have q17_1 : w16.cell? ⟨gb250, 1, none⟩ = some (.int .i64 a0_1) := (YI BK250.out 1).trans rfl; have q17_2 : w16.cell? ⟨gb250, 2, none⟩ = some (.int .i64 a0_2) := (YI BK250.out 2).trans rfl; have q17_3 : w16.cell? ⟨gb250, 3, none⟩ = some (.int .i64 a0_3) := (YI BK250.out 3).trans rfl; have q17_4 : w16.cell? ⟨gb250, 4, none⟩ = some (.int .i64 a0_4) := (YI BK250.out 4).trans rfl; have q17_5 : w16.cell? ⟨gb250, 5, none⟩ = some (.int .i64 a0_5) := (YI BK250.out 5).trans rfl; have f17_0 := YJ BK250.out 0; have f17_1 := YJ BK250.out 1; have f17_2 := YJ BK250.out 2; have f17_3 := YJ BK250.out 3; have f17_4 := YJ BK250.out 4; have f17_5 := YJ BK250.out 5))
    have n0_ := YL (YG BK250.out)
    have n1_ := YL (YC HB.out)
    clear BK250; clear HB; have BK250 := n0_; have HB := n1_; clear n0_ n1_
    refine start_ (n := 22) (S := fun w' => True) (ds := []) #[false, false, false, false, false, false, false, false, false, false, false, false, false, false, false, false, false, false, false, false, false, false] (by kernel_rfl) rfl rfl trivial (fun hHeld => ?_); refine with_tabW thalwegref02_Bytes.tab5 thalwegref02_Bytes.bits5 (fun HT_ HW_ => ?_)
    generalize w16.drew = w18 at BK250 HB hHeld ⊢
    refine pure_ (i := 1) (N := some 14) (v := ?_) (a' := ?_) #[false, true, false, false, false, false, false, false, false, false, false, false, false, false, false, false, false, false, false, false, false, false] rfl rfl (any_of HT_.out (by kernel_rfl)) (fun _ _ _ h => h) (Or.inl ⟨by rfl, ?_⟩) ?_ ?_
    rotate_left
    · intro w'
      go_simp; with_reducible rfl
    rotate_left
    · simp only [Act.put, YM, YN, YO, i64_w, i32_w]
      rfl
    refine pure_ (i := 4) (N := some 17) (v := ?_) (a' := ?_) #[false, true, false, false, true, false, false, false, false, false, false, false, false, false, false, false, false, false, false, false, false, false] rfl rfl (any_of HT_.out (by kernel_rfl)) (fun _ _ _ h => h) (Or.inl ⟨by rfl, ?_⟩) ?_ ?_
    rotate_left
    · intro w'
      go_simp; with_reducible rfl
    rotate_left
    · simp only [Act.put, YM, YN, YO, i64_w, i32_w]
      rfl
    refine pure_ (i := 7) (N := some 20) (v := ?_) (a' := ?_) #[false, true, false, false, true, false, false, true, false, false, false, false, false, false, false, false, false, false, false, false, false, false] rfl rfl (any_of HT_.out (by kernel_rfl)) (fun _ _ _ h => h) (Or.inl ⟨by rfl, ?_⟩) ?_ ?_
    rotate_left
    · intro w'
      go_simp; with_reducible rfl
    rotate_left
    · simp only [Act.put, YM, YN, YO, i64_w, i32_w]
      rfl
    refine pure_ (i := 11) (N := some 24) (v := ?_) (a' := ?_) #[false, true, false, false, true, false, false, true, false, false, false, true, false, false, false, false, false, false, false, false, false, false] rfl rfl (any_of HT_.out (by kernel_rfl)) (fun _ _ _ h => h) (Or.inl ⟨by rfl, ?_⟩) ?_ ?_
    rotate_left
    · intro w'
      go_simp; with_reducible rfl
    rotate_left
    · simp only [Act.put, YM, YN, YO, i64_w, i32_w]
      rfl
    refine pure_ (i := 14) (N := some 27) (v := ?_) (a' := ?_) #[false, true, false, false, true, false, false, true, false, false, false, true, false, false, true, false, false, false, false, false, false, false] rfl rfl (any_of HT_.out (by kernel_rfl)) (fun _ _ _ h => h) (Or.inl ⟨by rfl, ?_⟩) ?_ ?_
    rotate_left
    · intro w'
      go_simp; with_reducible rfl
    rotate_left
    · simp only [Act.put, YM, YN, YO, i64_w, i32_w]
      rfl
    refine inv_at [0, 2, 3, 5, 6, 8, 9, 10, 12, 13, 15, 16, 17, 18, 19, 20, 21] (fun a0_ b a w' => ∃ (v256 : Value) (v259 : Value) (v262 : Value) (v265 : Value) (v268 : Value) (v271 : Value) (v274 : Value) (m20_ : Value), a = putSel a0_ b [(0, 13, v256), (2, 15, .int .i64 a0_1), (3, 16, v259), (5, 18, .int .i64 a0_2), (6, 19, .int .u8 ((a0_2) % 256)), (8, 21, .int .i64 a0_3), (9, 22, .int .u8 ((a0_3) % 256)), (10, 23, v262), (12, 25, .int .i64 a0_4), (13, 26, v265), (15, 28, .int .i64 a0_5), (16, 29, .int .u8 ((a0_5) % 256)), (17, 30, v268), (18, 31, v271), (19, 32, v274), (20, 2, m20_), (21, 3, .int .i64 0)] ∧ (w'.heap[gb250]? = some (.cells #[.bool false, .int .i64 a0_1, .int .i64 a0_2, .int .i64 a0_3, .int .i64 a0_4, .int .i64 a0_5] 41 (0, 0))) ∧ (Below w.heap.size w w') ∧ (b 0 = true → b 18 = false → Kd.R (Kd.int .u8) 5 w' w.heap.size (fun _ => True) v256 y255) ∧ (b 3 = true → b 18 = false → Kd.R (Kd.int .u8) 5 w' w.heap.size (fun _ => True) v259 t258) ∧ (b 10 = true → b 18 = false → Kd.R (Kd.int .u8) 5 w' w.heap.size (fun _ => True) v262 y261) ∧ (b 13 = true → b 18 = false → Kd.R (Kd.int .u8) 5 w' w.heap.size (fun _ => True) v265 t264) ∧ (b 17 = true → b 18 = false → Kd.R (Kd.int .u8) 5 w' w.heap.size (fun _ => True) v268 y267) ∧ (b 18 = true → Kd.N (Kd.slice 5 (Kd.int .u8)) 26 w' w.heap.size (fun k_ => k_ ≠ gb250) v271 y270) ∧ (b 19 = true → Kd.R (Kd.int .u8) 5 w' w.heap.size (fun _ => True) v274 t273) ∧ (b 20 = true → (m20_ : Value) = v274)) HT_.out HW_.out (by kernel_rfl) (by kernel_rfl) ?_ ?_ ?_
    · exact ⟨.bool false, .bool false, .bool false, .bool false, .bool false, .bool false, .bool false, .bool false, by simp only [putSel, Bool.false_eq_true, if_false], BK250.out, HB.out, fun h_ => absurd h_ (by decide), fun h_ => absurd h_ (by decide), fun h_ => absurd h_ (by decide), fun h_ => absurd h_ (by decide), fun h_ => absurd h_ (by decide), fun h_ => absurd h_ (by decide), fun h_ => absurd h_ (by decide), fun h_ => absurd h_ (by decide)⟩
    · skip
      clear BK250 HB
      refine steps_cons ?_ ?_
      · rintro b a w' ⟨v256, v259, v262, v265, v268, v271, v274, m20_, ha, Q_BK250, Q_HB, Q_HO257, Q_HO260, Q_HO263, Q_HO266, Q_HO269, Q_HO272, Q_HO275, Q_X20_⟩ hb_ hon hoff
        refine ⟨_, rfl, fun K hK => ?_⟩
        replace ha := YL ha
        have BK250 := YL Q_BK250; have HB := YL Q_HB
        refine Kd.R_lit_step (Kd.int .u8) _ 5 ?hg (N := 13) ?hd (xs := ([1] : List Int)) (inner := [.int .u8 1]) (ok := fun _ => True) (okp := fun _ => True) ?hr ?hp (fun _ hk => hk) trivial (Below.refl _ _) (Nat.le_refl _) (by simp) ?_; (case hd => rfl); (case hg => rfl); (case hr => first | (go_simp; done) | (go_simp; rfl)); (case hp => exact (Reps.one (show Kd.M (Kd.int .u8) _ _ _ 1 [.int .u8 1] from rfl) (Reps.none _ _)))
        intro v256 w19 ho20 hb hg_ hnew_
        clear hg_ hnew_
        (first | rw [← Ny255.out] at ho20 | (simp only [Int.reduceToNat] at ho20; rw [← Ny255.out] at ho20))
        have n0_ := YL (Kd.R_lower ho20 (YE (by repeat (first | (with_reducible first | exact HB.out | apply YA | apply YB | apply YC | refine below_set ?_ GE250.out) | exact HB.out))))
        have n1_ := YL (YK (g := gb250) (o := .cells #[.bool false, .int .i64 a0_1, .int .i64 a0_2, .int .i64 a0_3, .int .i64 a0_4, .int .i64 a0_5] 41 (0, 0)) (by (with_reducible repeat (first | refine YF ?_ _ | refine YG ?_ | refine YH ?_ _)); exact BK250.out) hb)
        have n2_ := YL (YD (by repeat (first | (with_reducible first | exact HB.out | apply YA | apply YB | apply YC | refine below_set ?_ GE250.out) | exact HB.out)) hb)
        have z_HO260 := fun (h0_ : b 3 = true) (h1_ : b 18 = false) => (show Kd.R (Kd.int .u8) 5 w19 w.heap.size (fun _ => True) v259 t258 from by first | exact (Kd.R_elder' (by (with_reducible repeat (first | apply YQ | apply YR | apply YS)); exact (Q_HO260 h0_ h1_)) (Kd.R_base ho20) hb) | exact Kd.R_mono (Kd.R_elder' (by (with_reducible repeat (first | apply YQ | apply YR | apply YS)); exact (Q_HO260 h0_ h1_)) (Kd.R_base ho20) hb) (fun _ h_ => by first | trivial | exact h_ | exact h_.1))
        have z_HO263 := fun (h0_ : b 10 = true) (h1_ : b 18 = false) => (show Kd.R (Kd.int .u8) 5 w19 w.heap.size (fun _ => True) v262 y261 from by first | exact (Kd.R_elder' (by (with_reducible repeat (first | apply YQ | apply YR | apply YS)); exact (Q_HO263 h0_ h1_)) (Kd.R_base ho20) hb) | exact Kd.R_mono (Kd.R_elder' (by (with_reducible repeat (first | apply YQ | apply YR | apply YS)); exact (Q_HO263 h0_ h1_)) (Kd.R_base ho20) hb) (fun _ h_ => by first | trivial | exact h_ | exact h_.1))
        have z_HO266 := fun (h0_ : b 13 = true) (h1_ : b 18 = false) => (show Kd.R (Kd.int .u8) 5 w19 w.heap.size (fun _ => True) v265 t264 from by first | exact (Kd.R_elder' (by (with_reducible repeat (first | apply YQ | apply YR | apply YS)); exact (Q_HO266 h0_ h1_)) (Kd.R_base ho20) hb) | exact Kd.R_mono (Kd.R_elder' (by (with_reducible repeat (first | apply YQ | apply YR | apply YS)); exact (Q_HO266 h0_ h1_)) (Kd.R_base ho20) hb) (fun _ h_ => by first | trivial | exact h_ | exact h_.1))
        have z_HO269 := fun (h0_ : b 17 = true) (h1_ : b 18 = false) => (show Kd.R (Kd.int .u8) 5 w19 w.heap.size (fun _ => True) v268 y267 from by first | exact (Kd.R_elder' (by (with_reducible repeat (first | apply YQ | apply YR | apply YS)); exact (Q_HO269 h0_ h1_)) (Kd.R_base ho20) hb) | exact Kd.R_mono (Kd.R_elder' (by (with_reducible repeat (first | apply YQ | apply YR | apply YS)); exact (Q_HO269 h0_ h1_)) (Kd.R_base ho20) hb) (fun _ h_ => by first | trivial | exact h_ | exact h_.1))
        clear BK250; clear HB; have HO257 := n0_; have BK250 := n1_; have HB := n2_; clear n0_ n1_ n2_; clear hb ho20
        refine hK.out _ _ ⟨v256, v259, v262, v265, v268, v271, v274, m20_, (by rw [ha.out]; exact putSel_upk 0 hb_ rfl rfl rfl), (by (with_reducible repeat (first | refine YF ?_ _ | refine YG ?_ | refine YH ?_ _)); exact BK250.out), (by repeat (first | (with_reducible first | exact HB.out | apply YA | apply YB | apply YC | refine below_set ?_ GE250.out) | exact HB.out)), fun _ _ => (by (with_reducible repeat (first | apply YQ | apply YR | apply YS)); exact HO257.out), z_HO260, z_HO263, z_HO266, z_HO269, fun h0_ => absurd ((hoff 18 (by kernel_rfl)).symm.trans h0_) (by decide), fun h0_ => absurd ((hoff 19 (by kernel_rfl)).symm.trans h0_) (by decide), fun h0_ => absurd ((hoff 20 (by kernel_rfl)).symm.trans h0_) (by decide)⟩
      refine steps_cons ?_ ?_
      · rintro b a w' ⟨v256, v259, v262, v265, v268, v271, v274, m20_, ha, Q_BK250, Q_HB, Q_HO257, Q_HO260, Q_HO263, Q_HO266, Q_HO269, Q_HO272, Q_HO275, Q_X20_⟩ hb_ hon hoff
        refine ⟨_, rfl, fun K hK => ?_⟩
        have e14 : a.tmps[14]? = some (.pointer (some ⟨gb250, 1, none⟩)) := by rw [ha]; exact (putSel_off rfl).trans rfl
        replace ha := YL ha
        have BK250 := YL Q_BK250; have HB := YL Q_HB
        have hc0_ : w'.cell? ⟨gb250, 0, none⟩ = some (.bool false) := (YI BK250.out 0).trans rfl
        have hc1_ : w'.cell? ⟨gb250, 1, none⟩ = some (.int .i64 a0_1) := (YI BK250.out 1).trans rfl
        have hc2_ : w'.cell? ⟨gb250, 2, none⟩ = some (.int .i64 a0_2) := (YI BK250.out 2).trans rfl
        have hc3_ : w'.cell? ⟨gb250, 3, none⟩ = some (.int .i64 a0_3) := (YI BK250.out 3).trans rfl
        have hc4_ : w'.cell? ⟨gb250, 4, none⟩ = some (.int .i64 a0_4) := (YI BK250.out 4).trans rfl
        have hc5_ : w'.cell? ⟨gb250, 5, none⟩ = some (.int .i64 a0_5) := (YI BK250.out 5).trans rfl
        refine value_ (w1 := w') (v := .int .i64 a0_1) (by rfl) rfl ?_ ?_
        · go_simp
          (try simp only [i64_w])
          try rfl
        refine hK.out _ _ ⟨v256, v259, v262, v265, v268, v271, v274, m20_, (by rw [ha.out]; exact putSel_upk 1 hb_ rfl rfl rfl), Q_BK250, Q_HB, Q_HO257, fun h0_ _ => absurd ((hoff 3 (by kernel_rfl)).symm.trans h0_) (by decide), Q_HO263, fun h0_ _ => absurd ((hoff 13 (by kernel_rfl)).symm.trans h0_) (by decide), Q_HO269, fun h0_ => absurd ((hoff 18 (by kernel_rfl)).symm.trans h0_) (by decide), fun h0_ => absurd ((hoff 19 (by kernel_rfl)).symm.trans h0_) (by decide), fun h0_ => absurd ((hoff 20 (by kernel_rfl)).symm.trans h0_) (by decide)⟩
      refine steps_cons ?_ ?_
      · rintro b a w' ⟨v256, v259, v262, v265, v268, v271, v274, m20_, ha, Q_BK250, Q_HB, Q_HO257, Q_HO260, Q_HO263, Q_HO266, Q_HO269, Q_HO272, Q_HO275, Q_X20_⟩ hb_ hon hoff
        refine ⟨_, rfl, fun K hK => ?_⟩
        have e15 : a.tmps[15]? = some (.int .i64 a0_1) := by rw [ha]; exact putSel_on (e := (2, 15, .int .i64 a0_1)) 1 rfl rfl (hon 2 (by kernel_rfl)) rfl
        replace ha := YL ha
        have BK250 := YL Q_BK250; have HB := YL Q_HB
        refine goes_ Try.func39 (by kernel_rfl) rfl #[.int .i64 a0_1] (by rfl) rfl rfl (by first | (simp only [YP, List.map_cons, List.map_nil, Act.eval, Array.getD_eq_getD_getElem?, Option.getD_some, e15]; done) | (simp only [YP, List.map_cons, List.map_nil, Act.eval, Array.getD_eq_getD_getElem?, Option.getD_some, e15]; rfl)) ?_
        with_reducible refine (thalwegref01_Int.calls k a0_1 t258 _ A11.out).mono ?_
        rintro e w19 ⟨v259, rfl, ho0, hb⟩
        refine ⟨_, rfl, ?_⟩
        have n0_ := YL (Kd.R_lower ho0 (YE (by repeat (first | (with_reducible first | exact HB.out | apply YA | apply YB | apply YC | refine below_set ?_ GE250.out) | exact HB.out))))
        have n1_ := YL (YK (g := gb250) (o := .cells #[.bool false, .int .i64 a0_1, .int .i64 a0_2, .int .i64 a0_3, .int .i64 a0_4, .int .i64 a0_5] 41 (0, 0)) (by (with_reducible repeat (first | refine YF ?_ _ | refine YG ?_ | refine YH ?_ _)); exact BK250.out) hb)
        have n2_ := YL (YD (by repeat (first | (with_reducible first | exact HB.out | apply YA | apply YB | apply YC | refine below_set ?_ GE250.out) | exact HB.out)) hb)
        have z_HO257 := fun (h0_ : b 0 = true) (h1_ : b 18 = false) => (show Kd.R (Kd.int .u8) 5 w19 w.heap.size (fun _ => True) v256 y255 from by first | exact (Kd.R_elder' (by (with_reducible repeat (first | apply YQ | apply YR | apply YS)); exact (Q_HO257 h0_ h1_)) (Kd.R_base ho0) hb) | exact Kd.R_mono (Kd.R_elder' (by (with_reducible repeat (first | apply YQ | apply YR | apply YS)); exact (Q_HO257 h0_ h1_)) (Kd.R_base ho0) hb) (fun _ h_ => by first | trivial | exact h_ | exact h_.1))
        have z_HO263 := fun (h0_ : b 10 = true) (h1_ : b 18 = false) => (show Kd.R (Kd.int .u8) 5 w19 w.heap.size (fun _ => True) v262 y261 from by first | exact (Kd.R_elder' (by (with_reducible repeat (first | apply YQ | apply YR | apply YS)); exact (Q_HO263 h0_ h1_)) (Kd.R_base ho0) hb) | exact Kd.R_mono (Kd.R_elder' (by (with_reducible repeat (first | apply YQ | apply YR | apply YS)); exact (Q_HO263 h0_ h1_)) (Kd.R_base ho0) hb) (fun _ h_ => by first | trivial | exact h_ | exact h_.1))
        have z_HO269 := fun (h0_ : b 17 = true) (h1_ : b 18 = false) => (show Kd.R (Kd.int .u8) 5 w19 w.heap.size (fun _ => True) v268 y267 from by first | exact (Kd.R_elder' (by (with_reducible repeat (first | apply YQ | apply YR | apply YS)); exact (Q_HO269 h0_ h1_)) (Kd.R_base ho0) hb) | exact Kd.R_mono (Kd.R_elder' (by (with_reducible repeat (first | apply YQ | apply YR | apply YS)); exact (Q_HO269 h0_ h1_)) (Kd.R_base ho0) hb) (fun _ h_ => by first | trivial | exact h_ | exact h_.1))
        clear BK250; clear HB; have HO260 := n0_; have BK250 := n1_; have HB := n2_; clear n0_ n1_ n2_; (try clear hb); (try clear hb2); (try clear hk); (try clear hi); (try clear ho0)
        refine hK.out _ _ ⟨v256, v259, v262, v265, v268, v271, v274, m20_, (by rw [ha.out]; exact putSel_upk 2 hb_ rfl rfl rfl), (by (with_reducible repeat (first | refine YF ?_ _ | refine YG ?_ | refine YH ?_ _)); exact BK250.out), (by repeat (first | (with_reducible first | exact HB.out | apply YA | apply YB | apply YC | refine below_set ?_ GE250.out) | exact HB.out)), z_HO257, fun _ _ => (by (with_reducible repeat (first | apply YQ | apply YR | apply YS)); exact HO260.out), z_HO263, fun h0_ _ => absurd ((hoff 13 (by kernel_rfl)).symm.trans h0_) (by decide), z_HO269, fun h0_ => absurd ((hoff 18 (by kernel_rfl)).symm.trans h0_) (by decide), fun h0_ => absurd ((hoff 19 (by kernel_rfl)).symm.trans h0_) (by decide), fun h0_ => absurd ((hoff 20 (by kernel_rfl)).symm.trans h0_) (by decide)⟩
      refine steps_cons ?_ ?_
      · rintro b a w' ⟨v256, v259, v262, v265, v268, v271, v274, m20_, ha, Q_BK250, Q_HB, Q_HO257, Q_HO260, Q_HO263, Q_HO266, Q_HO269, Q_HO272, Q_HO275, Q_X20_⟩ hb_ hon hoff
        refine ⟨_, rfl, fun K hK => ?_⟩
        have e17 : a.tmps[17]? = some (.pointer (some ⟨gb250, 2, none⟩)) := by rw [ha]; exact (putSel_off rfl).trans rfl
        replace ha := YL ha
        have BK250 := YL Q_BK250; have HB := YL Q_HB
        have hc0_ : w'.cell? ⟨gb250, 0, none⟩ = some (.bool false) := (YI BK250.out 0).trans rfl
        have hc1_ : w'.cell? ⟨gb250, 1, none⟩ = some (.int .i64 a0_1) := (YI BK250.out 1).trans rfl
        have hc2_ : w'.cell? ⟨gb250, 2, none⟩ = some (.int .i64 a0_2) := (YI BK250.out 2).trans rfl
        have hc3_ : w'.cell? ⟨gb250, 3, none⟩ = some (.int .i64 a0_3) := (YI BK250.out 3).trans rfl
        have hc4_ : w'.cell? ⟨gb250, 4, none⟩ = some (.int .i64 a0_4) := (YI BK250.out 4).trans rfl
        have hc5_ : w'.cell? ⟨gb250, 5, none⟩ = some (.int .i64 a0_5) := (YI BK250.out 5).trans rfl
        refine value_ (w1 := w') (v := .int .i64 a0_2) (by rfl) rfl ?_ ?_
        · go_simp
          (try simp only [i64_w])
          try rfl
        refine hK.out _ _ ⟨v256, v259, v262, v265, v268, v271, v274, m20_, (by rw [ha.out]; exact putSel_upk 3 hb_ rfl rfl rfl), Q_BK250, Q_HB, Q_HO257, Q_HO260, fun h0_ _ => absurd ((hoff 10 (by kernel_rfl)).symm.trans h0_) (by decide), Q_HO266, Q_HO269, fun h0_ => absurd ((hoff 18 (by kernel_rfl)).symm.trans h0_) (by decide), fun h0_ => absurd ((hoff 19 (by kernel_rfl)).symm.trans h0_) (by decide), fun h0_ => absurd ((hoff 20 (by kernel_rfl)).symm.trans h0_) (by decide)⟩
      refine steps_cons ?_ ?_
      · rintro b a w' ⟨v256, v259, v262, v265, v268, v271, v274, m20_, ha, Q_BK250, Q_HB, Q_HO257, Q_HO260, Q_HO263, Q_HO266, Q_HO269, Q_HO272, Q_HO275, Q_X20_⟩ hb_ hon hoff
        refine ⟨_, rfl, fun K hK => ?_⟩
        have e18 : a.tmps[18]? = some (.int .i64 a0_2) := by rw [ha]; exact putSel_on (e := (5, 18, .int .i64 a0_2)) 3 rfl rfl (hon 5 (by kernel_rfl)) rfl
        replace ha := YL ha
        have BK250 := YL Q_BK250; have HB := YL Q_HB
        refine value_ (w1 := w') (v := .int .u8 ((a0_2) % 256)) (by rfl) rfl ?_ ?_
        · go_simp
          (try simp only [i64_w])
          try rfl
        refine hK.out _ _ ⟨v256, v259, v262, v265, v268, v271, v274, m20_, (by rw [ha.out]; exact putSel_upk 4 hb_ rfl rfl rfl), Q_BK250, Q_HB, Q_HO257, Q_HO260, fun h0_ _ => absurd ((hoff 10 (by kernel_rfl)).symm.trans h0_) (by decide), Q_HO266, Q_HO269, fun h0_ => absurd ((hoff 18 (by kernel_rfl)).symm.trans h0_) (by decide), fun h0_ => absurd ((hoff 19 (by kernel_rfl)).symm.trans h0_) (by decide), fun h0_ => absurd ((hoff 20 (by kernel_rfl)).symm.trans h0_) (by decide)⟩
      refine steps_cons ?_ ?_
      · rintro b a w' ⟨v256, v259, v262, v265, v268, v271, v274, m20_, ha, Q_BK250, Q_HB, Q_HO257, Q_HO260, Q_HO263, Q_HO266, Q_HO269, Q_HO272, Q_HO275, Q_X20_⟩ hb_ hon hoff
        refine ⟨_, rfl, fun K hK => ?_⟩
        have e20 : a.tmps[20]? = some (.pointer (some ⟨gb250, 3, none⟩)) := by rw [ha]; exact (putSel_off rfl).trans rfl
        replace ha := YL ha
        have BK250 := YL Q_BK250; have HB := YL Q_HB
        have hc0_ : w'.cell? ⟨gb250, 0, none⟩ = some (.bool false) := (YI BK250.out 0).trans rfl
        have hc1_ : w'.cell? ⟨gb250, 1, none⟩ = some (.int .i64 a0_1) := (YI BK250.out 1).trans rfl
        have hc2_ : w'.cell? ⟨gb250, 2, none⟩ = some (.int .i64 a0_2) := (YI BK250.out 2).trans rfl
        have hc3_ : w'.cell? ⟨gb250, 3, none⟩ = some (.int .i64 a0_3) := (YI BK250.out 3).trans rfl
        have hc4_ : w'.cell? ⟨gb250, 4, none⟩ = some (.int .i64 a0_4) := (YI BK250.out 4).trans rfl
        have hc5_ : w'.cell? ⟨gb250, 5, none⟩ = some (.int .i64 a0_5) := (YI BK250.out 5).trans rfl
        refine value_ (w1 := w') (v := .int .i64 a0_3) (by rfl) rfl ?_ ?_
        · go_simp
          (try simp only [i64_w])
          try rfl
        refine hK.out _ _ ⟨v256, v259, v262, v265, v268, v271, v274, m20_, (by rw [ha.out]; exact putSel_upk 5 hb_ rfl rfl rfl), Q_BK250, Q_HB, Q_HO257, Q_HO260, fun h0_ _ => absurd ((hoff 10 (by kernel_rfl)).symm.trans h0_) (by decide), Q_HO266, Q_HO269, fun h0_ => absurd ((hoff 18 (by kernel_rfl)).symm.trans h0_) (by decide), fun h0_ => absurd ((hoff 19 (by kernel_rfl)).symm.trans h0_) (by decide), fun h0_ => absurd ((hoff 20 (by kernel_rfl)).symm.trans h0_) (by decide)⟩
      refine steps_cons ?_ ?_
      · rintro b a w' ⟨v256, v259, v262, v265, v268, v271, v274, m20_, ha, Q_BK250, Q_HB, Q_HO257, Q_HO260, Q_HO263, Q_HO266, Q_HO269, Q_HO272, Q_HO275, Q_X20_⟩ hb_ hon hoff
        refine ⟨_, rfl, fun K hK => ?_⟩
        have e21 : a.tmps[21]? = some (.int .i64 a0_3) := by rw [ha]; exact putSel_on (e := (8, 21, .int .i64 a0_3)) 5 rfl rfl (hon 8 (by kernel_rfl)) rfl
        replace ha := YL ha
        have BK250 := YL Q_BK250; have HB := YL Q_HB
        refine value_ (w1 := w') (v := .int .u8 ((a0_3) % 256)) (by rfl) rfl ?_ ?_
        · go_simp
          (try simp only [i64_w])
          try rfl
        refine hK.out _ _ ⟨v256, v259, v262, v265, v268, v271, v274, m20_, (by rw [ha.out]; exact putSel_upk 6 hb_ rfl rfl rfl), Q_BK250, Q_HB, Q_HO257, Q_HO260, fun h0_ _ => absurd ((hoff 10 (by kernel_rfl)).symm.trans h0_) (by decide), Q_HO266, Q_HO269, fun h0_ => absurd ((hoff 18 (by kernel_rfl)).symm.trans h0_) (by decide), fun h0_ => absurd ((hoff 19 (by kernel_rfl)).symm.trans h0_) (by decide), fun h0_ => absurd ((hoff 20 (by kernel_rfl)).symm.trans h0_) (by decide)⟩
      refine steps_cons ?_ ?_
      · rintro b a w' ⟨v256, v259, v262, v265, v268, v271, v274, m20_, ha, Q_BK250, Q_HB, Q_HO257, Q_HO260, Q_HO263, Q_HO266, Q_HO269, Q_HO272, Q_HO275, Q_X20_⟩ hb_ hon hoff
        refine ⟨_, rfl, fun K hK => ?_⟩
        have e19 : a.tmps[19]? = some (.int .u8 ((a0_2) % 256)) := by rw [ha]; exact putSel_on (e := (6, 19, .int .u8 ((a0_2) % 256))) 4 rfl rfl (hon 6 (by kernel_rfl)) rfl
        have e22 : a.tmps[22]? = some (.int .u8 ((a0_3) % 256)) := by rw [ha]; exact putSel_on (e := (9, 22, .int .u8 ((a0_3) % 256))) 6 rfl rfl (hon 9 (by kernel_rfl)) rfl
        replace ha := YL ha
        have BK250 := YL Q_BK250; have HB := YL Q_HB
        refine Kd.R_lit_step (Kd.int .u8) _ 5 ?hg (N := 23) ?hd (xs := ([(a0_2) % 256, (a0_3) % 256] : List Int)) (inner := [.int .u8 ((a0_2) % 256), .int .u8 ((a0_3) % 256)]) (ok := fun _ => True) (okp := fun _ => True) ?hr ?hp (fun _ hk => hk) trivial (Below.refl _ _) (Nat.le_refl _) (by simp) ?_; (case hd => rfl); (case hg => rfl); (case hr => first | (go_simp; done) | (go_simp; rfl)); (case hp => exact (Reps.one (show Kd.M (Kd.int .u8) _ _ _ ((a0_2) % 256) [.int .u8 ((a0_2) % 256)] from rfl) (Reps.one (show Kd.M (Kd.int .u8) _ _ _ ((a0_3) % 256) [.int .u8 ((a0_3) % 256)] from rfl) (Reps.none _ _))))
        intro v262 w19 ho20 hb hg_ hnew_
        clear hg_ hnew_
        (first | rw [← Ny261.out] at ho20 | (simp only [Int.reduceToNat] at ho20; rw [← Ny261.out] at ho20))
        have n0_ := YL (Kd.R_lower ho20 (YE (by repeat (first | (with_reducible first | exact HB.out | apply YA | apply YB | apply YC | refine below_set ?_ GE250.out) | exact HB.out))))
        have n1_ := YL (YK (g := gb250) (o := .cells #[.bool false, .int .i64 a0_1, .int .i64 a0_2, .int .i64 a0_3, .int .i64 a0_4, .int .i64 a0_5] 41 (0, 0)) (by (with_reducible repeat (first | refine YF ?_ _ | refine YG ?_ | refine YH ?_ _)); exact BK250.out) hb)
        have n2_ := YL (YD (by repeat (first | (with_reducible first | exact HB.out | apply YA | apply YB | apply YC | refine below_set ?_ GE250.out) | exact HB.out)) hb)
        have z_HO257 := fun (h0_ : b 0 = true) (h1_ : b 18 = false) => (show Kd.R (Kd.int .u8) 5 w19 w.heap.size (fun _ => True) v256 y255 from by first | exact (Kd.R_elder' (by (with_reducible repeat (first | apply YQ | apply YR | apply YS)); exact (Q_HO257 h0_ h1_)) (Kd.R_base ho20) hb) | exact Kd.R_mono (Kd.R_elder' (by (with_reducible repeat (first | apply YQ | apply YR | apply YS)); exact (Q_HO257 h0_ h1_)) (Kd.R_base ho20) hb) (fun _ h_ => by first | trivial | exact h_ | exact h_.1))
        have z_HO260 := fun (h0_ : b 3 = true) (h1_ : b 18 = false) => (show Kd.R (Kd.int .u8) 5 w19 w.heap.size (fun _ => True) v259 t258 from by first | exact (Kd.R_elder' (by (with_reducible repeat (first | apply YQ | apply YR | apply YS)); exact (Q_HO260 h0_ h1_)) (Kd.R_base ho20) hb) | exact Kd.R_mono (Kd.R_elder' (by (with_reducible repeat (first | apply YQ | apply YR | apply YS)); exact (Q_HO260 h0_ h1_)) (Kd.R_base ho20) hb) (fun _ h_ => by first | trivial | exact h_ | exact h_.1))
        have z_HO266 := fun (h0_ : b 13 = true) (h1_ : b 18 = false) => (show Kd.R (Kd.int .u8) 5 w19 w.heap.size (fun _ => True) v265 t264 from by first | exact (Kd.R_elder' (by (with_reducible repeat (first | apply YQ | apply YR | apply YS)); exact (Q_HO266 h0_ h1_)) (Kd.R_base ho20) hb) | exact Kd.R_mono (Kd.R_elder' (by (with_reducible repeat (first | apply YQ | apply YR | apply YS)); exact (Q_HO266 h0_ h1_)) (Kd.R_base ho20) hb) (fun _ h_ => by first | trivial | exact h_ | exact h_.1))
        have z_HO269 := fun (h0_ : b 17 = true) (h1_ : b 18 = false) => (show Kd.R (Kd.int .u8) 5 w19 w.heap.size (fun _ => True) v268 y267 from by first | exact (Kd.R_elder' (by (with_reducible repeat (first | apply YQ | apply YR | apply YS)); exact (Q_HO269 h0_ h1_)) (Kd.R_base ho20) hb) | exact Kd.R_mono (Kd.R_elder' (by (with_reducible repeat (first | apply YQ | apply YR | apply YS)); exact (Q_HO269 h0_ h1_)) (Kd.R_base ho20) hb) (fun _ h_ => by first | trivial | exact h_ | exact h_.1))
        clear BK250; clear HB; have HO263 := n0_; have BK250 := n1_; have HB := n2_; clear n0_ n1_ n2_; clear hb ho20
        refine hK.out _ _ ⟨v256, v259, v262, v265, v268, v271, v274, m20_, (by rw [ha.out]; exact putSel_upk 7 hb_ rfl rfl rfl), (by (with_reducible repeat (first | refine YF ?_ _ | refine YG ?_ | refine YH ?_ _)); exact BK250.out), (by repeat (first | (with_reducible first | exact HB.out | apply YA | apply YB | apply YC | refine below_set ?_ GE250.out) | exact HB.out)), z_HO257, z_HO260, fun _ _ => (by (with_reducible repeat (first | apply YQ | apply YR | apply YS)); exact HO263.out), z_HO266, z_HO269, fun h0_ => absurd ((hoff 18 (by kernel_rfl)).symm.trans h0_) (by decide), fun h0_ => absurd ((hoff 19 (by kernel_rfl)).symm.trans h0_) (by decide), fun h0_ => absurd ((hoff 20 (by kernel_rfl)).symm.trans h0_) (by decide)⟩
      refine steps_cons ?_ ?_
      · rintro b a w' ⟨v256, v259, v262, v265, v268, v271, v274, m20_, ha, Q_BK250, Q_HB, Q_HO257, Q_HO260, Q_HO263, Q_HO266, Q_HO269, Q_HO272, Q_HO275, Q_X20_⟩ hb_ hon hoff
        refine ⟨_, rfl, fun K hK => ?_⟩
        have e24 : a.tmps[24]? = some (.pointer (some ⟨gb250, 4, none⟩)) := by rw [ha]; exact (putSel_off rfl).trans rfl
        replace ha := YL ha
        have BK250 := YL Q_BK250; have HB := YL Q_HB
        have hc0_ : w'.cell? ⟨gb250, 0, none⟩ = some (.bool false) := (YI BK250.out 0).trans rfl
        have hc1_ : w'.cell? ⟨gb250, 1, none⟩ = some (.int .i64 a0_1) := (YI BK250.out 1).trans rfl
        have hc2_ : w'.cell? ⟨gb250, 2, none⟩ = some (.int .i64 a0_2) := (YI BK250.out 2).trans rfl
        have hc3_ : w'.cell? ⟨gb250, 3, none⟩ = some (.int .i64 a0_3) := (YI BK250.out 3).trans rfl
        have hc4_ : w'.cell? ⟨gb250, 4, none⟩ = some (.int .i64 a0_4) := (YI BK250.out 4).trans rfl
        have hc5_ : w'.cell? ⟨gb250, 5, none⟩ = some (.int .i64 a0_5) := (YI BK250.out 5).trans rfl
        refine value_ (w1 := w') (v := .int .i64 a0_4) (by rfl) rfl ?_ ?_
        · go_simp
          (try simp only [i64_w])
          try rfl
        refine hK.out _ _ ⟨v256, v259, v262, v265, v268, v271, v274, m20_, (by rw [ha.out]; exact putSel_upk 8 hb_ rfl rfl rfl), Q_BK250, Q_HB, Q_HO257, Q_HO260, Q_HO263, fun h0_ _ => absurd ((hoff 13 (by kernel_rfl)).symm.trans h0_) (by decide), Q_HO269, fun h0_ => absurd ((hoff 18 (by kernel_rfl)).symm.trans h0_) (by decide), fun h0_ => absurd ((hoff 19 (by kernel_rfl)).symm.trans h0_) (by decide), fun h0_ => absurd ((hoff 20 (by kernel_rfl)).symm.trans h0_) (by decide)⟩
      refine steps_cons ?_ ?_
      · rintro b a w' ⟨v256, v259, v262, v265, v268, v271, v274, m20_, ha, Q_BK250, Q_HB, Q_HO257, Q_HO260, Q_HO263, Q_HO266, Q_HO269, Q_HO272, Q_HO275, Q_X20_⟩ hb_ hon hoff
        refine ⟨_, rfl, fun K hK => ?_⟩
        have e25 : a.tmps[25]? = some (.int .i64 a0_4) := by rw [ha]; exact putSel_on (e := (12, 25, .int .i64 a0_4)) 8 rfl rfl (hon 12 (by kernel_rfl)) rfl
        replace ha := YL ha
        have BK250 := YL Q_BK250; have HB := YL Q_HB
        have HO260 := YL (Q_HO260 (hon 3 (by kernel_rfl)) (hoff 18 (by kernel_rfl)))
        refine goes_ Try.func39 (by kernel_rfl) rfl #[.int .i64 a0_4] (by rfl) rfl rfl (by first | (simp only [YP, List.map_cons, List.map_nil, Act.eval, Array.getD_eq_getD_getElem?, Option.getD_some, e25]; done) | (simp only [YP, List.map_cons, List.map_nil, Act.eval, Array.getD_eq_getD_getElem?, Option.getD_some, e25]; rfl)) ?_
        with_reducible refine (thalwegref01_Int.calls k a0_4 t264 _ A12.out).mono ?_
        rintro e w21 ⟨v265, rfl, ho0, hb⟩
        refine ⟨_, rfl, ?_⟩
        have n0_ := YL (Kd.R_elder' (by (with_reducible repeat (first | apply YQ | apply YR | apply YS)); exact HO260.out) (Kd.R_base ho0) hb)
        have n1_ := YL (Kd.R_lower (Kd.R_new' ho0 (Kd.R_lt (by (with_reducible repeat (first | apply YQ | apply YR | apply YS)); exact HO260.out))) (YE (by repeat (first | (with_reducible first | exact HB.out | apply YA | apply YB | apply YC | refine below_set ?_ GE250.out) | exact HB.out))))
        have n2_ := YL (YK (g := gb250) (o := .cells #[.bool false, .int .i64 a0_1, .int .i64 a0_2, .int .i64 a0_3, .int .i64 a0_4, .int .i64 a0_5] 41 (0, 0)) (by (with_reducible repeat (first | refine YF ?_ _ | refine YG ?_ | refine YH ?_ _)); exact BK250.out) hb)
        have n3_ := YL (YD (by repeat (first | (with_reducible first | exact HB.out | apply YA | apply YB | apply YC | refine below_set ?_ GE250.out) | exact HB.out)) hb)
        have z_HO257 := fun (h0_ : b 0 = true) (h1_ : b 18 = false) => (show Kd.R (Kd.int .u8) 5 w21 w.heap.size (fun _ => True) v256 y255 from by first | exact (Kd.R_elder' (by (with_reducible repeat (first | apply YQ | apply YR | apply YS)); exact (Q_HO257 h0_ h1_)) (Kd.R_base ho0) hb) | exact Kd.R_mono (Kd.R_elder' (by (with_reducible repeat (first | apply YQ | apply YR | apply YS)); exact (Q_HO257 h0_ h1_)) (Kd.R_base ho0) hb) (fun _ h_ => by first | trivial | exact h_ | exact h_.1))
        have z_HO263 := fun (h0_ : b 10 = true) (h1_ : b 18 = false) => (show Kd.R (Kd.int .u8) 5 w21 w.heap.size (fun _ => True) v262 y261 from by first | exact (Kd.R_elder' (by (with_reducible repeat (first | apply YQ | apply YR | apply YS)); exact (Q_HO263 h0_ h1_)) (Kd.R_base ho0) hb) | exact Kd.R_mono (Kd.R_elder' (by (with_reducible repeat (first | apply YQ | apply YR | apply YS)); exact (Q_HO263 h0_ h1_)) (Kd.R_base ho0) hb) (fun _ h_ => by first | trivial | exact h_ | exact h_.1))
        have z_HO269 := fun (h0_ : b 17 = true) (h1_ : b 18 = false) => (show Kd.R (Kd.int .u8) 5 w21 w.heap.size (fun _ => True) v268 y267 from by first | exact (Kd.R_elder' (by (with_reducible repeat (first | apply YQ | apply YR | apply YS)); exact (Q_HO269 h0_ h1_)) (Kd.R_base ho0) hb) | exact Kd.R_mono (Kd.R_elder' (by (with_reducible repeat (first | apply YQ | apply YR | apply YS)); exact (Q_HO269 h0_ h1_)) (Kd.R_base ho0) hb) (fun _ h_ => by first | trivial | exact h_ | exact h_.1))
        clear HO260; clear BK250; clear HB; have HO260 := n0_; have HO266 := n1_; have BK250 := n2_; have HB := n3_; clear n0_ n1_ n2_ n3_; (try clear hb); (try clear hb2); (try clear hk); (try clear hi); (try clear ho0)
        refine hK.out _ _ ⟨v256, v259, v262, v265, v268, v271, v274, m20_, (by rw [ha.out]; exact putSel_upk 9 hb_ rfl rfl rfl), (by (with_reducible repeat (first | refine YF ?_ _ | refine YG ?_ | refine YH ?_ _)); exact BK250.out), (by repeat (first | (with_reducible first | exact HB.out | apply YA | apply YB | apply YC | refine below_set ?_ GE250.out) | exact HB.out)), z_HO257, fun _ _ => (by (with_reducible repeat (first | apply YQ | apply YR | apply YS)); exact Kd.R_mono HO260.out (fun _ hk => by first | exact hk.2 | exact trivial | (simp [hk]; done) | simp_all)), z_HO263, fun _ _ => (by (with_reducible repeat (first | apply YQ | apply YR | apply YS)); exact Kd.R_mono HO266.out (fun _ hk => by first | exact hk.2 | exact trivial | (simp [hk]; done) | simp_all)), z_HO269, fun h0_ => absurd ((hoff 18 (by kernel_rfl)).symm.trans h0_) (by decide), fun h0_ => absurd ((hoff 19 (by kernel_rfl)).symm.trans h0_) (by decide), fun h0_ => absurd ((hoff 20 (by kernel_rfl)).symm.trans h0_) (by decide)⟩
      refine steps_cons ?_ ?_
      · rintro b a w' ⟨v256, v259, v262, v265, v268, v271, v274, m20_, ha, Q_BK250, Q_HB, Q_HO257, Q_HO260, Q_HO263, Q_HO266, Q_HO269, Q_HO272, Q_HO275, Q_X20_⟩ hb_ hon hoff
        refine ⟨_, rfl, fun K hK => ?_⟩
        have e27 : a.tmps[27]? = some (.pointer (some ⟨gb250, 5, none⟩)) := by rw [ha]; exact (putSel_off rfl).trans rfl
        replace ha := YL ha
        have BK250 := YL Q_BK250; have HB := YL Q_HB
        have hc0_ : w'.cell? ⟨gb250, 0, none⟩ = some (.bool false) := (YI BK250.out 0).trans rfl
        have hc1_ : w'.cell? ⟨gb250, 1, none⟩ = some (.int .i64 a0_1) := (YI BK250.out 1).trans rfl
        have hc2_ : w'.cell? ⟨gb250, 2, none⟩ = some (.int .i64 a0_2) := (YI BK250.out 2).trans rfl
        have hc3_ : w'.cell? ⟨gb250, 3, none⟩ = some (.int .i64 a0_3) := (YI BK250.out 3).trans rfl
        have hc4_ : w'.cell? ⟨gb250, 4, none⟩ = some (.int .i64 a0_4) := (YI BK250.out 4).trans rfl
        have hc5_ : w'.cell? ⟨gb250, 5, none⟩ = some (.int .i64 a0_5) := (YI BK250.out 5).trans rfl
        refine value_ (w1 := w') (v := .int .i64 a0_5) (by rfl) rfl ?_ ?_
        · go_simp
          (try simp only [i64_w])
          try rfl
        refine hK.out _ _ ⟨v256, v259, v262, v265, v268, v271, v274, m20_, (by rw [ha.out]; exact putSel_upk 10 hb_ rfl rfl rfl), Q_BK250, Q_HB, Q_HO257, Q_HO260, Q_HO263, Q_HO266, fun h0_ _ => absurd ((hoff 17 (by kernel_rfl)).symm.trans h0_) (by decide), fun h0_ => absurd ((hoff 18 (by kernel_rfl)).symm.trans h0_) (by decide), fun h0_ => absurd ((hoff 19 (by kernel_rfl)).symm.trans h0_) (by decide), fun h0_ => absurd ((hoff 20 (by kernel_rfl)).symm.trans h0_) (by decide)⟩
      refine steps_cons ?_ ?_
      · rintro b a w' ⟨v256, v259, v262, v265, v268, v271, v274, m20_, ha, Q_BK250, Q_HB, Q_HO257, Q_HO260, Q_HO263, Q_HO266, Q_HO269, Q_HO272, Q_HO275, Q_X20_⟩ hb_ hon hoff
        refine ⟨_, rfl, fun K hK => ?_⟩
        have e28 : a.tmps[28]? = some (.int .i64 a0_5) := by rw [ha]; exact putSel_on (e := (15, 28, .int .i64 a0_5)) 10 rfl rfl (hon 15 (by kernel_rfl)) rfl
        replace ha := YL ha
        have BK250 := YL Q_BK250; have HB := YL Q_HB
        refine value_ (w1 := w') (v := .int .u8 ((a0_5) % 256)) (by rfl) rfl ?_ ?_
        · go_simp
          (try simp only [i64_w])
          try rfl
        refine hK.out _ _ ⟨v256, v259, v262, v265, v268, v271, v274, m20_, (by rw [ha.out]; exact putSel_upk 11 hb_ rfl rfl rfl), Q_BK250, Q_HB, Q_HO257, Q_HO260, Q_HO263, Q_HO266, fun h0_ _ => absurd ((hoff 17 (by kernel_rfl)).symm.trans h0_) (by decide), fun h0_ => absurd ((hoff 18 (by kernel_rfl)).symm.trans h0_) (by decide), fun h0_ => absurd ((hoff 19 (by kernel_rfl)).symm.trans h0_) (by decide), fun h0_ => absurd ((hoff 20 (by kernel_rfl)).symm.trans h0_) (by decide)⟩
      refine steps_cons ?_ ?_
      · rintro b a w' ⟨v256, v259, v262, v265, v268, v271, v274, m20_, ha, Q_BK250, Q_HB, Q_HO257, Q_HO260, Q_HO263, Q_HO266, Q_HO269, Q_HO272, Q_HO275, Q_X20_⟩ hb_ hon hoff
        refine ⟨_, rfl, fun K hK => ?_⟩
        have e29 : a.tmps[29]? = some (.int .u8 ((a0_5) % 256)) := by rw [ha]; exact putSel_on (e := (16, 29, .int .u8 ((a0_5) % 256))) 11 rfl rfl (hon 16 (by kernel_rfl)) rfl
        replace ha := YL ha
        have BK250 := YL Q_BK250; have HB := YL Q_HB
        refine Kd.R_lit_step (Kd.int .u8) _ 5 ?hg (N := 30) ?hd (xs := ([(a0_5) % 256] : List Int)) (inner := [.int .u8 ((a0_5) % 256)]) (ok := fun _ => True) (okp := fun _ => True) ?hr ?hp (fun _ hk => hk) trivial (Below.refl _ _) (Nat.le_refl _) (by simp) ?_; (case hd => rfl); (case hg => rfl); (case hr => first | (go_simp; done) | (go_simp; rfl)); (case hp => exact (Reps.one (show Kd.M (Kd.int .u8) _ _ _ ((a0_5) % 256) [.int .u8 ((a0_5) % 256)] from rfl) (Reps.none _ _)))
        intro v268 w19 ho20 hb hg_ hnew_
        clear hg_ hnew_
        (first | rw [← Ny267.out] at ho20 | (simp only [Int.reduceToNat] at ho20; rw [← Ny267.out] at ho20))
        have n0_ := YL (Kd.R_lower ho20 (YE (by repeat (first | (with_reducible first | exact HB.out | apply YA | apply YB | apply YC | refine below_set ?_ GE250.out) | exact HB.out))))
        have n1_ := YL (YK (g := gb250) (o := .cells #[.bool false, .int .i64 a0_1, .int .i64 a0_2, .int .i64 a0_3, .int .i64 a0_4, .int .i64 a0_5] 41 (0, 0)) (by (with_reducible repeat (first | refine YF ?_ _ | refine YG ?_ | refine YH ?_ _)); exact BK250.out) hb)
        have n2_ := YL (YD (by repeat (first | (with_reducible first | exact HB.out | apply YA | apply YB | apply YC | refine below_set ?_ GE250.out) | exact HB.out)) hb)
        have z_HO257 := fun (h0_ : b 0 = true) (h1_ : b 18 = false) => (show Kd.R (Kd.int .u8) 5 w19 w.heap.size (fun _ => True) v256 y255 from by first | exact (Kd.R_elder' (by (with_reducible repeat (first | apply YQ | apply YR | apply YS)); exact (Q_HO257 h0_ h1_)) (Kd.R_base ho20) hb) | exact Kd.R_mono (Kd.R_elder' (by (with_reducible repeat (first | apply YQ | apply YR | apply YS)); exact (Q_HO257 h0_ h1_)) (Kd.R_base ho20) hb) (fun _ h_ => by first | trivial | exact h_ | exact h_.1))
        have z_HO260 := fun (h0_ : b 3 = true) (h1_ : b 18 = false) => (show Kd.R (Kd.int .u8) 5 w19 w.heap.size (fun _ => True) v259 t258 from by first | exact (Kd.R_elder' (by (with_reducible repeat (first | apply YQ | apply YR | apply YS)); exact (Q_HO260 h0_ h1_)) (Kd.R_base ho20) hb) | exact Kd.R_mono (Kd.R_elder' (by (with_reducible repeat (first | apply YQ | apply YR | apply YS)); exact (Q_HO260 h0_ h1_)) (Kd.R_base ho20) hb) (fun _ h_ => by first | trivial | exact h_ | exact h_.1))
        have z_HO263 := fun (h0_ : b 10 = true) (h1_ : b 18 = false) => (show Kd.R (Kd.int .u8) 5 w19 w.heap.size (fun _ => True) v262 y261 from by first | exact (Kd.R_elder' (by (with_reducible repeat (first | apply YQ | apply YR | apply YS)); exact (Q_HO263 h0_ h1_)) (Kd.R_base ho20) hb) | exact Kd.R_mono (Kd.R_elder' (by (with_reducible repeat (first | apply YQ | apply YR | apply YS)); exact (Q_HO263 h0_ h1_)) (Kd.R_base ho20) hb) (fun _ h_ => by first | trivial | exact h_ | exact h_.1))
        have z_HO266 := fun (h0_ : b 13 = true) (h1_ : b 18 = false) => (show Kd.R (Kd.int .u8) 5 w19 w.heap.size (fun _ => True) v265 t264 from by first | exact (Kd.R_elder' (by (with_reducible repeat (first | apply YQ | apply YR | apply YS)); exact (Q_HO266 h0_ h1_)) (Kd.R_base ho20) hb) | exact Kd.R_mono (Kd.R_elder' (by (with_reducible repeat (first | apply YQ | apply YR | apply YS)); exact (Q_HO266 h0_ h1_)) (Kd.R_base ho20) hb) (fun _ h_ => by first | trivial | exact h_ | exact h_.1))
        clear BK250; clear HB; have HO269 := n0_; have BK250 := n1_; have HB := n2_; clear n0_ n1_ n2_; clear hb ho20
        refine hK.out _ _ ⟨v256, v259, v262, v265, v268, v271, v274, m20_, (by rw [ha.out]; exact putSel_upk 12 hb_ rfl rfl rfl), (by (with_reducible repeat (first | refine YF ?_ _ | refine YG ?_ | refine YH ?_ _)); exact BK250.out), (by repeat (first | (with_reducible first | exact HB.out | apply YA | apply YB | apply YC | refine below_set ?_ GE250.out) | exact HB.out)), z_HO257, z_HO260, z_HO263, z_HO266, fun _ _ => (by (with_reducible repeat (first | apply YQ | apply YR | apply YS)); exact HO269.out), fun h0_ => absurd ((hoff 18 (by kernel_rfl)).symm.trans h0_) (by decide), fun h0_ => absurd ((hoff 19 (by kernel_rfl)).symm.trans h0_) (by decide), fun h0_ => absurd ((hoff 20 (by kernel_rfl)).symm.trans h0_) (by decide)⟩
      refine steps_cons ?_ ?_
      · rintro b a w' ⟨v256, v259, v262, v265, v268, v271, v274, m20_, ha, Q_BK250, Q_HB, Q_HO257, Q_HO260, Q_HO263, Q_HO266, Q_HO269, Q_HO272, Q_HO275, Q_X20_⟩ hb_ hon hoff
        refine ⟨_, rfl, fun K hK => ?_⟩
        have e13 : a.tmps[13]? = some (v256) := by rw [ha]; exact putSel_on (e := (0, 13, v256)) 0 rfl rfl (hon 0 (by kernel_rfl)) rfl
        have e16 : a.tmps[16]? = some (v259) := by rw [ha]; exact putSel_on (e := (3, 16, v259)) 2 rfl rfl (hon 3 (by kernel_rfl)) rfl
        have e23 : a.tmps[23]? = some (v262) := by rw [ha]; exact putSel_on (e := (10, 23, v262)) 7 rfl rfl (hon 10 (by kernel_rfl)) rfl
        have e26 : a.tmps[26]? = some (v265) := by rw [ha]; exact putSel_on (e := (13, 26, v265)) 9 rfl rfl (hon 13 (by kernel_rfl)) rfl
        have e30 : a.tmps[30]? = some (v268) := by rw [ha]; exact putSel_on (e := (17, 30, v268)) 12 rfl rfl (hon 17 (by kernel_rfl)) rfl
        replace ha := YL ha
        have BK250 := YL Q_BK250; have HB := YL Q_HB
        have HO257 := YL (Q_HO257 (hon 0 (by kernel_rfl)) hb_)
        have HO260 := YL (Q_HO260 (hon 3 (by kernel_rfl)) hb_)
        have HO263 := YL (Q_HO263 (hon 10 (by kernel_rfl)) hb_)
        have HO266 := YL (Q_HO266 (hon 13 (by kernel_rfl)) hb_)
        have HO269 := YL (Q_HO269 (hon 17 (by kernel_rfl)) hb_)
        obtain ⟨Ao28, co28, eo28⟩ := Kd.R_slice HO257.out
        (first | subst eo28 | (injection eo28 with f1_ f2_ f3_; have f4_ := f1_.symm; have f5_ := f3_.symm; clear f1_ f2_ f3_; subst f4_; subst f5_))
        obtain ⟨Ao29, co29, eo29⟩ := Kd.R_slice HO260.out
        (first | subst eo29 | (injection eo29 with f1_ f2_ f3_; have f4_ := f1_.symm; have f5_ := f3_.symm; clear f1_ f2_ f3_; subst f4_; subst f5_))
        obtain ⟨Ao30, co30, eo30⟩ := Kd.R_slice HO263.out
        (first | subst eo30 | (injection eo30 with f1_ f2_ f3_; have f4_ := f1_.symm; have f5_ := f3_.symm; clear f1_ f2_ f3_; subst f4_; subst f5_))
        obtain ⟨Ao31, co31, eo31⟩ := Kd.R_slice HO266.out
        (first | subst eo31 | (injection eo31 with f1_ f2_ f3_; have f4_ := f1_.symm; have f5_ := f3_.symm; clear f1_ f2_ f3_; subst f4_; subst f5_))
        obtain ⟨Ao32, co32, eo32⟩ := Kd.R_slice HO269.out
        (first | subst eo32 | (injection eo32 with f1_ f2_ f3_; have f4_ := f1_.symm; have f5_ := f3_.symm; clear f1_ f2_ f3_; subst f4_; subst f5_))
        refine Kd.N_lit_step (Kd.slice 5 (Kd.int .u8)) _ 26 ?hg (N' := 31) ?hd (xs := ([y255, t258, y261, t264, y267] : List (List Int))) (inner := [.slice Ao28 y255.length co28, .slice Ao29 t258.length co29, .slice Ao30 y261.length co30, .slice Ao31 t264.length co31, .slice Ao32 y267.length co32]) (ok := (fun k_ => k_ ≠ gb250)) (okp := (fun k_ => k_ ≠ gb250)) ?hr ?hp (fun _ hk => hk) ((show ∀ k_, w'.heap.size ≤ k_ → (fun k_ => k_ ≠ gb250) k_ from fun k_ hk => Kd.freshB (g := gb250) (o := .cells #[.bool false, .int .i64 a0_1, .int .i64 a0_2, .int .i64 a0_3, .int .i64 a0_4, .int .i64 a0_5] 41 (0, 0)) (by (with_reducible repeat (first | refine YF ?_ _ | refine YG ?_ | refine YH ?_ _)); exact BK250.out) k_ hk) _ (Nat.le_refl _)) (Below.refl _ _) (Nat.le_refl _) (by simp) ?_; (case hd => rfl); (case hg => rfl); (case hr => first | (go_simp; done) | (go_simp; rfl)); (case hp => exact (Reps.one (show Kd.FK (Kd.slice 5 (Kd.int .u8)) _ _ y255 [.slice Ao28 y255.length co28] from (Kd.FK_slice_mk (Kd.R_reads' (Kd.R_mono (ok' := (fun k_ => k_ ≠ gb250)) (Kd.R_types (HO257.out) BK250.out (by decide)) (fun k_ hk => hk.2))).2.1 (Kd.R_F (Kd.R_mono (ok' := (fun k_ => k_ ≠ gb250)) (Kd.R_types (HO257.out) BK250.out (by decide)) (fun k_ hk => hk.2))))) (Reps.one (show Kd.FK (Kd.slice 5 (Kd.int .u8)) _ _ t258 [.slice Ao29 t258.length co29] from (Kd.FK_slice_mk (Kd.R_reads' (Kd.R_mono (ok' := (fun k_ => k_ ≠ gb250)) (Kd.R_types (HO260.out) BK250.out (by decide)) (fun k_ hk => hk.2))).2.1 (Kd.R_F (Kd.R_mono (ok' := (fun k_ => k_ ≠ gb250)) (Kd.R_types (HO260.out) BK250.out (by decide)) (fun k_ hk => hk.2))))) (Reps.one (show Kd.FK (Kd.slice 5 (Kd.int .u8)) _ _ y261 [.slice Ao30 y261.length co30] from (Kd.FK_slice_mk (Kd.R_reads' (Kd.R_mono (ok' := (fun k_ => k_ ≠ gb250)) (Kd.R_types (HO263.out) BK250.out (by decide)) (fun k_ hk => hk.2))).2.1 (Kd.R_F (Kd.R_mono (ok' := (fun k_ => k_ ≠ gb250)) (Kd.R_types (HO263.out) BK250.out (by decide)) (fun k_ hk => hk.2))))) (Reps.one (show Kd.FK (Kd.slice 5 (Kd.int .u8)) _ _ t264 [.slice Ao31 t264.length co31] from (Kd.FK_slice_mk (Kd.R_reads' (Kd.R_mono (ok' := (fun k_ => k_ ≠ gb250)) (Kd.R_types (HO266.out) BK250.out (by decide)) (fun k_ hk => hk.2))).2.1 (Kd.R_F (Kd.R_mono (ok' := (fun k_ => k_ ≠ gb250)) (Kd.R_types (HO266.out) BK250.out (by decide)) (fun k_ hk => hk.2))))) (Reps.one (show Kd.FK (Kd.slice 5 (Kd.int .u8)) _ _ y267 [.slice Ao32 y267.length co32] from (Kd.FK_slice_mk (Kd.R_reads' (Kd.R_mono (ok' := (fun k_ => k_ ≠ gb250)) (Kd.R_types (HO269.out) BK250.out (by decide)) (fun k_ hk => hk.2))).2.1 (Kd.R_F (Kd.R_mono (ok' := (fun k_ => k_ ≠ gb250)) (Kd.R_types (HO269.out) BK250.out (by decide)) (fun k_ hk => hk.2))))) (Reps.none _ _)))))))
        intro v271 w33 ho34 hb hg_ hnew_
        clear hg_ hnew_
        (first | rw [← Ny270.out] at ho34 | (simp only [Int.reduceToNat] at ho34; rw [← Ny270.out] at ho34))
        have n0_ := YL (Kd.N_lower ho34 (YE (by repeat (first | (with_reducible first | exact HB.out | apply YA | apply YB | apply YC | refine below_set ?_ GE250.out) | exact HB.out))))
        have n1_ := YL (YK (g := gb250) (o := .cells #[.bool false, .int .i64 a0_1, .int .i64 a0_2, .int .i64 a0_3, .int .i64 a0_4, .int .i64 a0_5] 41 (0, 0)) (by (with_reducible repeat (first | refine YF ?_ _ | refine YG ?_ | refine YH ?_ _)); exact BK250.out) hb)
        have n2_ := YL (YD (by repeat (first | (with_reducible first | exact HB.out | apply YA | apply YB | apply YC | refine below_set ?_ GE250.out) | exact HB.out)) hb)
        clear BK250; clear HB; clear HO257; clear HO260; clear HO263; clear HO266; clear HO269; have HO272 := n0_; have BK250 := n1_; have HB := n2_; clear n0_ n1_ n2_; clear hb ho34
        refine hK.out _ _ ⟨.slice Ao28 y255.length co28, .slice Ao29 t258.length co29, .slice Ao30 y261.length co30, .slice Ao31 t264.length co31, .slice Ao32 y267.length co32, v271, v274, m20_, (by rw [ha.out]; exact putSel_upk 13 hb_ rfl rfl rfl), (by (with_reducible repeat (first | refine YF ?_ _ | refine YG ?_ | refine YH ?_ _)); exact BK250.out), (by repeat (first | (with_reducible first | exact HB.out | apply YA | apply YB | apply YC | refine below_set ?_ GE250.out) | exact HB.out)), fun _ h1_ => absurd ((up_self b 18).symm.trans h1_) (by decide), fun _ h1_ => absurd ((up_self b 18).symm.trans h1_) (by decide), fun _ h1_ => absurd ((up_self b 18).symm.trans h1_) (by decide), fun _ h1_ => absurd ((up_self b 18).symm.trans h1_) (by decide), fun _ h1_ => absurd ((up_self b 18).symm.trans h1_) (by decide), fun _ => (by (with_reducible repeat (first | apply Kd.N_alloc | apply Kd.N_drewN | apply Kd.N_drew)); exact HO272.out), fun h0_ => absurd ((hoff 19 (by kernel_rfl)).symm.trans h0_) (by decide), fun h0_ => absurd ((hoff 20 (by kernel_rfl)).symm.trans h0_) (by decide)⟩
      refine steps_cons ?_ ?_
      · rintro b a w' ⟨v256, v259, v262, v265, v268, v271, v274, m20_, ha, Q_BK250, Q_HB, Q_HO257, Q_HO260, Q_HO263, Q_HO266, Q_HO269, Q_HO272, Q_HO275, Q_X20_⟩ hb_ hon hoff
        refine ⟨_, rfl, fun K hK => ?_⟩
        have e31 : a.tmps[31]? = some (v271) := by rw [ha]; exact putSel_on (e := (18, 31, v271)) 13 rfl rfl (hon 18 (by kernel_rfl)) rfl
        replace ha := YL ha
        have BK250 := YL Q_BK250; have HB := YL Q_HB
        have HO272 := YL (Q_HO272 (hon 18 (by kernel_rfl)))
        obtain ⟨Ao35, co35, eo35⟩ := Kd.N_slice HO272.out
        (first | subst eo35 | (injection eo35 with f1_ f2_ f3_; have f4_ := f1_.symm; have f5_ := f3_.symm; clear f1_ f2_ f3_; subst f4_; subst f5_))
        refine goes_ Try.func22 (by kernel_rfl) rfl #[.slice Ao35 y270.length co35] (by rfl) rfl rfl (by first | (simp only [YP, List.map_cons, List.map_nil, Act.eval, Array.getD_eq_getD_getElem?, Option.getD_some, e31]; done) | (simp only [YP, List.map_cons, List.map_nil, Act.eval, Array.getD_eq_getD_getElem?, Option.getD_some, e31]; rfl)) ?_
        with_reducible refine (thalwegref01_Both.calls k _ _ y270 t273 _ ?side1 ?side2 A13.out).mono ?_
        (case side1 => repeat (first | exact (Kd.N_reads' HO272.out).2.2 | (with_reducible refine Kd.C_alloc ?_ _) | (with_reducible refine Kd.C_drewN ?_ _) | (with_reducible refine Kd.C_drew ?_)))
        (case side2 => exact (Kd.N_reads' HO272.out).2.1)
        rintro e w36 ⟨v274, rfl, ho0, hb⟩
        refine ⟨_, rfl, ?_⟩
        have n0_ := YL (Kd.N_elder' (by (with_reducible repeat (first | apply Kd.N_alloc | apply Kd.N_drewN | apply Kd.N_drew)); exact HO272.out) (Kd.R_base ho0) hb)
        have n1_ := YL (Kd.R_lower ho0 (YE (by repeat (first | (with_reducible first | exact HB.out | apply YA | apply YB | apply YC | refine below_set ?_ GE250.out) | exact HB.out))))
        have n2_ := YL (YK (g := gb250) (o := .cells #[.bool false, .int .i64 a0_1, .int .i64 a0_2, .int .i64 a0_3, .int .i64 a0_4, .int .i64 a0_5] 41 (0, 0)) (by (with_reducible repeat (first | refine YF ?_ _ | refine YG ?_ | refine YH ?_ _)); exact BK250.out) hb)
        have n3_ := YL (YD (by repeat (first | (with_reducible first | exact HB.out | apply YA | apply YB | apply YC | refine below_set ?_ GE250.out) | exact HB.out)) hb)
        clear HO272; clear BK250; clear HB; have HO272 := n0_; have HO275 := n1_; have BK250 := n2_; have HB := n3_; clear n0_ n1_ n2_ n3_; (try clear hb); (try clear hb2); (try clear hk); (try clear hi); (try clear ho0)
        refine hK.out _ _ ⟨v256, v259, v262, v265, v268, .slice Ao35 y270.length co35, v274, m20_, (by rw [ha.out]; exact putSel_upk 14 hb_ rfl rfl rfl), (by (with_reducible repeat (first | refine YF ?_ _ | refine YG ?_ | refine YH ?_ _)); exact BK250.out), (by repeat (first | (with_reducible first | exact HB.out | apply YA | apply YB | apply YC | refine below_set ?_ GE250.out) | exact HB.out)), fun _ h1_ => absurd ((hon 18 (by kernel_rfl)).symm.trans h1_) (by decide), fun _ h1_ => absurd ((hon 18 (by kernel_rfl)).symm.trans h1_) (by decide), fun _ h1_ => absurd ((hon 18 (by kernel_rfl)).symm.trans h1_) (by decide), fun _ h1_ => absurd ((hon 18 (by kernel_rfl)).symm.trans h1_) (by decide), fun _ h1_ => absurd ((hon 18 (by kernel_rfl)).symm.trans h1_) (by decide), fun _ => (by (with_reducible repeat (first | apply Kd.N_alloc | apply Kd.N_drewN | apply Kd.N_drew)); exact Kd.N_mono HO272.out (fun _ hk => by first | exact ⟨hk.2, hk.1⟩ | exact trivial | (simp [hk]; done) | simp_all)), fun _ => (by (with_reducible repeat (first | apply YQ | apply YR | apply YS)); exact HO275.out), fun h0_ => absurd ((hoff 20 (by kernel_rfl)).symm.trans h0_) (by decide)⟩
      refine steps_cons ?_ ?_
      · rintro b a w' ⟨v256, v259, v262, v265, v268, v271, v274, m20_, ha, Q_BK250, Q_HB, Q_HO257, Q_HO260, Q_HO263, Q_HO266, Q_HO269, Q_HO272, Q_HO275, Q_X20_⟩ hb_ hon hoff
        refine ⟨_, rfl, fun K hK => ?_⟩
        have e32 : a.tmps[32]? = some (v274) := by rw [ha]; exact putSel_on (e := (19, 32, v274)) 14 rfl rfl (hon 19 (by kernel_rfl)) rfl
        replace ha := YL ha
        have BK250 := YL Q_BK250; have HB := YL Q_HB
        have HO272 := YL (Q_HO272 (hon 18 (by kernel_rfl)))
        have HO275 := YL (Q_HO275 (hon 19 (by kernel_rfl)))
        refine value_ (w1 := w') (v := v274) (by rfl) rfl ?_ ?_
        · go_simp
          (try simp only [i64_w])
          try rfl
        refine hK.out _ _ ⟨v256, v259, v262, v265, v268, v271, v274, (v274), (by rw [ha.out]; exact putSel_upk 15 hb_ rfl rfl rfl), Q_BK250, Q_HB, fun _ h1_ => absurd ((hon 18 (by kernel_rfl)).symm.trans h1_) (by decide), fun _ h1_ => absurd ((hon 18 (by kernel_rfl)).symm.trans h1_) (by decide), fun _ h1_ => absurd ((hon 18 (by kernel_rfl)).symm.trans h1_) (by decide), fun _ h1_ => absurd ((hon 18 (by kernel_rfl)).symm.trans h1_) (by decide), fun _ h1_ => absurd ((hon 18 (by kernel_rfl)).symm.trans h1_) (by decide), Q_HO272, Q_HO275, fun _ => rfl⟩
      refine steps_cons ?_ ?_
      · rintro b a w' ⟨v256, v259, v262, v265, v268, v271, v274, m20_, ha, Q_BK250, Q_HB, Q_HO257, Q_HO260, Q_HO263, Q_HO266, Q_HO269, Q_HO272, Q_HO275, Q_X20_⟩ hb_ hon hoff
        refine ⟨_, rfl, fun K hK => ?_⟩
        replace ha := YL ha
        have BK250 := YL Q_BK250; have HB := YL Q_HB
        have HO272 := YL (Q_HO272 (hon 18 (by kernel_rfl)))
        have HO275 := YL (Q_HO275 (hon 19 (by kernel_rfl)))
        refine value_ (w1 := w') (v := .int .i64 0) (by rfl) rfl ?_ ?_
        · go_simp
          (try simp only [i64_w])
          try rfl
        refine hK.out _ _ ⟨v256, v259, v262, v265, v268, v271, v274, m20_, (by rw [ha.out]; exact putSel_upk 16 hb_ rfl rfl rfl), Q_BK250, Q_HB, fun _ h1_ => absurd ((hon 18 (by kernel_rfl)).symm.trans h1_) (by decide), fun _ h1_ => absurd ((hon 18 (by kernel_rfl)).symm.trans h1_) (by decide), fun _ h1_ => absurd ((hon 18 (by kernel_rfl)).symm.trans h1_) (by decide), fun _ h1_ => absurd ((hon 18 (by kernel_rfl)).symm.trans h1_) (by decide), fun _ h1_ => absurd ((hon 18 (by kernel_rfl)).symm.trans h1_) (by decide), Q_HO272, Q_HO275, Q_X20_⟩
      exact steps_nil
    rintro b a w36 hall ⟨v256, v259, v262, v265, v268, v271, v274, m20_, ha, Q_BK250, Q_HB, Q_HO257, Q_HO260, Q_HO263, Q_HO266, Q_HO269, Q_HO272, Q_HO275, Q_X20_⟩
    clear BK250 HB
    have hb0_ := hall 0 (by kernel_rfl)
    have hb2_ := hall 2 (by kernel_rfl)
    have hb3_ := hall 3 (by kernel_rfl)
    have hb5_ := hall 5 (by kernel_rfl)
    have hb6_ := hall 6 (by kernel_rfl)
    have hb8_ := hall 8 (by kernel_rfl)
    have hb9_ := hall 9 (by kernel_rfl)
    have hb10_ := hall 10 (by kernel_rfl)
    have hb12_ := hall 12 (by kernel_rfl)
    have hb13_ := hall 13 (by kernel_rfl)
    have hb15_ := hall 15 (by kernel_rfl)
    have hb16_ := hall 16 (by kernel_rfl)
    have hb17_ := hall 17 (by kernel_rfl)
    have hb18_ := hall 18 (by kernel_rfl)
    have hb19_ := hall 19 (by kernel_rfl)
    have hb20_ := hall 20 (by kernel_rfl)
    have hb21_ := hall 21 (by kernel_rfl)
    subst ha
    obtain rfl := Q_X20_ hb20_
    simp only [putSel, hb0_, hb2_, hb3_, hb5_, hb6_, hb8_, hb9_, hb10_, hb12_, hb13_, hb15_, hb16_, hb17_, hb18_, hb19_, hb20_, hb21_, if_true, Act.put, YM, YN, YO]
    have BK250 := YL Q_BK250; clear Q_BK250; have HB := YL Q_HB; clear Q_HB; clear Q_HO257; clear Q_HO260; clear Q_HO263; clear Q_HO266; clear Q_HO269
    have HO272 := YL (Q_HO272 hb18_)
    clear Q_HO272
    have HO275 := YL (Q_HO275 hb19_)
    clear Q_HO275; clear hall hb0_ hb2_ hb3_ hb5_ hb6_ hb8_ hb9_ hb10_ hb12_ hb13_ hb15_ hb16_ hb17_ hb18_ hb19_ hb20_ hb21_
    try go_wp2
    go_ret2
    exact ⟨_, by first | rfl | (simp [errW_none, errW_some] <;> rfl) | (simp [*, errW_none, errW_some] <;> rfl), by (with_reducible repeat (first | apply YQ | apply YR | apply YS)); exact HO275.out, by repeat (first | (with_reducible first | exact HB.out | apply YA | apply YB | apply YC | refine below_set ?_ GE250.out) | exact HB.out)⟩
  replace c3 := Bool.eq_false_iff.mpr c3
  subst c3
  have H1 : (some (([] : List Int), 1)) = some (r1, r2) := by rw [if_neg (show ¬ (false = true) by decide)] at H; exact H
  clear H
  have H := H1
  clear H1
  simp only [Option.some.injEq, Prod.mk.injEq] at H
  obtain ⟨rfl, rfl⟩ := H
  go_enter Try.func38, Try.ntmps38
  go_wp2_with (first | ((with_reducible refine gate_dst (N := 1) rfl ?_); refine box_event ?hg (N := 1) ?hd (cs := #[.bool a0_0, .int .i64 a0_1, .int .i64 a0_2, .int .i64 a0_3, .int .i64 a0_4, .int .i64 a0_5]) (t := 41) ?hr ?_; (case hd => rfl); (case hg => rfl); (case hr => first | (go_simp; done) | (go_simp; rfl)); intro gb250 hg w37 hbox hb; have n0_ := YL (YD (by repeat (first | (with_reducible first | exact HB.out | apply YA | apply YB | apply YC) | exact HB.out)) hb); have n1_ := YL (hbox); have n2_ := YL ((by rw [hg]; exact (YE (by repeat (first | (with_reducible first | exact HB.out | apply YA | apply YB | apply YC) | exact HB.out))) : w.heap.size ≤ gb250)); have n3_ := YL ((by rw [hg]; exact (YE (by repeat (first | (with_reducible first | exact HB.out | apply YA | apply YB | apply YC) | exact HB.out))) : w.heap.size ≤ gb250)); clear HB; have HB := n0_; have BK250 := n1_; have GW250 := n2_; have GE250 := n3_; clear n0_ n1_ n2_ n3_; clear hb hbox hg; have q38_0 : w37.cell? ⟨gb250, 0, none⟩ = some (.bool a0_0) := (YI BK250.out 0).trans rfl; have q38_1 : w37.cell? ⟨gb250, 1, none⟩ = some (.int .i64 a0_1) := (YI BK250.out 1).trans rfl; have q38_2 : w37.cell? ⟨gb250, 2, none⟩ = some (.int .i64 a0_2) := (YI BK250.out 2).trans rfl; have q38_3 : w37.cell? ⟨gb250, 3, none⟩ = some (.int .i64 a0_3) := (YI BK250.out 3).trans rfl; have q38_4 : w37.cell? ⟨gb250, 4, none⟩ = some (.int .i64 a0_4) := (YI BK250.out 4).trans rfl; have q38_5 : w37.cell? ⟨gb250, 5, none⟩ = some (.int .i64 a0_5) := (YI BK250.out 5).trans rfl; have f38_0 := YJ BK250.out 0; have f38_1 := YJ BK250.out 1; have f38_2 := YJ BK250.out 2; have f38_3 := YJ BK250.out 3; have f38_4 := YJ BK250.out 4; have f38_5 := YJ BK250.out 5) | ((with_reducible refine gate_callee (f := 47) rfl ?_); refine goesL_ (some 5) rfl rfl Try.func47 (by kernel_rfl) rfl #[.agg #[.bool a0_0, .int .i64 a0_1, .int .i64 a0_2, .int .i64 a0_3, .int .i64 a0_4, .int .i64 a0_5]] rfl (by (try simp only [YP, List.map_cons, List.map_nil]); first | done | rfl | (simp only [List.length_drop, List.length_take]; rfl)) ?_; (with_reducible refine (thalwegref02_Right.calls k a0_0 a0_1 a0_2 a0_3 a0_4 a0_5 false _ A2.out).mono ?_); rintro e w39 ⟨rfl, hb⟩; refine ⟨_, rfl, ?_⟩; have n0_ := YL (YK (g := gb250) (o := .cells #[.bool a0_0, .int .i64 a0_1, .int .i64 a0_2, .int .i64 a0_3, .int .i64 a0_4, .int .i64 a0_5] 41 (0, 0)) (by (with_reducible repeat (first | refine YF ?_ _ | refine YG ?_ | refine YH ?_ _)); exact BK250.out) hb); have n1_ := YL (YD (by repeat (first | (with_reducible first | exact HB.out | apply YA | apply YB | apply YC | refine below_set ?_ GE250.out) | exact HB.out)) hb); clear BK250; clear HB; have BK250 := n0_; have HB := n1_; clear n0_ n1_; (try clear hb); (try clear hb2); (try clear hk); (try clear hi)))
  go_ret2
  exact ⟨_, by first | rfl | (simp [errW_none, errW_some] <;> rfl) | (simp [*, errW_none, errW_some] <;> rfl), by first | exact Kd.R_nil _ _ _ _ _ | exact Kd.N_nil _ _ _ _ _ | exact Kd.V_nil _ _ _ _ _ | exact Kd.Q_nil _ _ _ _ _ | exact Kd.S_nil _ _ _ _ _, by repeat (first | (with_reducible first | exact HB.out | apply YA | apply YB | apply YC | refine below_set ?_ GE250.out) | exact HB.out)⟩
end Go.Proofs.Ytfigbjjaffkidaa.P
