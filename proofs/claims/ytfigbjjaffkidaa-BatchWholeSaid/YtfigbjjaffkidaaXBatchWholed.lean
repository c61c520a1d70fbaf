/- The statement BatchWhole, proved of the given program; it has no conditions. (Laid together out of many texts: part 4 of 6.) -/
import Derived.Test.YtfigbjjaffkidaaXBatchWholea
import Derived.Test.YtfigbjjaffkidaaXBatchWholeb
import Derived.Test.YtfigbjjaffkidaaXBatchWholec
set_option linter.unusedVariables false
set_option linter.unusedSimpArgs false
namespace Go.Proofs.Ytfigbjjaffkidaa.P
open Go.RowKit Go.Proofs.YtfigbjjaffkidaaW.PrintWords Go.Proofs.YtfigbjjaffkidaaW.PrintLast Go.Proofs.YtfigbjjaffkidaaW.PrintMore
open Go.Proofs.YtfigbjjaffkidaaW.PrintWords renaming below_alloc → YA, pw_below_drewN → YB, below_drew1 → YC, below_step → YD, below_size → YE, blk_drewN → YF, blk_drew → YG, blk_alloc → YH, blk_cell → YI, blk_frozen → YJ, blk_below → YK
open Go.Proofs.YtfigbjjaffkidaaW.PrintWords.Aside0 renaming mk → YL
open List renaming map_toArray → YM, length_take → YN, length_drop → YO
open Go.Proofs.YtfigbjjaffkidaaW.PrintWords.Kd renaming R_alloc → YP, R_drewN → YQ, R_drew → YR
attribute [local go_sem] max2_int min2_int max_two min_two max_three min_three max_four min_four   -- for this text's walks alone
mutual
def thalwegref04_Bytes.j0 : Nat → List Int → Bool → Int → Int → Bool → Int → Int → Int → Int → Int → Int → Int → Int → Int → Option (List Int × Int)
  | 0, _, _, _, _, _, _, _, _, _, _, _, _, _, _ => none
  | k + 1, x4, x24, x277000, x277001, x277002, x277003, x277004, x277005, x277006, x277007, x277008, x277009, x277010, x277011 => if x24 = true then ((thalwegref02_Bytes.f k x277002 x277003 x277004 x277005 x277006 x277007).bind fun bt281 => (if x4.length + bt281.1.length < 140737488355328 then (thalwegref04_Bytes.j1 k (x4 ++ bt281.1) x277000 x277001 x277002 x277003 x277004 x277005 x277006 x277007 x277008 x277009 x277010 x277011) else (none))) else (thalwegref04_Bytes.j1 k x4 x277000 x277001 x277002 x277003 x277004 x277005 x277006 x277007 x277008 x277009 x277010 x277011)
def thalwegref04_Bytes.j1 : Nat → List Int → Int → Int → Bool → Int → Int → Int → Int → Int → Int → Int → Int → Int → Option (List Int × Int)
  | 0, _, _, _, _, _, _, _, _, _, _, _, _, _ => none
  | k + 1, x4, x277000, x277001, x277002, x277003, x277004, x277005, x277006, x277007, x277008, x277009, x277010, x277011 => if x277000 = 3 then ((thalwegref01_Int.f k x277008).bind fun t288 => (if x4.length + t288.length < 140737488355328 then ((some (x4 ++ t288 : List Int)).bind fun y291 => ((some (([(x277009) % 256, (x277010) % 256] : List Int) : List Int)).bind fun y294 => (if y291.length + y294.length < 140737488355328 then (if x277000 = 4 then (none) else (some ((y291 ++ y294), 0))) else (none)))) else (none))) else (if x277000 = 4 then ((some (([(wrap64 (Int.tdiv x277011 256)) % 256, (Int.tmod x277011 256) % 256] : List Int) : List Int)).bind fun y300 => (if x4.length + y300.length < 140737488355328 then (some ((x4 ++ y300), 0)) else (none))) else (some (x4, 0)))
end
def thalwegref04_Bytes.f (k : Nat) (a0_0 : Int) (a0_1 : Int) (a0_2 : Bool) (a0_3 : Int) (a0_4 : Int) (a0_5 : Int) (a0_6 : Int) (a0_7 : Int) (a0_8 : Int) (a0_9 : Int) (a0_10 : Int) (a0_11 : Int) : Option (List Int × Int) := (thalwegref04_Right.f k a0_0 a0_1 a0_2 a0_3 a0_4 a0_5 a0_6 a0_7 a0_8 a0_9 a0_10 a0_11).bind fun t277 => (if t277 = true then ((some (([(a0_0) % 256, (a0_1) % 256] : List Int) : List Int)).bind fun y278 => (if a0_0 = 2 then (thalwegref04_Bytes.j0 k y278 true a0_0 a0_1 a0_2 a0_3 a0_4 a0_5 a0_6 a0_7 a0_8 a0_9 a0_10 a0_11) else (thalwegref04_Bytes.j0 k y278 (a0_0 == 4) a0_0 a0_1 a0_2 a0_3 a0_4 a0_5 a0_6 a0_7 a0_8 a0_9 a0_10 a0_11))) else (some (([] : List Int), 1)))
theorem thalwegref04_Bytes.mono_l : ∀ k, (∀ y0 y1 y2 y3 y4 y5 y6 y7 y8 y9 y10 y11 y12 y13, LeO (thalwegref04_Bytes.j0 k y0 y1 y2 y3 y4 y5 y6 y7 y8 y9 y10 y11 y12 y13) (thalwegref04_Bytes.j0 (k + 1) y0 y1 y2 y3 y4 y5 y6 y7 y8 y9 y10 y11 y12 y13)) ∧ (∀ y0 y1 y2 y3 y4 y5 y6 y7 y8 y9 y10 y11 y12, LeO (thalwegref04_Bytes.j1 k y0 y1 y2 y3 y4 y5 y6 y7 y8 y9 y10 y11 y12) (thalwegref04_Bytes.j1 (k + 1) y0 y1 y2 y3 y4 y5 y6 y7 y8 y9 y10 y11 y12))
  | 0 => ⟨fun _ _ _ _ _ _ _ _ _ _ _ _ _ _ r h => by simp [thalwegref04_Bytes.j0] at h, fun _ _ _ _ _ _ _ _ _ _ _ _ _ r h => by simp [thalwegref04_Bytes.j1] at h⟩
  | k + 1 => by
    obtain ⟨ih0, ih1⟩ := thalwegref04_Bytes.mono_l k
    refine ⟨?_, ?_⟩
    · intro y0 y1 y2 y3 y4 y5 y6 y7 y8 y9 y10 y11 y12 y13
      unfold thalwegref04_Bytes.j0
      repeat' first
      | (with_reducible exact ih0 _ _ _ _ _ _ _ _ _ _ _ _ _ _)
      | (with_reducible exact ih1 _ _ _ _ _ _ _ _ _ _ _ _ _)
      | (with_reducible exact thalwegref01_Int.mono _ _)
      | (with_reducible exact thalwegref02_Bytes.mono _ _ _ _ _ _ _)
      | (with_reducible exact thalwegref04_Right.mono _ _ _ _ _ _ _ _ _ _ _ _ _)
      | (with_reducible exact LeO.refl _)
      | (with_reducible exact LeO.none _)
      | (with_reducible refine LeO.ite ?_ ?_)
      | (with_reducible refine LeO.bind ?_ (fun _ => ?_))
      | exact ih0 _ _ _ _ _ _ _ _ _ _ _ _ _ _
      | exact ih1 _ _ _ _ _ _ _ _ _ _ _ _ _
      | exact thalwegref01_Int.mono _ _
      | exact thalwegref02_Bytes.mono _ _ _ _ _ _ _
      | exact thalwegref04_Right.mono _ _ _ _ _ _ _ _ _ _ _ _ _
      | exact LeO.none _
      | refine LeO.ite ?_ ?_
      | refine LeO.bind ?_ (fun _ => ?_)
    intro y0 y1 y2 y3 y4 y5 y6 y7 y8 y9 y10 y11 y12
    unfold thalwegref04_Bytes.j1
    repeat' first
    | (with_reducible exact ih0 _ _ _ _ _ _ _ _ _ _ _ _ _ _)
    | (with_reducible exact ih1 _ _ _ _ _ _ _ _ _ _ _ _ _)
    | (with_reducible exact thalwegref01_Int.mono _ _)
    | (with_reducible exact thalwegref02_Bytes.mono _ _ _ _ _ _ _)
    | (with_reducible exact thalwegref04_Right.mono _ _ _ _ _ _ _ _ _ _ _ _ _)
    | (with_reducible exact LeO.refl _)
    | (with_reducible exact LeO.none _)
    | (with_reducible refine LeO.ite ?_ ?_)
    | (with_reducible refine LeO.bind ?_ (fun _ => ?_))
    | exact ih0 _ _ _ _ _ _ _ _ _ _ _ _ _ _
    | exact ih1 _ _ _ _ _ _ _ _ _ _ _ _ _
    | exact thalwegref01_Int.mono _ _
    | exact thalwegref02_Bytes.mono _ _ _ _ _ _ _
    | exact thalwegref04_Right.mono _ _ _ _ _ _ _ _ _ _ _ _ _
    | exact LeO.none _
    | refine LeO.ite ?_ ?_
    | refine LeO.bind ?_ (fun _ => ?_)
theorem thalwegref04_Bytes.mono : ∀ a0 a1 a2 a3 a4 a5 a6 a7 a8 a9 a10 a11 k, LeO (thalwegref04_Bytes.f k a0 a1 a2 a3 a4 a5 a6 a7 a8 a9 a10 a11) (thalwegref04_Bytes.f (k + 1) a0 a1 a2 a3 a4 a5 a6 a7 a8 a9 a10 a11) := by
  intro a0 a1 a2 a3 a4 a5 a6 a7 a8 a9 a10 a11 k
  obtain ⟨ih0, ih1⟩ := thalwegref04_Bytes.mono_l k
  unfold thalwegref04_Bytes.f
  repeat' first
      | (with_reducible exact ih0 _ _ _ _ _ _ _ _ _ _ _ _ _ _)
      | (with_reducible exact ih1 _ _ _ _ _ _ _ _ _ _ _ _ _)
      | (with_reducible exact thalwegref01_Int.mono _ _)
      | (with_reducible exact thalwegref02_Bytes.mono _ _ _ _ _ _ _)
      | (with_reducible exact thalwegref04_Right.mono _ _ _ _ _ _ _ _ _ _ _ _ _)
      | (with_reducible exact LeO.refl _)
      | (with_reducible exact LeO.none _)
      | (with_reducible refine LeO.ite ?_ ?_)
      | (with_reducible refine LeO.bind ?_ (fun _ => ?_))
      | exact ih0 _ _ _ _ _ _ _ _ _ _ _ _ _ _
      | exact ih1 _ _ _ _ _ _ _ _ _ _ _ _ _
      | exact thalwegref01_Int.mono _ _
      | exact thalwegref02_Bytes.mono _ _ _ _ _ _ _
      | exact thalwegref04_Right.mono _ _ _ _ _ _ _ _ _ _ _ _ _
      | exact LeO.none _
      | refine LeO.ite ?_ ?_
      | refine LeO.bind ?_ (fun _ => ?_)
set_option maxHeartbeats 8000000 in
set_option maxRecDepth 100000 in
theorem thalwegref04_Bytes.calls (k : Nat) (a0_0 : Int) (a0_1 : Int) (a0_2 : Bool) (a0_3 : Int) (a0_4 : Int) (a0_5 : Int) (a0_6 : Int) (a0_7 : Int) (a0_8 : Int) (a0_9 : Int) (a0_10 : Int) (a0_11 : Int) (r1 : List Int) (r2 : Int) (w : World) (h : thalwegref04_Bytes.f k a0_0 a0_1 a0_2 a0_3 a0_4 a0_5 a0_6 a0_7 a0_8 a0_9 a0_10 a0_11 = some (r1, r2)) :
    Calls Try.prog 24 #[.agg #[.int .i64 a0_0, .int .i64 a0_1, .bool a0_2, .int .i64 a0_3, .int .i64 a0_4, .int .i64 a0_5, .int .i64 a0_6, .int .i64 a0_7, .int .i64 a0_8, .int .i64 a0_9, .int .i64 a0_10, .int .i64 a0_11]] w fun e w' => ∃ v0_ : Value, e = .returned (.tuple #[v0_, .int .i64 r2]) ∧ Kd.R (Kd.int .u8) 5 w' w.heap.size (fun _ => True) v0_ r1 ∧ Below w.heap.size w w' := by
  have hu45 := Try.underlying45
  have hu41 := Try.underlying41
  have HB := YL (Below.refl w.heap.size w)
  have H : ((thalwegref04_Right.f k a0_0 a0_1 a0_2 a0_3 a0_4 a0_5 a0_6 a0_7 a0_8 a0_9 a0_10 a0_11).bind fun t277 => (if t277 = true then ((some (([(a0_0) % 256, (a0_1) % 256] : List Int) : List Int)).bind fun y278 => (if a0_0 = 2 then (thalwegref04_Bytes.j0 k y278 true a0_0 a0_1 a0_2 a0_3 a0_4 a0_5 a0_6 a0_7 a0_8 a0_9 a0_10 a0_11) else (thalwegref04_Bytes.j0 k y278 (a0_0 == 4) a0_0 a0_1 a0_2 a0_3 a0_4 a0_5 a0_6 a0_7 a0_8 a0_9 a0_10 a0_11))) else (some (([] : List Int), 1)))) = some (r1, r2) := h
  clear h; replace H := Option.bind_eq_some_iff.mp H; obtain ⟨t277, A20, H⟩ := H
  replace H : (if t277 = true then ((some (([(a0_0) % 256, (a0_1) % 256] : List Int) : List Int)).bind fun y278 => (if a0_0 = 2 then (thalwegref04_Bytes.j0 k y278 true a0_0 a0_1 a0_2 a0_3 a0_4 a0_5 a0_6 a0_7 a0_8 a0_9 a0_10 a0_11) else (thalwegref04_Bytes.j0 k y278 (a0_0 == 4) a0_0 a0_1 a0_2 a0_3 a0_4 a0_5 a0_6 a0_7 a0_8 a0_9 a0_10 a0_11))) else (some (([] : List Int), 1))) = some (r1, r2) := H
  have A2 := YL A20; clear A20
  by_cases c3 : t277 = true
  · subst c3
    have H1 : ((some (([(a0_0) % 256, (a0_1) % 256] : List Int) : List Int)).bind fun y278 => (if a0_0 = 2 then (thalwegref04_Bytes.j0 k y278 true a0_0 a0_1 a0_2 a0_3 a0_4 a0_5 a0_6 a0_7 a0_8 a0_9 a0_10 a0_11) else (thalwegref04_Bytes.j0 k y278 (a0_0 == 4) a0_0 a0_1 a0_2 a0_3 a0_4 a0_5 a0_6 a0_7 a0_8 a0_9 a0_10 a0_11))) = some (r1, r2) := by rw [if_pos rfl] at H; exact H
    clear H
    have H := H1
    clear H1
    obtain ⟨y278, hy278⟩ : ∃ y_ : List Int, y_ = (([(a0_0) % 256, (a0_1) % 256] : List Int)) := ⟨_, rfl⟩
    replace H : (if a0_0 = 2 then (thalwegref04_Bytes.j0 k y278 true a0_0 a0_1 a0_2 a0_3 a0_4 a0_5 a0_6 a0_7 a0_8 a0_9 a0_10 a0_11) else (thalwegref04_Bytes.j0 k y278 (a0_0 == 4) a0_0 a0_1 a0_2 a0_3 a0_4 a0_5 a0_6 a0_7 a0_8 a0_9 a0_10 a0_11)) = some (r1, r2) := by first | (rw [hy278]; with_reducible exact H) | (have H2_ := (Option.bind_some _ _).symm.trans H; rw [hy278]; with_reducible exact H2_) | (have H2_ := (Option.bind_some _ _).symm.trans H; with_reducible exact H2_) | with_reducible exact H | (rw [hy278]; exact H) | exact H
    have Ny278 := YL hy278; clear hy278; have HC4 := YL H; clear H
    go_enter Try.func24, Try.ntmps24
    go_upto_region 4 with (first | ((with_reducible refine gate_dst (N := 1) rfl ?_); refine box_event ?hg (N := 1) ?hd (cs := #[.int .i64 a0_0, .int .i64 a0_1, .bool a0_2, .int .i64 a0_3, .int .i64 a0_4, .int .i64 a0_5, .int .i64 a0_6, .int .i64 a0_7, .int .i64 a0_8, .int .i64 a0_9, .int .i64 a0_10, .int .i64 a0_11]) (t := 45) ?hr ?_; (case hd => rfl); (case hg => rfl); (case hr => first | (go_simp; done) | (go_simp; rfl)); intro gb276 hg w5 hbox hb; have n0_ := YL (YD (by repeat (first | (with_reducible first | exact HB.out | apply YA | apply YB | apply YC) | exact HB.out)) hb); have n1_ := YL (hbox); have n2_ := YL ((by rw [hg]; exact (YE (by repeat (first | (with_reducible first | exact HB.out | apply YA | apply YB | apply YC) | exact HB.out))) : w.heap.size ≤ gb276)); have n3_ := YL ((by rw [hg]; exact (YE (by repeat (first | (with_reducible first | exact HB.out | apply YA | apply YB | apply YC) | exact HB.out))) : w.heap.size ≤ gb276)); clear HB; have HB := n0_; have BK276 := n1_; have GW276 := n2_; have GE276 := n3_; clear n0_ n1_ n2_ n3_; clear hb hbox hg; have hcz6_0 : w5.cell? ⟨gb276, 0, none⟩ = some (.int .i64 a0_0) := (YI BK276.out 0).trans rfl; have hcz6_1 : w5.cell? ⟨gb276, 1, none⟩ = some (.int .i64 a0_1) := (YI BK276.out 1).trans rfl; have hcz6_2 : w5.cell? ⟨gb276, 2, none⟩ = some (.bool a0_2) := (YI BK276.out 2).trans rfl; have hcz6_3 : w5.cell? ⟨gb276, 3, none⟩ = some (.int .i64 a0_3) := (YI BK276.out 3).trans rfl; have hcz6_4 : w5.cell? ⟨gb276, 4, none⟩ = some (.int .i64 a0_4) := (YI BK276.out 4).trans rfl; have hcz6_5 : w5.cell? ⟨gb276, 5, none⟩ = some (.int .i64 a0_5) := (YI BK276.out 5).trans rfl; have hcz6_6 : w5.cell? ⟨gb276, 6, none⟩ = some (.int .i64 a0_6) := (YI BK276.out 6).trans rfl; have hcz6_7 : w5.cell? ⟨gb276, 7, none⟩ = some (.int .i64 a0_7) := (YI BK276.out 7).trans rfl; have hcz6_8 : w5.cell? ⟨gb276, 8, none⟩ = some (.int .i64 a0_8) := (YI BK276.out 8).trans rfl; have hcz6_9 : w5.cell? ⟨gb276, 9, none⟩ = some (.int .i64 a0_9) := (YI BK276.out 9).trans rfl; have hcz6_10 : w5.cell? ⟨gb276, 10, none⟩ = some (.int .i64 a0_10) := (YI BK276.out 10).trans rfl; have hcz6_11 : w5.cell? ⟨gb276, 11, none⟩ = some (.int .i64 a0_11) := (YI BK276.out 11).trans rfl; have hfz6_0 := YJ BK276.out 0; have hfz6_1 := YJ BK276.out 1; have hfz6_2 := YJ BK276.out 2; have hfz6_3 := YJ BK276.out 3; have hfz6_4 := YJ BK276.out 4; have hfz6_5 := YJ BK276.out 5; have hfz6_6 := YJ BK276.out 6; have hfz6_7 := YJ BK276.out 7; have hfz6_8 := YJ BK276.out 8; have hfz6_9 := YJ BK276.out 9; have hfz6_10 := YJ BK276.out 10; have hfz6_11 := YJ BK276.out 11) | ((with_reducible refine gate_callee (f := 37) rfl ?_); refine goesL_ (some 8) rfl rfl Try.func37 (by kernel_rfl) rfl #[.agg #[.int .i64 a0_0, .int .i64 a0_1, .bool a0_2, .int .i64 a0_3, .int .i64 a0_4, .int .i64 a0_5, .int .i64 a0_6, .int .i64 a0_7, .int .i64 a0_8, .int .i64 a0_9, .int .i64 a0_10, .int .i64 a0_11]] rfl (by (try simp only [YM, List.map_cons, List.map_nil]); first | done | rfl | (simp only [YO, YN]; rfl)) ?_; (with_reducible refine (thalwegref04_Right.calls k a0_0 a0_1 a0_2 a0_3 a0_4 a0_5 a0_6 a0_7 a0_8 a0_9 a0_10 a0_11 true _ A2.out).mono ?_); rintro e w7 ⟨rfl, hb⟩; refine ⟨_, rfl, ?_⟩; have n0_ := YL (YK (g := gb276) (o := .cells #[.int .i64 a0_0, .int .i64 a0_1, .bool a0_2, .int .i64 a0_3, .int .i64 a0_4, .int .i64 a0_5, .int .i64 a0_6, .int .i64 a0_7, .int .i64 a0_8, .int .i64 a0_9, .int .i64 a0_10, .int .i64 a0_11] 45 (0, 0)) (by (with_reducible repeat (first | refine YF ?_ _ | refine YG ?_ | refine YH ?_ _)); exact BK276.out) hb); have n1_ := YL (YD (by repeat (first | (with_reducible first | exact HB.out | apply YA | apply YB | apply YC | refine below_set ?_ GE276.out) | exact HB.out)) hb); clear BK276; clear HB; have BK276 := n0_; have HB := n1_; clear n0_ n1_; (try clear hb); (try clear hb2); (try clear hk); (try clear hi); have hcz8_0 : w7.cell? ⟨gb276, 0, none⟩ = some (.int .i64 a0_0) := (YI BK276.out 0).trans rfl; have hcz8_1 : w7.cell? ⟨gb276, 1, none⟩ = some (.int .i64 a0_1) := (YI BK276.out 1).trans rfl; have hcz8_2 : w7.cell? ⟨gb276, 2, none⟩ = some (.bool a0_2) := (YI BK276.out 2).trans rfl; have hcz8_3 : w7.cell? ⟨gb276, 3, none⟩ = some (.int .i64 a0_3) := (YI BK276.out 3).trans rfl; have hcz8_4 : w7.cell? ⟨gb276, 4, none⟩ = some (.int .i64 a0_4) := (YI BK276.out 4).trans rfl; have hcz8_5 : w7.cell? ⟨gb276, 5, none⟩ = some (.int .i64 a0_5) := (YI BK276.out 5).trans rfl; have hcz8_6 : w7.cell? ⟨gb276, 6, none⟩ = some (.int .i64 a0_6) := (YI BK276.out 6).trans rfl; have hcz8_7 : w7.cell? ⟨gb276, 7, none⟩ = some (.int .i64 a0_7) := (YI BK276.out 7).trans rfl; have hcz8_8 : w7.cell? ⟨gb276, 8, none⟩ = some (.int .i64 a0_8) := (YI BK276.out 8).trans rfl; have hcz8_9 : w7.cell? ⟨gb276, 9, none⟩ = some (.int .i64 a0_9) := (YI BK276.out 9).trans rfl; have hcz8_10 : w7.cell? ⟨gb276, 10, none⟩ = some (.int .i64 a0_10) := (YI BK276.out 10).trans rfl; have hcz8_11 : w7.cell? ⟨gb276, 11, none⟩ = some (.int .i64 a0_11) := (YI BK276.out 11).trans rfl; have hfz8_0 := YJ BK276.out 0; have hfz8_1 := YJ BK276.out 1; have hfz8_2 := YJ BK276.out 2; have hfz8_3 := YJ BK276.out 3; have hfz8_4 := YJ BK276.out 4; have hfz8_5 := YJ BK276.out 5; have hfz8_6 := YJ BK276.out 6; have hfz8_7 := YJ BK276.out 7; have hfz8_8 := YJ BK276.out 8; have hfz8_9 := YJ BK276.out 9; have hfz8_10 := YJ BK276.out 10; have hfz8_11 := YJ BK276.out 11) | ((with_reducible refine gate_dst (N := 16) rfl ?_); refine Kd.R_lit (Kd.int .u8) _ 5 ?hg (N := 16) ?hd (xs := ([(a0_0) % 256, (a0_1) % 256] : List Int)) (inner := [.int .u8 ((a0_0) % 256), .int .u8 ((a0_1) % 256)]) (ok := fun _ => True) (okp := fun _ => True) ?hr ?hp (fun _ hk => hk) trivial (Below.refl _ _) (Nat.le_refl _) (by simp) ?_; (case hd => rfl); (case hg => rfl); (case hr => first | (go_simp; done) | (go_simp; rfl)); (case hp => exact (Reps.one (show Kd.M (Kd.int .u8) _ _ _ ((a0_0) % 256) [.int .u8 ((a0_0) % 256)] from rfl) (Reps.one (show Kd.M (Kd.int .u8) _ _ _ ((a0_1) % 256) [.int .u8 ((a0_1) % 256)] from rfl) (Reps.none _ _)))); intro v279 w9 ho10 hb hg_ hnew_; clear hg_ hnew_; (first | rw [← Ny278.out] at ho10 | (simp only [Int.reduceToNat] at ho10; rw [← Ny278.out] at ho10)); have n0_ := YL (Kd.R_lower ho10 (YE (by repeat (first | (with_reducible first | exact HB.out | apply YA | apply YB | apply YC | refine below_set ?_ GE276.out) | exact HB.out)))); have n1_ := YL (YK (g := gb276) (o := .cells #[.int .i64 a0_0, .int .i64 a0_1, .bool a0_2, .int .i64 a0_3, .int .i64 a0_4, .int .i64 a0_5, .int .i64 a0_6, .int .i64 a0_7, .int .i64 a0_8, .int .i64 a0_9, .int .i64 a0_10, .int .i64 a0_11] 45 (0, 0)) (by (with_reducible repeat (first | refine YF ?_ _ | refine YG ?_ | refine YH ?_ _)); exact BK276.out) hb); have n2_ := YL (YD (by repeat (first | (with_reducible first | exact HB.out | apply YA | apply YB | apply YC | refine below_set ?_ GE276.out) | exact HB.out)) hb); clear BK276; clear HB; have HO280 := n0_; have BK276 := n1_; have HB := n2_; clear n0_ n1_ n2_; clear hb ho10))
    (try simp only [Act.put, List.setIfInBounds_toArray, List.set_cons_zero, List.set_cons_succ])
    go_cut [24] (fun v24 wc => ∃ (kq : Nat) (x24_3 : Bool), v24 = .bool x24_3 ∧ Aside0 (thalwegref04_Bytes.j0 kq y278 x24_3 a0_0 a0_1 a0_2 a0_3 a0_4 a0_5 a0_6 a0_7 a0_8 a0_9 a0_10 a0_11 = some (r1, r2)) ∧ Aside0 (kq ≤ k) ∧ Aside0 (Kd.R (Kd.int .u8) 5 wc w.heap.size (fun _ => True) v279 y278) ∧ Aside0 (wc.heap[gb276]? = some (.cells #[.int .i64 a0_0, .int .i64 a0_1, .bool a0_2, .int .i64 a0_3, .int .i64 a0_4, .int .i64 a0_5, .int .i64 a0_6, .int .i64 a0_7, .int .i64 a0_8, .int .i64 a0_9, .int .i64 a0_10, .int .i64 a0_11] 45 (0, 0))) ∧ Aside0 (Below w.heap.size w wc))
    case first =>
      have H := HC4.out
      clear HC4
      by_cases c11 : a0_0 = 2
      · rw [if_pos c11] at H
        have c11b0 : (a0_0 == 2) = true := beq_iff_eq.mpr c11
        have c11b1 : (a0_0 != 2) = false := bne_eq_false_iff_eq.mpr c11
        clear c11
        (first | rw [c11b0] | (simp only [i64_w, i32_w]; rw [c11b0]) | skip)
        have H' := YL H
        clear H
        have hcz12_0 : w9.cell? ⟨gb276, 0, none⟩ = some (.int .i64 a0_0) := (YI BK276.out 0).trans rfl
        have hcz12_1 : w9.cell? ⟨gb276, 1, none⟩ = some (.int .i64 a0_1) := (YI BK276.out 1).trans rfl
        have hcz12_2 : w9.cell? ⟨gb276, 2, none⟩ = some (.bool a0_2) := (YI BK276.out 2).trans rfl
        have hcz12_3 : w9.cell? ⟨gb276, 3, none⟩ = some (.int .i64 a0_3) := (YI BK276.out 3).trans rfl
        have hcz12_4 : w9.cell? ⟨gb276, 4, none⟩ = some (.int .i64 a0_4) := (YI BK276.out 4).trans rfl
        have hcz12_5 : w9.cell? ⟨gb276, 5, none⟩ = some (.int .i64 a0_5) := (YI BK276.out 5).trans rfl
        have hcz12_6 : w9.cell? ⟨gb276, 6, none⟩ = some (.int .i64 a0_6) := (YI BK276.out 6).trans rfl
        have hcz12_7 : w9.cell? ⟨gb276, 7, none⟩ = some (.int .i64 a0_7) := (YI BK276.out 7).trans rfl
        have hcz12_8 : w9.cell? ⟨gb276, 8, none⟩ = some (.int .i64 a0_8) := (YI BK276.out 8).trans rfl
        have hcz12_9 : w9.cell? ⟨gb276, 9, none⟩ = some (.int .i64 a0_9) := (YI BK276.out 9).trans rfl
        have hcz12_10 : w9.cell? ⟨gb276, 10, none⟩ = some (.int .i64 a0_10) := (YI BK276.out 10).trans rfl
        have hcz12_11 : w9.cell? ⟨gb276, 11, none⟩ = some (.int .i64 a0_11) := (YI BK276.out 11).trans rfl
        have hfz12_0 := YJ BK276.out 0
        have hfz12_1 := YJ BK276.out 1
        have hfz12_2 := YJ BK276.out 2
        have hfz12_3 := YJ BK276.out 3
        have hfz12_4 := YJ BK276.out 4
        have hfz12_5 := YJ BK276.out 5
        have hfz12_6 := YJ BK276.out 6
        have hfz12_7 := YJ BK276.out 7
        have hfz12_8 := YJ BK276.out 8
        have hfz12_9 := YJ BK276.out 9
        have hfz12_10 := YJ BK276.out 10
        have hfz12_11 := YJ BK276.out 11
        go_wp2
        go_meet
        case rel => exact ⟨_, (true), (by first | rfl | (simp; done) | (simp [*]; done)), H', ⟨by first | omega | exact Nat.le_refl _⟩, ⟨by (with_reducible repeat (first | apply YP | apply YQ | apply YR)); exact HO280.out⟩, ⟨by (with_reducible repeat (first | refine YF ?_ _ | refine YG ?_ | refine YH ?_ _)); exact BK276.out⟩, ⟨by repeat (first | (with_reducible first | exact HB.out | apply YA | apply YB | apply YC | refine below_set ?_ GE276.out) | exact HB.out)⟩⟩
      rw [if_neg c11] at H
      have c11b0 : (a0_0 == 2) = false := beq_eq_false_iff_ne.mpr c11
      have c11b1 : (a0_0 != 2) = true := bne_iff_ne.mpr c11
      (first | rw [c11b0] | (simp only [i64_w, i32_w]; rw [c11b0]) | skip)
      have H' := YL H
      clear H
      have hcz13_0 : w9.cell? ⟨gb276, 0, none⟩ = some (.int .i64 a0_0) := (YI BK276.out 0).trans rfl
      have hcz13_1 : w9.cell? ⟨gb276, 1, none⟩ = some (.int .i64 a0_1) := (YI BK276.out 1).trans rfl
      have hcz13_2 : w9.cell? ⟨gb276, 2, none⟩ = some (.bool a0_2) := (YI BK276.out 2).trans rfl
      have hcz13_3 : w9.cell? ⟨gb276, 3, none⟩ = some (.int .i64 a0_3) := (YI BK276.out 3).trans rfl
      have hcz13_4 : w9.cell? ⟨gb276, 4, none⟩ = some (.int .i64 a0_4) := (YI BK276.out 4).trans rfl
      have hcz13_5 : w9.cell? ⟨gb276, 5, none⟩ = some (.int .i64 a0_5) := (YI BK276.out 5).trans rfl
      have hcz13_6 : w9.cell? ⟨gb276, 6, none⟩ = some (.int .i64 a0_6) := (YI BK276.out 6).trans rfl
      have hcz13_7 : w9.cell? ⟨gb276, 7, none⟩ = some (.int .i64 a0_7) := (YI BK276.out 7).trans rfl
      have hcz13_8 : w9.cell? ⟨gb276, 8, none⟩ = some (.int .i64 a0_8) := (YI BK276.out 8).trans rfl
      have hcz13_9 : w9.cell? ⟨gb276, 9, none⟩ = some (.int .i64 a0_9) := (YI BK276.out 9).trans rfl
      have hcz13_10 : w9.cell? ⟨gb276, 10, none⟩ = some (.int .i64 a0_10) := (YI BK276.out 10).trans rfl
      have hcz13_11 : w9.cell? ⟨gb276, 11, none⟩ = some (.int .i64 a0_11) := (YI BK276.out 11).trans rfl
      have hfz13_0 := YJ BK276.out 0
      have hfz13_1 := YJ BK276.out 1
      have hfz13_2 := YJ BK276.out 2
      have hfz13_3 := YJ BK276.out 3
      have hfz13_4 := YJ BK276.out 4
      have hfz13_5 := YJ BK276.out 5
      have hfz13_6 := YJ BK276.out 6
      have hfz13_7 := YJ BK276.out 7
      have hfz13_8 := YJ BK276.out 8
      have hfz13_9 := YJ BK276.out 9
      have hfz13_10 := YJ BK276.out 10
      have hfz13_11 := YJ BK276.out 11
      go_wp2
      go_meet
      case rel => exact ⟨_, ((a0_0 == 4)), (by first | rfl | (simp; done) | (simp [*]; done)), H', ⟨by first | omega | exact Nat.le_refl _⟩, ⟨by (with_reducible repeat (first | apply YP | apply YQ | apply YR)); exact HO280.out⟩, ⟨by (with_reducible repeat (first | refine YF ?_ _ | refine YG ?_ | refine YH ?_ _)); exact BK276.out⟩, ⟨by repeat (first | (with_reducible first | exact HB.out | apply YA | apply YB | apply YC | refine below_set ?_ GE276.out) | exact HB.out)⟩⟩
    case rest =>
      clear HC4
      try clear c1
      try clear c2
      try clear p2
      try clear c3
      try clear c11
      try clear c11b0
      try clear c11b1
      try clear hcz12_0
      try clear hcz12_1
      try clear hcz12_10
      try clear hcz12_11
      try clear hcz12_2
      try clear hcz12_3
      try clear hcz12_4
      try clear hcz12_5
      try clear hcz12_6
      try clear hcz12_7
      try clear hcz12_8
      try clear hcz12_9
      try clear hcz13_0
      try clear hcz13_1
      try clear hcz13_10
      try clear hcz13_11
      try clear hcz13_2
      try clear hcz13_3
      try clear hcz13_4
      try clear hcz13_5
      try clear hcz13_6
      try clear hcz13_7
      try clear hcz13_8
      try clear hcz13_9
      try clear hcz6_0
      try clear hcz6_1
      try clear hcz6_10
      try clear hcz6_11
      try clear hcz6_2
      try clear hcz6_3
      try clear hcz6_4
      try clear hcz6_5
      try clear hcz6_6
      try clear hcz6_7
      try clear hcz6_8
      try clear hcz6_9
      try clear hcz8_0
      try clear hcz8_1
      try clear hcz8_10
      try clear hcz8_11
      try clear hcz8_2
      try clear hcz8_3
      try clear hcz8_4
      try clear hcz8_5
      try clear hcz8_6
      try clear hcz8_7
      try clear hcz8_8
      try clear hcz8_9
      try clear hfz12_0
      try clear hfz12_1
      try clear hfz12_10
      try clear hfz12_11
      try clear hfz12_2
      try clear hfz12_3
      try clear hfz12_4
      try clear hfz12_5
      try clear hfz12_6
      try clear hfz12_7
      try clear hfz12_8
      try clear hfz12_9
      try clear hfz13_0
      try clear hfz13_1
      try clear hfz13_10
      try clear hfz13_11
      try clear hfz13_2
      try clear hfz13_3
      try clear hfz13_4
      try clear hfz13_5
      try clear hfz13_6
      try clear hfz13_7
      try clear hfz13_8
      try clear hfz13_9
      try clear hfz6_0
      try clear hfz6_1
      try clear hfz6_10
      try clear hfz6_11
      try clear hfz6_2
      try clear hfz6_3
      try clear hfz6_4
      try clear hfz6_5
      try clear hfz6_6
      try clear hfz6_7
      try clear hfz6_8
      try clear hfz6_9
      try clear hfz8_0
      try clear hfz8_1
      try clear hfz8_10
      try clear hfz8_11
      try clear hfz8_2
      try clear hfz8_3
      try clear hfz8_4
      try clear hfz8_5
      try clear hfz8_6
      try clear hfz8_7
      try clear hfz8_8
      try clear hfz8_9
      obtain ⟨kq, x24_3, rfl, HA, HJ3, HO_4, BK276, HB⟩ := hcut
      cases kq with
      | zero => exact absurd HA.out (by simp [thalwegref04_Bytes.j0])
      | succ kj3 =>
        have H := HA.out
        clear HA
        simp only [thalwegref04_Bytes.j0] at H
        have HC14 := YL H; clear H
        go_upto_if 24 with (fail)
        go_cut [4] (fun v4 wc => ∃ (kq : Nat) (x4_13 : List Int), Aside0 (thalwegref04_Bytes.j1 kq x4_13 a0_0 a0_1 a0_2 a0_3 a0_4 a0_5 a0_6 a0_7 a0_8 a0_9 a0_10 a0_11 = some (r1, r2)) ∧ Aside0 (kq ≤ kj3) ∧ Aside0 (Kd.R (Kd.int .u8) 5 wc w.heap.size (fun _ => True) v4 x4_13) ∧ Aside0 (wc.heap[gb276]? = some (.cells #[.int .i64 a0_0, .int .i64 a0_1, .bool a0_2, .int .i64 a0_3, .int .i64 a0_4, .int .i64 a0_5, .int .i64 a0_6, .int .i64 a0_7, .int .i64 a0_8, .int .i64 a0_9, .int .i64 a0_10, .int .i64 a0_11] 45 (0, 0))) ∧ Aside0 (Below w.heap.size w wc))
        case first =>
          have H := HC14.out
          clear HC14
          by_cases c15 : x24_3 = true
          · subst c15
            have H1 : ((thalwegref02_Bytes.f kj3 a0_2 a0_3 a0_4 a0_5 a0_6 a0_7).bind fun bt281 => (if y278.length + bt281.1.length < 140737488355328 then (thalwegref04_Bytes.j1 kj3 (y278 ++ bt281.1) a0_0 a0_1 a0_2 a0_3 a0_4 a0_5 a0_6 a0_7 a0_8 a0_9 a0_10 a0_11) else (none))) = some (r1, r2) := by rw [if_pos rfl] at H; exact H
            clear H
            have H := H1
            clear H1; replace H := Option.bind_eq_some_iff.mp H
            obtain ⟨⟨t281, t284⟩, A160, H⟩ := H
            replace H : (if y278.length + t281.length < 140737488355328 then (thalwegref04_Bytes.j1 kj3 (y278 ++ t281) a0_0 a0_1 a0_2 a0_3 a0_4 a0_5 a0_6 a0_7 a0_8 a0_9 a0_10 a0_11) else (none)) = some (r1, r2) := H
            have A16 := YL A160; clear A160
            by_cases c17 : y278.length + t281.length < 140737488355328
            rotate_left
            · rw [if_neg c17] at H
              exact absurd H (by simp)
            rw [if_pos c17] at H; have LMc17 := YL c17; clear c17
            obtain ⟨y285, hy285⟩ : ∃ y_ : List Int, y_ = (y278 ++ t281) := ⟨_, rfl⟩
            replace H : (thalwegref04_Bytes.j1 kj3 y285 a0_0 a0_1 a0_2 a0_3 a0_4 a0_5 a0_6 a0_7 a0_8 a0_9 a0_10 a0_11) = some (r1, r2) := by first | (rw [hy285]; with_reducible exact H) | (have H2_ := (Option.bind_some _ _).symm.trans H; rw [hy285]; with_reducible exact H2_) | (have H2_ := (Option.bind_some _ _).symm.trans H; with_reducible exact H2_) | with_reducible exact H | (rw [hy285]; exact H) | exact H
            have Ny285 := YL hy285; clear hy285
            have H' := YL H
            clear H
            have hcz18_0 : wc.cell? ⟨gb276, 0, none⟩ = some (.int .i64 a0_0) := (YI BK276.out 0).trans rfl
            have hcz18_1 : wc.cell? ⟨gb276, 1, none⟩ = some (.int .i64 a0_1) := (YI BK276.out 1).trans rfl
            have hcz18_2 : wc.cell? ⟨gb276, 2, none⟩ = some (.bool a0_2) := (YI BK276.out 2).trans rfl
            have hcz18_3 : wc.cell? ⟨gb276, 3, none⟩ = some (.int .i64 a0_3) := (YI BK276.out 3).trans rfl
            have hcz18_4 : wc.cell? ⟨gb276, 4, none⟩ = some (.int .i64 a0_4) := (YI BK276.out 4).trans rfl
            have hcz18_5 : wc.cell? ⟨gb276, 5, none⟩ = some (.int .i64 a0_5) := (YI BK276.out 5).trans rfl
            have hcz18_6 : wc.cell? ⟨gb276, 6, none⟩ = some (.int .i64 a0_6) := (YI BK276.out 6).trans rfl
            have hcz18_7 : wc.cell? ⟨gb276, 7, none⟩ = some (.int .i64 a0_7) := (YI BK276.out 7).trans rfl
            have hcz18_8 : wc.cell? ⟨gb276, 8, none⟩ = some (.int .i64 a0_8) := (YI BK276.out 8).trans rfl
            have hcz18_9 : wc.cell? ⟨gb276, 9, none⟩ = some (.int .i64 a0_9) := (YI BK276.out 9).trans rfl
            have hcz18_10 : wc.cell? ⟨gb276, 10, none⟩ = some (.int .i64 a0_10) := (YI BK276.out 10).trans rfl
            have hcz18_11 : wc.cell? ⟨gb276, 11, none⟩ = some (.int .i64 a0_11) := (YI BK276.out 11).trans rfl
            have hfz18_0 := YJ BK276.out 0
            have hfz18_1 := YJ BK276.out 1
            have hfz18_2 := YJ BK276.out 2
            have hfz18_3 := YJ BK276.out 3
            have hfz18_4 := YJ BK276.out 4
            have hfz18_5 := YJ BK276.out 5
            have hfz18_6 := YJ BK276.out 6
            have hfz18_7 := YJ BK276.out 7
            have hfz18_8 := YJ BK276.out 8
            have hfz18_9 := YJ BK276.out 9
            have hfz18_10 := YJ BK276.out 10
            have hfz18_11 := YJ BK276.out 11
            go_wp2_with (first | ((with_reducible refine gate_callee (f := 38) rfl ?_); refine goesL_ (some 28) rfl rfl Try.func38 (by kernel_rfl) rfl #[.agg #[.bool a0_2, .int .i64 a0_3, .int .i64 a0_4, .int .i64 a0_5, .int .i64 a0_6, .int .i64 a0_7]] rfl (by (try simp only [YM, List.map_cons, List.map_nil]); first | done | rfl | (simp only [YO, YN]; rfl)) ?_; (with_reducible refine (thalwegref02_Bytes.calls kj3 a0_2 a0_3 a0_4 a0_5 a0_6 a0_7 t281 t284 _ A16.out).mono ?_); rintro e w19 ⟨v282, rfl, ho0, hb⟩; refine ⟨_, rfl, ?_⟩; have n0_ := YL (Kd.R_elder' (by (with_reducible repeat (first | apply YP | apply YQ | apply YR)); exact HO_4.out) (Kd.R_base ho0) hb); have n1_ := YL (Kd.R_lower (Kd.R_new' ho0 (Kd.R_lt (by (with_reducible repeat (first | apply YP | apply YQ | apply YR)); exact HO_4.out))) (YE (by repeat (first | (with_reducible first | exact HB.out | apply YA | apply YB | apply YC | refine below_set ?_ GE276.out) | exact HB.out)))); have n2_ := YL (YK (g := gb276) (o := .cells #[.int .i64 a0_0, .int .i64 a0_1, .bool a0_2, .int .i64 a0_3, .int .i64 a0_4, .int .i64 a0_5, .int .i64 a0_6, .int .i64 a0_7, .int .i64 a0_8, .int .i64 a0_9, .int .i64 a0_10, .int .i64 a0_11] 45 (0, 0)) (by (with_reducible repeat (first | refine YF ?_ _ | refine YG ?_ | refine YH ?_ _)); exact BK276.out) hb); have n3_ := YL (YD (by repeat (first | (with_reducible first | exact HB.out | apply YA | apply YB | apply YC | refine below_set ?_ GE276.out) | exact HB.out)) hb); clear HO_4; clear BK276; clear HB; have HO_4 := n0_; have HO283 := n1_; have BK276 := n2_; have HB := n3_; clear n0_ n1_ n2_ n3_; (try clear hb); (try clear hb2); (try clear hk); (try clear hi); (try clear ho0); obtain ⟨Ao21, co21, eo21⟩ := Kd.R_slice HO283.out; subst eo21) | ((with_reducible refine gate_builtin (b := .append) (xs := #[.tmp 31, .tmp 32]) rfl ?_); at_builtin; refine Kd.R_append_rows (Kd.int .u8) (w0 := w) w.heap.size rfl (.tmp 31) (.tmp 32) 26 5 (.int .u8 0) 1 rfl Try.underlying26 info5 rfl (by decide) (by omega) v279 y278 t281 _ _ _ (fun k_ => some k_ ≠ (.slice Ao21 t281.length co21 : Value).ownBlock) (fun _ => False) rfl rfl ?aO ?aR (fun _ _ h => h) (fun _ h => h.elim) ?aF ?aB ?aS ?aL ?_; (case aR => repeat (first | exact (Kd.R_reads' HO283.out).2.2 | (with_reducible refine Kd.C_alloc ?_ _) | (with_reducible refine Kd.C_drewN ?_ _) | (with_reducible refine Kd.C_drew ?_))); (case aB => exact (by repeat (first | (with_reducible first | exact HB.out | apply YA | apply YB | apply YC | refine below_set ?_ GE276.out) | exact HB.out))); (case aF => exact (fun k_ hk => Kd.fresh' (Kd.R_lt (by (with_reducible repeat (first | apply YP | apply YQ | apply YR)); exact HO283.out)) k_ hk)); (case aO => exact (by (with_reducible repeat (first | apply YP | apply YQ | apply YR)); exact Kd.R_mono HO_4.out (fun _ hk => by first | exact hk.2 | exact trivial | (simp [hk]; done) | simp_all))); (case aS => exact (YE (by repeat (first | (with_reducible first | exact HB.out | apply YA | apply YB | apply YC | refine below_set ?_ GE276.out) | exact HB.out)))); (case aL => have := LMc17.out; omega); intro v286 w20 ho hb hg hat; rw [← Ny285.out] at ho; have n0_ := YL (blk_grown (g := gb276) (o := .cells #[.int .i64 a0_0, .int .i64 a0_1, .bool a0_2, .int .i64 a0_3, .int .i64 a0_4, .int .i64 a0_5, .int .i64 a0_6, .int .i64 a0_7, .int .i64 a0_8, .int .i64 a0_9, .int .i64 a0_10, .int .i64 a0_11] 45 (0, 0)) (by (with_reducible repeat (first | refine YF ?_ _ | refine YG ?_ | refine YH ?_ _)); exact BK276.out) hg (Kd.R_ne HO_4.out BK276.out (by decide))); have n1_ := YL (Kd.R_after (ok := (fun _ => True)) (by (with_reducible repeat (first | apply YP | apply YQ | apply YR)); exact HO283.out) hg hat); have n2_ := YL (hb); have n3_ := YL (ho); clear BK276; clear HO283; clear HB; clear HO_4; have BK276 := n0_; have HO283 := n1_; have HB := n2_; have HO287 := n3_; clear n0_ n1_ n2_ n3_; clear ho hb hg hat))
            go_meet
            case rel => exact ⟨_, (y285), H', ⟨by have := HJ3.out; first | omega | exact Nat.le_refl _⟩, ⟨by (with_reducible repeat (first | apply YP | apply YQ | apply YR)); exact Kd.R_mono HO287.out (fun _ hk => trivial)⟩, ⟨by (with_reducible repeat (first | refine YF ?_ _ | refine YG ?_ | refine YH ?_ _)); exact BK276.out⟩, ⟨by repeat (first | (with_reducible first | exact HB.out | apply YA | apply YB | apply YC | refine below_set ?_ GE276.out) | exact HB.out)⟩⟩
          replace c15 := Bool.eq_false_iff.mpr c15
          subst c15
          have H1 : (thalwegref04_Bytes.j1 kj3 y278 a0_0 a0_1 a0_2 a0_3 a0_4 a0_5 a0_6 a0_7 a0_8 a0_9 a0_10 a0_11) = some (r1, r2) := by rw [if_neg (show ¬ (false = true) by decide)] at H; exact H
          clear H
          have H := H1
          clear H1
          have H' := YL H
          clear H
          go_wp2
          go_meet
          case rel => exact ⟨_, (y278), H', ⟨by have := HJ3.out; first | omega | exact Nat.le_refl _⟩, ⟨by (with_reducible repeat (first | apply YP | apply YQ | apply YR)); exact HO_4.out⟩, ⟨by (with_reducible repeat (first | refine YF ?_ _ | refine YG ?_ | refine YH ?_ _)); exact BK276.out⟩, ⟨by repeat (first | (with_reducible first | exact HB.out | apply YA | apply YB | apply YC | refine below_set ?_ GE276.out) | exact HB.out)⟩⟩
        case rest =>
          clear HC14
          try clear c1
          try clear c2
          try clear p2
          try clear c3
          try clear c11
          try clear c11b0
          try clear c11b1
          try clear c15
          try clear c17
          try clear hcz12_0
          try clear hcz12_1
          try clear hcz12_10
          try clear hcz12_11
          try clear hcz12_2
          try clear hcz12_3
          try clear hcz12_4
          try clear hcz12_5
          try clear hcz12_6
          try clear hcz12_7
          try clear hcz12_8
          try clear hcz12_9
          try clear hcz13_0
          try clear hcz13_1
          try clear hcz13_10
          try clear hcz13_11
          try clear hcz13_2
          try clear hcz13_3
          try clear hcz13_4
          try clear hcz13_5
          try clear hcz13_6
          try clear hcz13_7
          try clear hcz13_8
          try clear hcz13_9
          try clear hcz18_0
          try clear hcz18_1
          try clear hcz18_10
          try clear hcz18_11
          try clear hcz18_2
          try clear hcz18_3
          try clear hcz18_4
          try clear hcz18_5
          try clear hcz18_6
          try clear hcz18_7
          try clear hcz18_8
          try clear hcz18_9
          try clear hcz6_0
          try clear hcz6_1
          try clear hcz6_10
          try clear hcz6_11
          try clear hcz6_2
          try clear hcz6_3
          try clear hcz6_4
          try clear hcz6_5
          try clear hcz6_6
          try clear hcz6_7
          try clear hcz6_8
          try clear hcz6_9
          try clear hcz8_0
          try clear hcz8_1
          try clear hcz8_10
          try clear hcz8_11
          try clear hcz8_2
          try clear hcz8_3
          try clear hcz8_4
          try clear hcz8_5
          try clear hcz8_6
          try clear hcz8_7
          try clear hcz8_8
          try clear hcz8_9
          try clear hfz12_0
          try clear hfz12_1
          try clear hfz12_10
          try clear hfz12_11
          try clear hfz12_2
          try clear hfz12_3
          try clear hfz12_4
          try clear hfz12_5
          try clear hfz12_6
          try clear hfz12_7
          try clear hfz12_8
          try clear hfz12_9
          try clear hfz13_0
          try clear hfz13_1
          try clear hfz13_10
          try clear hfz13_11
          try clear hfz13_2
          try clear hfz13_3
          try clear hfz13_4
          try clear hfz13_5
          try clear hfz13_6
          try clear hfz13_7
          try clear hfz13_8
          try clear hfz13_9
          try clear hfz18_0
          try clear hfz18_1
          try clear hfz18_10
          try clear hfz18_11
          try clear hfz18_2
          try clear hfz18_3
          try clear hfz18_4
          try clear hfz18_5
          try clear hfz18_6
          try clear hfz18_7
          try clear hfz18_8
          try clear hfz18_9
          try clear hfz6_0
          try clear hfz6_1
          try clear hfz6_10
          try clear hfz6_11
          try clear hfz6_2
          try clear hfz6_3
          try clear hfz6_4
          try clear hfz6_5
          try clear hfz6_6
          try clear hfz6_7
          try clear hfz6_8
          try clear hfz6_9
          try clear hfz8_0
          try clear hfz8_1
          try clear hfz8_10
          try clear hfz8_11
          try clear hfz8_2
          try clear hfz8_3
          try clear hfz8_4
          try clear hfz8_5
          try clear hfz8_6
          try clear hfz8_7
          try clear hfz8_8
          try clear hfz8_9
          try clear p2
          obtain ⟨kq, x4_13, HA, HJ13, HO_4, BK276, HB⟩ := hcut
          cases kq with
          | zero => exact absurd HA.out (by simp [thalwegref04_Bytes.j1])
          | succ kj13 =>
            have H := HA.out
            clear HA
            simp only [thalwegref04_Bytes.j1] at H
            by_cases c22 : a0_0 = 3
            · rw [if_pos c22] at H
              have c22b0 : (a0_0 == 3) = true := beq_iff_eq.mpr c22
              have c22b1 : (a0_0 != 3) = false := bne_eq_false_iff_eq.mpr c22
              clear c22; replace H := Option.bind_eq_some_iff.mp H; obtain ⟨t288, A230, H⟩ := H
              replace H : (if x4_13.length + t288.length < 140737488355328 then ((some (x4_13 ++ t288 : List Int)).bind fun y291 => ((some (([(a0_9) % 256, (a0_10) % 256] : List Int) : List Int)).bind fun y294 => (if y291.length + y294.length < 140737488355328 then (if a0_0 = 4 then (none) else (some ((y291 ++ y294), 0))) else (none)))) else (none)) = some (r1, r2) := H
              have A23 := YL A230; clear A230
              by_cases c24 : x4_13.length + t288.length < 140737488355328
              rotate_left
              · rw [if_neg c24] at H
                exact absurd H (by simp)
              rw [if_pos c24] at H; have LMc24 := YL c24; clear c24
              obtain ⟨y291, hy291⟩ : ∃ y_ : List Int, y_ = (x4_13 ++ t288) := ⟨_, rfl⟩
              replace H : ((some (([(a0_9) % 256, (a0_10) % 256] : List Int) : List Int)).bind fun y294 => (if y291.length + y294.length < 140737488355328 then (if a0_0 = 4 then (none) else (some ((y291 ++ y294), 0))) else (none))) = some (r1, r2) := by first | (rw [hy291]; with_reducible exact H) | (have H2_ := (Option.bind_some _ _).symm.trans H; rw [hy291]; with_reducible exact H2_) | (have H2_ := (Option.bind_some _ _).symm.trans H; with_reducible exact H2_) | with_reducible exact H | (rw [hy291]; exact H) | exact H
              have Ny291 := YL hy291; clear hy291
              obtain ⟨y294, hy294⟩ : ∃ y_ : List Int, y_ = (([(a0_9) % 256, (a0_10) % 256] : List Int)) := ⟨_, rfl⟩
              replace H : (if y291.length + y294.length < 140737488355328 then (if a0_0 = 4 then (none) else (some ((y291 ++ y294), 0))) else (none)) = some (r1, r2) := by first | (rw [hy294]; with_reducible exact H) | (have H2_ := (Option.bind_some _ _).symm.trans H; rw [hy294]; with_reducible exact H2_) | (have H2_ := (Option.bind_some _ _).symm.trans H; with_reducible exact H2_) | with_reducible exact H | (rw [hy294]; exact H) | exact H
              have Ny294 := YL hy294; clear hy294
              by_cases c25 : y291.length + y294.length < 140737488355328
              rotate_left
              · rw [if_neg c25] at H
                exact absurd H (by simp)
              rw [if_pos c25] at H; have LMc25 := YL c25; clear c25
              obtain ⟨y297, hy297⟩ : ∃ y_ : List Int, y_ = (y291 ++ y294) := ⟨_, rfl⟩
              replace H : (if a0_0 = 4 then (none) else (some (y297, 0))) = some (r1, r2) := by first | (rw [hy297]; with_reducible exact H) | (have H2_ := (Option.bind_some _ _).symm.trans H; rw [hy297]; with_reducible exact H2_) | (have H2_ := (Option.bind_some _ _).symm.trans H; with_reducible exact H2_) | with_reducible exact H | (rw [hy297]; exact H) | exact H
              have Ny297 := YL hy297; clear hy297
              by_cases c26 : a0_0 = 4
              · rw [if_pos c26] at H
                exact absurd H (by simp)
              rw [if_neg c26] at H
              have c26b0 : (a0_0 == 4) = false := beq_eq_false_iff_ne.mpr c26
              have c26b1 : (a0_0 != 4) = true := bne_iff_ne.mpr c26
              simp only [Option.some.injEq, Prod.mk.injEq] at H
              obtain ⟨rfl, rfl⟩ := H
              have hcz27_0 : wc.cell? ⟨gb276, 0, none⟩ = some (.int .i64 a0_0) := (YI BK276.out 0).trans rfl
              have hcz27_1 : wc.cell? ⟨gb276, 1, none⟩ = some (.int .i64 a0_1) := (YI BK276.out 1).trans rfl
              have hcz27_2 : wc.cell? ⟨gb276, 2, none⟩ = some (.bool a0_2) := (YI BK276.out 2).trans rfl
              have hcz27_3 : wc.cell? ⟨gb276, 3, none⟩ = some (.int .i64 a0_3) := (YI BK276.out 3).trans rfl
              have hcz27_4 : wc.cell? ⟨gb276, 4, none⟩ = some (.int .i64 a0_4) := (YI BK276.out 4).trans rfl
              have hcz27_5 : wc.cell? ⟨gb276, 5, none⟩ = some (.int .i64 a0_5) := (YI BK276.out 5).trans rfl
              have hcz27_6 : wc.cell? ⟨gb276, 6, none⟩ = some (.int .i64 a0_6) := (YI BK276.out 6).trans rfl
              have hcz27_7 : wc.cell? ⟨gb276, 7, none⟩ = some (.int .i64 a0_7) := (YI BK276.out 7).trans rfl
              have hcz27_8 : wc.cell? ⟨gb276, 8, none⟩ = some (.int .i64 a0_8) := (YI BK276.out 8).trans rfl
              have hcz27_9 : wc.cell? ⟨gb276, 9, none⟩ = some (.int .i64 a0_9) := (YI BK276.out 9).trans rfl
              have hcz27_10 : wc.cell? ⟨gb276, 10, none⟩ = some (.int .i64 a0_10) := (YI BK276.out 10).trans rfl
              have hcz27_11 : wc.cell? ⟨gb276, 11, none⟩ = some (.int .i64 a0_11) := (YI BK276.out 11).trans rfl
              have hfz27_0 := YJ BK276.out 0
              have hfz27_1 := YJ BK276.out 1
              have hfz27_2 := YJ BK276.out 2
              have hfz27_3 := YJ BK276.out 3
              have hfz27_4 := YJ BK276.out 4
              have hfz27_5 := YJ BK276.out 5
              have hfz27_6 := YJ BK276.out 6
              have hfz27_7 := YJ BK276.out 7
              have hfz27_8 := YJ BK276.out 8
              have hfz27_9 := YJ BK276.out 9
              have hfz27_10 := YJ BK276.out 10
              have hfz27_11 := YJ BK276.out 11
              go_wp2_with (first | ((with_reducible refine gate_callee (f := 39) rfl ?_); refine goesL_ (some 41) rfl rfl Try.func39 (by kernel_rfl) rfl #[.int .i64 a0_8] rfl (by (try simp only [YM, List.map_cons, List.map_nil]); first | done | rfl | (simp only [YO, YN]; rfl)) ?_; (with_reducible refine (thalwegref01_Int.calls kj13 a0_8 t288 _ A23.out).mono ?_); rintro e w28 ⟨v289, rfl, ho0, hb⟩; refine ⟨_, rfl, ?_⟩; have n0_ := YL (Kd.R_elder' (by (with_reducible repeat (first | apply YP | apply YQ | apply YR)); exact HO_4.out) (Kd.R_base ho0) hb); have n1_ := YL (Kd.R_lower (Kd.R_new' ho0 (Kd.R_lt (by (with_reducible repeat (first | apply YP | apply YQ | apply YR)); exact HO_4.out))) (YE (by repeat (first | (with_reducible first | exact HB.out | apply YA | apply YB | apply YC | refine below_set ?_ GE276.out) | exact HB.out)))); have n2_ := YL (YK (g := gb276) (o := .cells #[.int .i64 a0_0, .int .i64 a0_1, .bool a0_2, .int .i64 a0_3, .int .i64 a0_4, .int .i64 a0_5, .int .i64 a0_6, .int .i64 a0_7, .int .i64 a0_8, .int .i64 a0_9, .int .i64 a0_10, .int .i64 a0_11] 45 (0, 0)) (by (with_reducible repeat (first | refine YF ?_ _ | refine YG ?_ | refine YH ?_ _)); exact BK276.out) hb); have n3_ := YL (YD (by repeat (first | (with_reducible first | exact HB.out | apply YA | apply YB | apply YC | refine below_set ?_ GE276.out) | exact HB.out)) hb); clear HO_4; clear BK276; clear HB; have HO_4 := n0_; have HO290 := n1_; have BK276 := n2_; have HB := n3_; clear n0_ n1_ n2_ n3_; (try clear hb); (try clear hb2); (try clear hk); (try clear hi); (try clear ho0); obtain ⟨Ao30, co30, eo30⟩ := Kd.R_slice HO290.out; subst eo30) | ((with_reducible refine gate_builtin (b := .append) (xs := #[.tmp 37, .tmp 41]) rfl ?_); at_builtin; refine Kd.R_append_rows (Kd.int .u8) (w0 := w) w.heap.size rfl (.tmp 37) (.tmp 41) 26 5 (.int .u8 0) 1 rfl Try.underlying26 info5 rfl (by decide) (by omega) u4 x4_13 t288 _ _ _ (fun k_ => some k_ ≠ (.slice Ao30 t288.length co30 : Value).ownBlock) (fun _ => False) rfl rfl ?aO ?aR (fun _ _ h => h) (fun _ h => h.elim) ?aF ?aB ?aS ?aL ?_; (case aR => repeat (first | exact (Kd.R_reads' HO290.out).2.2 | (with_reducible refine Kd.C_alloc ?_ _) | (with_reducible refine Kd.C_drewN ?_ _) | (with_reducible refine Kd.C_drew ?_))); (case aB => exact (by repeat (first | (with_reducible first | exact HB.out | apply YA | apply YB | apply YC | refine below_set ?_ GE276.out) | exact HB.out))); (case aF => exact (fun k_ hk => Kd.fresh' (Kd.R_lt (by (with_reducible repeat (first | apply YP | apply YQ | apply YR)); exact HO290.out)) k_ hk)); (case aO => exact (by (with_reducible repeat (first | apply YP | apply YQ | apply YR)); exact Kd.R_mono HO_4.out (fun _ hk => by first | exact hk.2 | exact trivial | (simp [hk]; done) | simp_all))); (case aS => exact (YE (by repeat (first | (with_reducible first | exact HB.out | apply YA | apply YB | apply YC | refine below_set ?_ GE276.out) | exact HB.out)))); (case aL => have := LMc24.out; omega); intro v292 w29 ho hb hg hat; rw [← Ny291.out] at ho; have n0_ := YL (blk_grown (g := gb276) (o := .cells #[.int .i64 a0_0, .int .i64 a0_1, .bool a0_2, .int .i64 a0_3, .int .i64 a0_4, .int .i64 a0_5, .int .i64 a0_6, .int .i64 a0_7, .int .i64 a0_8, .int .i64 a0_9, .int .i64 a0_10, .int .i64 a0_11] 45 (0, 0)) (by (with_reducible repeat (first | refine YF ?_ _ | refine YG ?_ | refine YH ?_ _)); exact BK276.out) hg (Kd.R_ne HO_4.out BK276.out (by decide))); have n1_ := YL (Kd.R_after (ok := (fun _ => True)) (by (with_reducible repeat (first | apply YP | apply YQ | apply YR)); exact HO290.out) hg hat); have n2_ := YL (hb); have n3_ := YL (ho); clear BK276; clear HO290; clear HB; clear HO_4; have BK276 := n0_; have HO290 := n1_; have HB := n2_; have HO293 := n3_; clear n0_ n1_ n2_ n3_; clear ho hb hg hat; have hcz31_0 : w29.cell? ⟨gb276, 0, none⟩ = some (.int .i64 a0_0) := (YI BK276.out 0).trans rfl; have hcz31_1 : w29.cell? ⟨gb276, 1, none⟩ = some (.int .i64 a0_1) := (YI BK276.out 1).trans rfl; have hcz31_2 : w29.cell? ⟨gb276, 2, none⟩ = some (.bool a0_2) := (YI BK276.out 2).trans rfl; have hcz31_3 : w29.cell? ⟨gb276, 3, none⟩ = some (.int .i64 a0_3) := (YI BK276.out 3).trans rfl; have hcz31_4 : w29.cell? ⟨gb276, 4, none⟩ = some (.int .i64 a0_4) := (YI BK276.out 4).trans rfl; have hcz31_5 : w29.cell? ⟨gb276, 5, none⟩ = some (.int .i64 a0_5) := (YI BK276.out 5).trans rfl; have hcz31_6 : w29.cell? ⟨gb276, 6, none⟩ = some (.int .i64 a0_6) := (YI BK276.out 6).trans rfl; have hcz31_7 : w29.cell? ⟨gb276, 7, none⟩ = some (.int .i64 a0_7) := (YI BK276.out 7).trans rfl; have hcz31_8 : w29.cell? ⟨gb276, 8, none⟩ = some (.int .i64 a0_8) := (YI BK276.out 8).trans rfl; have hcz31_9 : w29.cell? ⟨gb276, 9, none⟩ = some (.int .i64 a0_9) := (YI BK276.out 9).trans rfl; have hcz31_10 : w29.cell? ⟨gb276, 10, none⟩ = some (.int .i64 a0_10) := (YI BK276.out 10).trans rfl; have hcz31_11 : w29.cell? ⟨gb276, 11, none⟩ = some (.int .i64 a0_11) := (YI BK276.out 11).trans rfl; have hfz31_0 := YJ BK276.out 0; have hfz31_1 := YJ BK276.out 1; have hfz31_2 := YJ BK276.out 2; have hfz31_3 := YJ BK276.out 3; have hfz31_4 := YJ BK276.out 4; have hfz31_5 := YJ BK276.out 5; have hfz31_6 := YJ BK276.out 6; have hfz31_7 := YJ BK276.out 7; have hfz31_8 := YJ BK276.out 8; have hfz31_9 := YJ BK276.out 9; have hfz31_10 := YJ BK276.out 10; have hfz31_11 := YJ BK276.out 11) | ((with_reducible refine gate_dst (N := 52) rfl ?_); refine Kd.R_lit (Kd.int .u8) _ 5 ?hg (N := 52) ?hd (xs := ([(a0_9) % 256, (a0_10) % 256] : List Int)) (inner := [.int .u8 ((a0_9) % 256), .int .u8 ((a0_10) % 256)]) (ok := fun _ => True) (okp := fun _ => True) ?hr ?hp (fun _ hk => hk) trivial (Below.refl _ _) (Nat.le_refl _) (by simp) ?_; (case hd => rfl); (case hg => rfl); (case hr => first | (go_simp; done) | (go_simp; rfl)); (case hp => exact (Reps.one (show Kd.M (Kd.int .u8) _ _ _ ((a0_9) % 256) [.int .u8 ((a0_9) % 256)] from rfl) (Reps.one (show Kd.M (Kd.int .u8) _ _ _ ((a0_10) % 256) [.int .u8 ((a0_10) % 256)] from rfl) (Reps.none _ _)))); intro v295 w32 ho33 hb hg_ hnew_; clear hg_ hnew_; (first | rw [← Ny294.out] at ho33 | (simp only [Int.reduceToNat] at ho33; rw [← Ny294.out] at ho33)); have n0_ := YL (Kd.R_elder' (by (with_reducible repeat (first | apply YP | apply YQ | apply YR)); exact HO290.out) (Kd.R_base ho33) hb); have n1_ := YL (Kd.R_elder' (by (with_reducible repeat (first | apply YP | apply YQ | apply YR)); exact HO293.out) (Kd.R_base ho33) hb); have n2_ := YL (Kd.R_lower (Kd.R_new' (Kd.R_new' ho33 (Kd.R_lt (by (with_reducible repeat (first | apply YP | apply YQ | apply YR)); exact HO290.out))) (Kd.R_lt (by (with_reducible repeat (first | apply YP | apply YQ | apply YR)); exact HO293.out))) (YE (by repeat (first | (with_reducible first | exact HB.out | apply YA | apply YB | apply YC | refine below_set ?_ GE276.out) | exact HB.out)))); have n3_ := YL (YK (g := gb276) (o := .cells #[.int .i64 a0_0, .int .i64 a0_1, .bool a0_2, .int .i64 a0_3, .int .i64 a0_4, .int .i64 a0_5, .int .i64 a0_6, .int .i64 a0_7, .int .i64 a0_8, .int .i64 a0_9, .int .i64 a0_10, .int .i64 a0_11] 45 (0, 0)) (by (with_reducible repeat (first | refine YF ?_ _ | refine YG ?_ | refine YH ?_ _)); exact BK276.out) hb); have n4_ := YL (YD (by repeat (first | (with_reducible first | exact HB.out | apply YA | apply YB | apply YC | refine below_set ?_ GE276.out) | exact HB.out)) hb); clear HO290; clear HO293; clear BK276; clear HB; have HO290 := n0_; have HO293 := n1_; have HO296 := n2_; have BK276 := n3_; have HB := n4_; clear n0_ n1_ n2_ n3_ n4_; clear hb ho33; obtain ⟨Ao35, co35, eo35⟩ := Kd.R_slice HO296.out; subst eo35) | ((with_reducible refine gate_builtin (b := .append) (xs := #[.tmp 43, .tmp 52]) rfl ?_); at_builtin; refine Kd.R_append_rows (Kd.int .u8) (w0 := w) w.heap.size rfl (.tmp 43) (.tmp 52) 26 5 (.int .u8 0) 1 rfl Try.underlying26 info5 rfl (by decide) (by omega) v292 y291 y294 _ _ _ (fun k_ => some k_ ≠ (.slice Ao30 t288.length co30 : Value).ownBlock ∧ some k_ ≠ (.slice Ao35 y294.length co35 : Value).ownBlock) (fun _ => False) rfl rfl ?aO ?aR (fun _ _ h => h) (fun _ h => h.elim) ?aF ?aB ?aS ?aL ?_; (case aR => repeat (first | exact (Kd.R_reads' HO296.out).2.2 | (with_reducible refine Kd.C_alloc ?_ _) | (with_reducible refine Kd.C_drewN ?_ _) | (with_reducible refine Kd.C_drew ?_))); (case aB => exact (by repeat (first | (with_reducible first | exact HB.out | apply YA | apply YB | apply YC | refine below_set ?_ GE276.out) | exact HB.out))); (case aF => exact (fun k_ hk => ⟨Kd.fresh' (Kd.R_lt (by (with_reducible repeat (first | apply YP | apply YQ | apply YR)); exact HO290.out)) k_ hk, Kd.fresh' (Kd.R_lt (by (with_reducible repeat (first | apply YP | apply YQ | apply YR)); exact HO296.out)) k_ hk⟩)); (case aO => exact (by (with_reducible repeat (first | apply YP | apply YQ | apply YR)); exact HO293.out)); (case aS => exact (YE (by repeat (first | (with_reducible first | exact HB.out | apply YA | apply YB | apply YC | refine below_set ?_ GE276.out) | exact HB.out)))); (case aL => have := LMc25.out; omega); intro v298 w34 ho hb hg hat; rw [← Ny297.out] at ho; have n0_ := YL (blk_grown (g := gb276) (o := .cells #[.int .i64 a0_0, .int .i64 a0_1, .bool a0_2, .int .i64 a0_3, .int .i64 a0_4, .int .i64 a0_5, .int .i64 a0_6, .int .i64 a0_7, .int .i64 a0_8, .int .i64 a0_9, .int .i64 a0_10, .int .i64 a0_11] 45 (0, 0)) (by (with_reducible repeat (first | refine YF ?_ _ | refine YG ?_ | refine YH ?_ _)); exact BK276.out) hg (Kd.R_ne HO293.out BK276.out (by decide))); have n1_ := YL (Kd.R_after (ok := (fun k_ => some k_ ≠ (.slice Ao35 y294.length co35 : Value).ownBlock)) (by (with_reducible repeat (first | apply YP | apply YQ | apply YR)); exact Kd.R_mono HO290.out (fun _ hk => by first | exact ⟨hk.2, hk.1.2⟩ | exact trivial | (simp [hk]; done) | simp_all)) hg hat); have n2_ := YL (Kd.R_after (ok := (fun k_ => some k_ ≠ (.slice Ao30 t288.length co30 : Value).ownBlock)) (by (with_reducible repeat (first | apply YP | apply YQ | apply YR)); exact Kd.R_mono HO296.out (fun _ hk => by first | exact ⟨hk.1.2, hk.2⟩ | exact trivial | (simp [hk]; done) | simp_all)) hg hat); have n3_ := YL (hb); have n4_ := YL (ho); clear BK276; clear HO290; clear HO296; clear HB; clear HO293; have BK276 := n0_; have HO290 := n1_; have HO296 := n2_; have HB := n3_; have HO299 := n4_; clear n0_ n1_ n2_ n3_ n4_; clear ho hb hg hat; have hcz36_0 : w34.cell? ⟨gb276, 0, none⟩ = some (.int .i64 a0_0) := (YI BK276.out 0).trans rfl; have hcz36_1 : w34.cell? ⟨gb276, 1, none⟩ = some (.int .i64 a0_1) := (YI BK276.out 1).trans rfl; have hcz36_2 : w34.cell? ⟨gb276, 2, none⟩ = some (.bool a0_2) := (YI BK276.out 2).trans rfl; have hcz36_3 : w34.cell? ⟨gb276, 3, none⟩ = some (.int .i64 a0_3) := (YI BK276.out 3).trans rfl; have hcz36_4 : w34.cell? ⟨gb276, 4, none⟩ = some (.int .i64 a0_4) := (YI BK276.out 4).trans rfl; have hcz36_5 : w34.cell? ⟨gb276, 5, none⟩ = some (.int .i64 a0_5) := (YI BK276.out 5).trans rfl; have hcz36_6 : w34.cell? ⟨gb276, 6, none⟩ = some (.int .i64 a0_6) := (YI BK276.out 6).trans rfl; have hcz36_7 : w34.cell? ⟨gb276, 7, none⟩ = some (.int .i64 a0_7) := (YI BK276.out 7).trans rfl; have hcz36_8 : w34.cell? ⟨gb276, 8, none⟩ = some (.int .i64 a0_8) := (YI BK276.out 8).trans rfl; have hcz36_9 : w34.cell? ⟨gb276, 9, none⟩ = some (.int .i64 a0_9) := (YI BK276.out 9).trans rfl; have hcz36_10 : w34.cell? ⟨gb276, 10, none⟩ = some (.int .i64 a0_10) := (YI BK276.out 10).trans rfl; have hcz36_11 : w34.cell? ⟨gb276, 11, none⟩ = some (.int .i64 a0_11) := (YI BK276.out 11).trans rfl; have hfz36_0 := YJ BK276.out 0; have hfz36_1 := YJ BK276.out 1; have hfz36_2 := YJ BK276.out 2; have hfz36_3 := YJ BK276.out 3; have hfz36_4 := YJ BK276.out 4; have hfz36_5 := YJ BK276.out 5; have hfz36_6 := YJ BK276.out 6; have hfz36_7 := YJ BK276.out 7; have hfz36_8 := YJ BK276.out 8; have hfz36_9 := YJ BK276.out 9; have hfz36_10 := YJ BK276.out 10; have hfz36_11 := YJ BK276.out 11))
              go_ret2
              exact ⟨_, by first | rfl | (simp [errW_none, errW_some] <;> rfl) | (simp [*, errW_none, errW_some] <;> rfl), by (with_reducible repeat (first | apply YP | apply YQ | apply YR)); exact Kd.R_mono HO299.out (fun _ hk => trivial), by repeat (first | (with_reducible first | exact HB.out | apply YA | apply YB | apply YC | refine below_set ?_ GE276.out) | exact HB.out)⟩
            rw [if_neg c22] at H
            have c22b0 : (a0_0 == 3) = false := beq_eq_false_iff_ne.mpr c22
            have c22b1 : (a0_0 != 3) = true := bne_iff_ne.mpr c22
            by_cases c37 : a0_0 = 4
            · rw [if_pos c37] at H
              have c37b0 : (a0_0 == 4) = true := beq_iff_eq.mpr c37
              have c37b1 : (a0_0 != 4) = false := bne_eq_false_iff_eq.mpr c37
              clear c37
              obtain ⟨y300, hy300⟩ : ∃ y_ : List Int, y_ = (([(wrap64 (Int.tdiv a0_11 256)) % 256, (Int.tmod a0_11 256) % 256] : List Int)) := ⟨_, rfl⟩
              replace H : (if x4_13.length + y300.length < 140737488355328 then (some ((x4_13 ++ y300), 0)) else (none)) = some (r1, r2) := by first | (rw [hy300]; with_reducible exact H) | (have H2_ := (Option.bind_some _ _).symm.trans H; rw [hy300]; with_reducible exact H2_) | (have H2_ := (Option.bind_some _ _).symm.trans H; with_reducible exact H2_) | with_reducible exact H | (rw [hy300]; exact H) | exact H
              have Ny300 := YL hy300; clear hy300
              by_cases c38 : x4_13.length + y300.length < 140737488355328
              rotate_left
              · rw [if_neg c38] at H
                exact absurd H (by simp)
              rw [if_pos c38] at H; have LMc38 := YL c38; clear c38
              obtain ⟨y303, hy303⟩ : ∃ y_ : List Int, y_ = (x4_13 ++ y300) := ⟨_, rfl⟩
              replace H : (some (y303, 0)) = some (r1, r2) := by first | (rw [hy303]; with_reducible exact H) | (have H2_ := (Option.bind_some _ _).symm.trans H; rw [hy303]; with_reducible exact H2_) | (have H2_ := (Option.bind_some _ _).symm.trans H; with_reducible exact H2_) | with_reducible exact H | (rw [hy303]; exact H) | exact H
              have Ny303 := YL hy303; clear hy303
              simp only [Option.some.injEq, Prod.mk.injEq] at H
              obtain ⟨rfl, rfl⟩ := H
              have hcz39_0 : wc.cell? ⟨gb276, 0, none⟩ = some (.int .i64 a0_0) := (YI BK276.out 0).trans rfl
              have hcz39_1 : wc.cell? ⟨gb276, 1, none⟩ = some (.int .i64 a0_1) := (YI BK276.out 1).trans rfl
              have hcz39_2 : wc.cell? ⟨gb276, 2, none⟩ = some (.bool a0_2) := (YI BK276.out 2).trans rfl
              have hcz39_3 : wc.cell? ⟨gb276, 3, none⟩ = some (.int .i64 a0_3) := (YI BK276.out 3).trans rfl
              have hcz39_4 : wc.cell? ⟨gb276, 4, none⟩ = some (.int .i64 a0_4) := (YI BK276.out 4).trans rfl
              have hcz39_5 : wc.cell? ⟨gb276, 5, none⟩ = some (.int .i64 a0_5) := (YI BK276.out 5).trans rfl
              have hcz39_6 : wc.cell? ⟨gb276, 6, none⟩ = some (.int .i64 a0_6) := (YI BK276.out 6).trans rfl
              have hcz39_7 : wc.cell? ⟨gb276, 7, none⟩ = some (.int .i64 a0_7) := (YI BK276.out 7).trans rfl
              have hcz39_8 : wc.cell? ⟨gb276, 8, none⟩ = some (.int .i64 a0_8) := (YI BK276.out 8).trans rfl
              have hcz39_9 : wc.cell? ⟨gb276, 9, none⟩ = some (.int .i64 a0_9) := (YI BK276.out 9).trans rfl
              have hcz39_10 : wc.cell? ⟨gb276, 10, none⟩ = some (.int .i64 a0_10) := (YI BK276.out 10).trans rfl
              have hcz39_11 : wc.cell? ⟨gb276, 11, none⟩ = some (.int .i64 a0_11) := (YI BK276.out 11).trans rfl
              have hfz39_0 := YJ BK276.out 0
              have hfz39_1 := YJ BK276.out 1
              have hfz39_2 := YJ BK276.out 2
              have hfz39_3 := YJ BK276.out 3
              have hfz39_4 := YJ BK276.out 4
              have hfz39_5 := YJ BK276.out 5
              have hfz39_6 := YJ BK276.out 6
              have hfz39_7 := YJ BK276.out 7
              have hfz39_8 := YJ BK276.out 8
              have hfz39_9 := YJ BK276.out 9
              have hfz39_10 := YJ BK276.out 10
              have hfz39_11 := YJ BK276.out 11
              go_wp2_with (first | ((with_reducible refine gate_dst (N := 66) rfl ?_); refine Kd.R_lit (Kd.int .u8) _ 5 ?hg (N := 66) ?hd (xs := ([(wrap64 (Int.tdiv a0_11 256)) % 256, (Int.tmod a0_11 256) % 256] : List Int)) (inner := [.int .u8 ((wrap64 (Int.tdiv a0_11 256)) % 256), .int .u8 ((Int.tmod a0_11 256) % 256)]) (ok := fun _ => True) (okp := fun _ => True) ?hr ?hp (fun _ hk => hk) trivial (Below.refl _ _) (Nat.le_refl _) (by simp) ?_; (case hd => rfl); (case hg => rfl); (case hr => first | (go_simp; done) | (go_simp; rfl)); (case hp => exact (Reps.one (show Kd.M (Kd.int .u8) _ _ _ ((wrap64 (Int.tdiv a0_11 256)) % 256) [.int .u8 ((wrap64 (Int.tdiv a0_11 256)) % 256)] from rfl) (Reps.one (show Kd.M (Kd.int .u8) _ _ _ ((Int.tmod a0_11 256) % 256) [.int .u8 ((Int.tmod a0_11 256) % 256)] from rfl) (Reps.none _ _)))); intro v301 w40 ho41 hb hg_ hnew_; clear hg_ hnew_; (first | rw [← Ny300.out] at ho41 | (simp only [Int.reduceToNat] at ho41; rw [← Ny300.out] at ho41)); have n0_ := YL (Kd.R_elder' (by (with_reducible repeat (first | apply YP | apply YQ | apply YR)); exact HO_4.out) (Kd.R_base ho41) hb); have n1_ := YL (Kd.R_lower (Kd.R_new' ho41 (Kd.R_lt (by (with_reducible repeat (first | apply YP | apply YQ | apply YR)); exact HO_4.out))) (YE (by repeat (first | (with_reducible first | exact HB.out | apply YA | apply YB | apply YC | refine below_set ?_ GE276.out) | exact HB.out)))); have n2_ := YL (YK (g := gb276) (o := .cells #[.int .i64 a0_0, .int .i64 a0_1, .bool a0_2, .int .i64 a0_3, .int .i64 a0_4, .int .i64 a0_5, .int .i64 a0_6, .int .i64 a0_7, .int .i64 a0_8, .int .i64 a0_9, .int .i64 a0_10, .int .i64 a0_11] 45 (0, 0)) (by (with_reducible repeat (first | refine YF ?_ _ | refine YG ?_ | refine YH ?_ _)); exact BK276.out) hb); have n3_ := YL (YD (by repeat (first | (with_reducible first | exact HB.out | apply YA | apply YB | apply YC | refine below_set ?_ GE276.out) | exact HB.out)) hb); clear HO_4; clear BK276; clear HB; have HO_4 := n0_; have HO302 := n1_; have BK276 := n2_; have HB := n3_; clear n0_ n1_ n2_ n3_; clear hb ho41; obtain ⟨Ao43, co43, eo43⟩ := Kd.R_slice HO302.out; subst eo43) | ((with_reducible refine gate_builtin (b := .append) (xs := #[.tmp 57, .tmp 66]) rfl ?_); at_builtin; refine Kd.R_append_rows (Kd.int .u8) (w0 := w) w.heap.size rfl (.tmp 57) (.tmp 66) 26 5 (.int .u8 0) 1 rfl Try.underlying26 info5 rfl (by decide) (by omega) u4 x4_13 y300 _ _ _ (fun k_ => some k_ ≠ (.slice Ao43 y300.length co43 : Value).ownBlock) (fun _ => False) rfl rfl ?aO ?aR (fun _ _ h => h) (fun _ h => h.elim) ?aF ?aB ?aS ?aL ?_; (case aR => repeat (first | exact (Kd.R_reads' HO302.out).2.2 | (with_reducible refine Kd.C_alloc ?_ _) | (with_reducible refine Kd.C_drewN ?_ _) | (with_reducible refine Kd.C_drew ?_))); (case aB => exact (by repeat (first | (with_reducible first | exact HB.out | apply YA | apply YB | apply YC | refine below_set ?_ GE276.out) | exact HB.out))); (case aF => exact (fun k_ hk => Kd.fresh' (Kd.R_lt (by (with_reducible repeat (first | apply YP | apply YQ | apply YR)); exact HO302.out)) k_ hk)); (case aO => exact (by (with_reducible repeat (first | apply YP | apply YQ | apply YR)); exact Kd.R_mono HO_4.out (fun _ hk => by first | exact hk.2 | exact trivial | (simp [hk]; done) | simp_all))); (case aS => exact (YE (by repeat (first | (with_reducible first | exact HB.out | apply YA | apply YB | apply YC | refine below_set ?_ GE276.out) | exact HB.out)))); (case aL => have := LMc38.out; omega); intro v304 w42 ho hb hg hat; rw [← Ny303.out] at ho; have n0_ := YL (blk_grown (g := gb276) (o := .cells #[.int .i64 a0_0, .int .i64 a0_1, .bool a0_2, .int .i64 a0_3, .int .i64 a0_4, .int .i64 a0_5, .int .i64 a0_6, .int .i64 a0_7, .int .i64 a0_8, .int .i64 a0_9, .int .i64 a0_10, .int .i64 a0_11] 45 (0, 0)) (by (with_reducible repeat (first | refine YF ?_ _ | refine YG ?_ | refine YH ?_ _)); exact BK276.out) hg (Kd.R_ne HO_4.out BK276.out (by decide))); have n1_ := YL (Kd.R_after (ok := (fun _ => True)) (by (with_reducible repeat (first | apply YP | apply YQ | apply YR)); exact HO302.out) hg hat); have n2_ := YL (hb); have n3_ := YL (ho); clear BK276; clear HO302; clear HB; clear HO_4; have BK276 := n0_; have HO302 := n1_; have HB := n2_; have HO305 := n3_; clear n0_ n1_ n2_ n3_; clear ho hb hg hat))
              go_ret2
              exact ⟨_, by first | rfl | (simp [errW_none, errW_some] <;> rfl) | (simp [*, errW_none, errW_some] <;> rfl), by (with_reducible repeat (first | apply YP | apply YQ | apply YR)); exact Kd.R_mono HO305.out (fun _ hk => trivial), by repeat (first | (with_reducible first | exact HB.out | apply YA | apply YB | apply YC | refine below_set ?_ GE276.out) | exact HB.out)⟩
            rw [if_neg c37] at H
            have c37b0 : (a0_0 == 4) = false := beq_eq_false_iff_ne.mpr c37
            have c37b1 : (a0_0 != 4) = true := bne_iff_ne.mpr c37
            simp only [Option.some.injEq, Prod.mk.injEq] at H
            obtain ⟨rfl, rfl⟩ := H
            have hcz44_0 : wc.cell? ⟨gb276, 0, none⟩ = some (.int .i64 a0_0) := (YI BK276.out 0).trans rfl
            have hcz44_1 : wc.cell? ⟨gb276, 1, none⟩ = some (.int .i64 a0_1) := (YI BK276.out 1).trans rfl
            have hcz44_2 : wc.cell? ⟨gb276, 2, none⟩ = some (.bool a0_2) := (YI BK276.out 2).trans rfl
            have hcz44_3 : wc.cell? ⟨gb276, 3, none⟩ = some (.int .i64 a0_3) := (YI BK276.out 3).trans rfl
            have hcz44_4 : wc.cell? ⟨gb276, 4, none⟩ = some (.int .i64 a0_4) := (YI BK276.out 4).trans rfl
            have hcz44_5 : wc.cell? ⟨gb276, 5, none⟩ = some (.int .i64 a0_5) := (YI BK276.out 5).trans rfl
            have hcz44_6 : wc.cell? ⟨gb276, 6, none⟩ = some (.int .i64 a0_6) := (YI BK276.out 6).trans rfl
            have hcz44_7 : wc.cell? ⟨gb276, 7, none⟩ = some (.int .i64 a0_7) := (YI BK276.out 7).trans rfl
            have hcz44_8 : wc.cell? ⟨gb276, 8, none⟩ = some (.int .i64 a0_8) := (YI BK276.out 8).trans rfl
            have hcz44_9 : wc.cell? ⟨gb276, 9, none⟩ = some (.int .i64 a0_9) := (YI BK276.out 9).trans rfl
            have hcz44_10 : wc.cell? ⟨gb276, 10, none⟩ = some (.int .i64 a0_10) := (YI BK276.out 10).trans rfl
            have hcz44_11 : wc.cell? ⟨gb276, 11, none⟩ = some (.int .i64 a0_11) := (YI BK276.out 11).trans rfl
            have hfz44_0 := YJ BK276.out 0
            have hfz44_1 := YJ BK276.out 1
            have hfz44_2 := YJ BK276.out 2
            have hfz44_3 := YJ BK276.out 3
            have hfz44_4 := YJ BK276.out 4
            have hfz44_5 := YJ BK276.out 5
            have hfz44_6 := YJ BK276.out 6
            have hfz44_7 := YJ BK276.out 7
            have hfz44_8 := YJ BK276.out 8
            have hfz44_9 := YJ BK276.out 9
            have hfz44_10 := YJ BK276.out 10
            have hfz44_11 := YJ BK276.out 11
            go_wp2
            go_ret2
            exact ⟨_, by first | rfl | (simp [errW_none, errW_some] <;> rfl) | (simp [*, errW_none, errW_some] <;> rfl), by (with_reducible repeat (first | apply YP | apply YQ | apply YR)); exact HO_4.out, by repeat (first | (with_reducible first | exact HB.out | apply YA | apply YB | apply YC | refine below_set ?_ GE276.out) | exact HB.out)⟩
  replace c3 := Bool.eq_false_iff.mpr c3
  subst c3
  have H1 : (some (([] : List Int), 1)) = some (r1, r2) := by rw [if_neg (show ¬ (false = true) by decide)] at H; exact H
  clear H
  have H := H1
  clear H1
  simp only [Option.some.injEq, Prod.mk.injEq] at H
  obtain ⟨rfl, rfl⟩ := H
  go_enter Try.func24, Try.ntmps24
  go_wp2_with (first | ((with_reducible refine gate_dst (N := 1) rfl ?_); refine box_event ?hg (N := 1) ?hd (cs := #[.int .i64 a0_0, .int .i64 a0_1, .bool a0_2, .int .i64 a0_3, .int .i64 a0_4, .int .i64 a0_5, .int .i64 a0_6, .int .i64 a0_7, .int .i64 a0_8, .int .i64 a0_9, .int .i64 a0_10, .int .i64 a0_11]) (t := 45) ?hr ?_; (case hd => rfl); (case hg => rfl); (case hr => first | (go_simp; done) | (go_simp; rfl)); intro gb276 hg w45 hbox hb; have n0_ := YL (YD (by repeat (first | (with_reducible first | exact HB.out | apply YA | apply YB | apply YC) | exact HB.out)) hb); have n1_ := YL (hbox); have n2_ := YL ((by rw [hg]; exact (YE (by repeat (first | (with_reducible first | exact HB.out | apply YA | apply YB | apply YC) | exact HB.out))) : w.heap.size ≤ gb276)); have n3_ := YL ((by rw [hg]; exact (YE (by repeat (first | (with_reducible first | exact HB.out | apply YA | apply YB | apply YC) | exact HB.out))) : w.heap.size ≤ gb276)); clear HB; have HB := n0_; have BK276 := n1_; have GW276 := n2_; have GE276 := n3_; clear n0_ n1_ n2_ n3_; clear hb hbox hg; have hcz46_0 : w45.cell? ⟨gb276, 0, none⟩ = some (.int .i64 a0_0) := (YI BK276.out 0).trans rfl; have hcz46_1 : w45.cell? ⟨gb276, 1, none⟩ = some (.int .i64 a0_1) := (YI BK276.out 1).trans rfl; have hcz46_2 : w45.cell? ⟨gb276, 2, none⟩ = some (.bool a0_2) := (YI BK276.out 2).trans rfl; have hcz46_3 : w45.cell? ⟨gb276, 3, none⟩ = some (.int .i64 a0_3) := (YI BK276.out 3).trans rfl; have hcz46_4 : w45.cell? ⟨gb276, 4, none⟩ = some (.int .i64 a0_4) := (YI BK276.out 4).trans rfl; have hcz46_5 : w45.cell? ⟨gb276, 5, none⟩ = some (.int .i64 a0_5) := (YI BK276.out 5).trans rfl; have hcz46_6 : w45.cell? ⟨gb276, 6, none⟩ = some (.int .i64 a0_6) := (YI BK276.out 6).trans rfl; have hcz46_7 : w45.cell? ⟨gb276, 7, none⟩ = some (.int .i64 a0_7) := (YI BK276.out 7).trans rfl; have hcz46_8 : w45.cell? ⟨gb276, 8, none⟩ = some (.int .i64 a0_8) := (YI BK276.out 8).trans rfl; have hcz46_9 : w45.cell? ⟨gb276, 9, none⟩ = some (.int .i64 a0_9) := (YI BK276.out 9).trans rfl; have hcz46_10 : w45.cell? ⟨gb276, 10, none⟩ = some (.int .i64 a0_10) := (YI BK276.out 10).trans rfl; have hcz46_11 : w45.cell? ⟨gb276, 11, none⟩ = some (.int .i64 a0_11) := (YI BK276.out 11).trans rfl; have hfz46_0 := YJ BK276.out 0; have hfz46_1 := YJ BK276.out 1; have hfz46_2 := YJ BK276.out 2; have hfz46_3 := YJ BK276.out 3; have hfz46_4 := YJ BK276.out 4; have hfz46_5 := YJ BK276.out 5; have hfz46_6 := YJ BK276.out 6; have hfz46_7 := YJ BK276.out 7; have hfz46_8 := YJ BK276.out 8; have hfz46_9 := YJ BK276.out 9; have hfz46_10 := YJ BK276.out 10; have hfz46_11 := YJ BK276.out 11) | ((with_reducible refine gate_callee (f := 37) rfl ?_); refine goesL_ (some 8) rfl rfl Try.func37 (by kernel_rfl) rfl #[.agg #[.int .i64 a0_0, .int .i64 a0_1, .bool a0_2, .int .i64 a0_3, .int .i64 a0_4, .int .i64 a0_5, .int .i64 a0_6, .int .i64 a0_7, .int .i64 a0_8, .int .i64 a0_9, .int .i64 a0_10, .int .i64 a0_11]] rfl (by (try simp only [YM, List.map_cons, List.map_nil]); first | done | rfl | (simp only [YO, YN]; rfl)) ?_; (with_reducible refine (thalwegref04_Right.calls k a0_0 a0_1 a0_2 a0_3 a0_4 a0_5 a0_6 a0_7 a0_8 a0_9 a0_10 a0_11 false _ A2.out).mono ?_); rintro e w47 ⟨rfl, hb⟩; refine ⟨_, rfl, ?_⟩; have n0_ := YL (YK (g := gb276) (o := .cells #[.int .i64 a0_0, .int .i64 a0_1, .bool a0_2, .int .i64 a0_3, .int .i64 a0_4, .int .i64 a0_5, .int .i64 a0_6, .int .i64 a0_7, .int .i64 a0_8, .int .i64 a0_9, .int .i64 a0_10, .int .i64 a0_11] 45 (0, 0)) (by (with_reducible repeat (first | refine YF ?_ _ | refine YG ?_ | refine YH ?_ _)); exact BK276.out) hb); have n1_ := YL (YD (by repeat (first | (with_reducible first | exact HB.out | apply YA | apply YB | apply YC | refine below_set ?_ GE276.out) | exact HB.out)) hb); clear BK276; clear HB; have BK276 := n0_; have HB := n1_; clear n0_ n1_; (try clear hb); (try clear hb2); (try clear hk); (try clear hi)))
  go_ret2
  exact ⟨_, by first | rfl | (simp [errW_none, errW_some] <;> rfl) | (simp [*, errW_none, errW_some] <;> rfl), by first | exact Kd.R_nil _ _ _ _ _ | exact Kd.N_nil _ _ _ _ _ | exact Kd.V_nil _ _ _ _ _ | exact Kd.Q_nil _ _ _ _ _ | exact Kd.S_nil _ _ _ _ _, by repeat (first | (with_reducible first | exact HB.out | apply YA | apply YB | apply YC | refine below_set ?_ GE276.out) | exact HB.out)⟩
end Go.Proofs.Ytfigbjjaffkidaa.P
namespace Go.Proofs.Ytfigbjjaffkidaa.P
open Go.RowKit Go.Proofs.YtfigbjjaffkidaaW.PrintWords Go.Proofs.YtfigbjjaffkidaaW.PrintLast Go.Proofs.YtfigbjjaffkidaaW.PrintMore
open Go.Proofs.YtfigbjjaffkidaaW.PrintWords renaming below_alloc → YA, pw_below_drewN → YB, below_drew1 → YC, below_step → YD, below_size → YE, blk_cell → YF, blk_frozen → YG
open Go.Proofs.YtfigbjjaffkidaaW.PrintWords.Aside0 renaming mk → YH
open List renaming map_toArray → YI, length_take → YJ, length_drop → YK
attribute [local go_sem] max2_int min2_int max_two min_two max_three min_three max_four min_four   -- for this text's walks alone
def thalwegref05_size.l0 : Nat → List (S45) → Int → Int → Option (Int)
  | 0, _, _, _ => none
  | k + 1, x0, x3, x4 => if x4 < (x0.length : Int) then (if 0 ≤ x4 then ((thalwegref04_Bytes.f k ((rd_T45 x0 x4).f0) ((rd_T45 x0 x4).f1) ((rd_T45 x0 x4).f2.f0) ((rd_T45 x0 x4).f2.f1) ((rd_T45 x0 x4).f2.f2) ((rd_T45 x0 x4).f2.f3) ((rd_T45 x0 x4).f2.f4) ((rd_T45 x0 x4).f2.f5) ((rd_T45 x0 x4).f3.f0) ((rd_T45 x0 x4).f3.f1) ((rd_T45 x0 x4).f3.f2) ((rd_T45 x0 x4).f4)).bind fun bt307 => (if bt307.2 = 0 then (thalwegref05_size.l0 k x0 (wrap64 (x3 + (bt307.1.length : Int))) (wrap64 (x4 + 1))) else (some (-1)))) else (none)) else (some x3)
def thalwegref05_size.f (k : Nat) (l0 : List (S45)) : Option (Int) := thalwegref05_size.l0 k l0 3 0
theorem thalwegref05_size.mono_l : ∀ k, (∀ y0 y1 y2, LeO (thalwegref05_size.l0 k y0 y1 y2) (thalwegref05_size.l0 (k + 1) y0 y1 y2))
  | 0 => fun _ _ _ r h => by simp [thalwegref05_size.l0] at h
  | k + 1 => by
    have ih0 := thalwegref05_size.mono_l k
    · intro y0 y1 y2
      unfold thalwegref05_size.l0
      repeat' first
      | (with_reducible exact ih0 _ _ _)
      | (with_reducible exact thalwegref04_Bytes.mono _ _ _ _ _ _ _ _ _ _ _ _ _)
      | (with_reducible exact LeO.refl _)
      | (with_reducible exact LeO.none _)
      | (with_reducible refine LeO.ite ?_ ?_)
      | (with_reducible refine LeO.bind ?_ (fun _ => ?_))
      | exact ih0 _ _ _
      | exact thalwegref04_Bytes.mono _ _ _ _ _ _ _ _ _ _ _ _ _
      | exact LeO.none _
      | refine LeO.ite ?_ ?_
      | refine LeO.bind ?_ (fun _ => ?_)
theorem thalwegref05_size.mono : ∀ a0 k, LeO (thalwegref05_size.f k a0) (thalwegref05_size.f (k + 1) a0) := by
  intro a0 k
  have ih0 := thalwegref05_size.mono_l k
  unfold thalwegref05_size.f
  repeat' first
      | (with_reducible exact ih0 _ _ _)
      | (with_reducible exact thalwegref04_Bytes.mono _ _ _ _ _ _ _ _ _ _ _ _ _)
      | (with_reducible exact LeO.refl _)
      | (with_reducible exact LeO.none _)
      | (with_reducible refine LeO.ite ?_ ?_)
      | (with_reducible refine LeO.bind ?_ (fun _ => ?_))
      | exact ih0 _ _ _
      | exact thalwegref04_Bytes.mono _ _ _ _ _ _ _ _ _ _ _ _ _
      | exact LeO.none _
      | refine LeO.ite ?_ ?_
      | refine LeO.bind ?_ (fun _ => ?_)
set_option maxHeartbeats 8000000 in
set_option maxRecDepth 100000 in
theorem thalwegref05_size.calls (k : Nat) (A0 : Option Addr) (c0 : Nat) (l0 : List (S45)) (r : Int) (w : World) (hr0 : Kd.C k45 w A0 l0.length l0) (hc0 : l0.length ≤ c0) (h : thalwegref05_size.f k l0 = some r) :
    Calls Try.prog 28 #[.slice A0 l0.length c0] w fun e w' => e = .returned (.int .i64 r) ∧ Below w.heap.size w w' := by
  have hu45 := Try.underlying45
  have HR0 := YH hr0; have HC0 := YH hc0; clear hr0 hc0
  have HB := YH (Below.refl w.heap.size w)
  have H : (thalwegref05_size.l0 k l0 3 0) = some r := h
  clear h
  have H' := YH H
  clear H
  go_enter Try.func28, Try.ntmps28
  go_wp2
  go_loopg [3, 4] k (fun kq v3 v4 w' => ∃ (x3_1 : Int) (x4_1 : Int), v3 = .int .i64 x3_1 ∧ v4 = .int .i64 x4_1 ∧ Aside0 (thalwegref05_size.l0 kq l0 x3_1 x4_1 = some r) ∧ Aside0 (kq ≤ k) ∧ Aside0 (Below w.heap.size w w'))
  case atStart => exact ⟨(3), (0), (by first | rfl | (simp; done) | (simp [*]; done)), (by first | rfl | (simp; done) | (simp [*]; done)), H', ⟨Nat.le_refl _⟩, ⟨by repeat (first | (with_reducible first | exact HB.out | apply YA | apply YB | apply YC) | exact HB.out)⟩⟩
  case round =>
    clear H'
    obtain ⟨x3_1, x4_1, rfl, rfl, HA, HK1, HB⟩ := hrel
    cases gk with
    | zero => exact absurd HA.out (by simp [thalwegref05_size.l0])
    | succ k1 =>
      have H := HA.out
      clear HA
      simp only [thalwegref05_size.l0] at H
      by_cases c2 : x4_1 < (l0.length : Int)
      · rw [if_pos c2] at H
        have c2b0 : decide (x4_1 < (l0.length : Int)) = true := decide_eq_true c2
        clear c2
        by_cases c3 : 0 ≤ x4_1
        rotate_left
        · rw [if_neg c3] at H
          exact absurd H (by simp)
        rw [if_pos c3] at H; have c3b0 : decide (0 ≤ x4_1) = true := decide_eq_true c3; clear c3; replace H := Option.bind_eq_some_iff.mp H
        obtain ⟨⟨t307, t310⟩, A40, H⟩ := H
        replace H : (if t310 = 0 then (thalwegref05_size.l0 k1 l0 (wrap64 (x3_1 + (t307.length : Int))) (wrap64 (x4_1 + 1))) else (some (-1))) = some r := H
        have A4 := YH A40; clear A40
        by_cases c5 : t310 = 0
        · rw [if_pos c5] at H
          have c5b0 : (t310 == 0) = true := beq_iff_eq.mpr c5
          have c5b1 : (t310 != 0) = false := bne_eq_false_iff_eq.mpr c5
          clear c5
          have H' := YH H
          clear H
          have p306 : 0 ≤ (x4_1 : Int) := of_decide_eq_true (by first | (with_reducible assumption) | assumption)
          have q306 : x4_1 < (l0.length : Int) := of_decide_eq_true (by first | (with_reducible assumption) | assumption)
          obtain ⟨ad306, e306, hx306_0, hx306_1, hx306_2, hx306_3, hx306_4, hx306_5, hx306_6, hx306_7, hx306_8, hx306_9, hx306_10, hx306_11⟩ := at_T45 HR0.out x4_1 p306 q306
          cases e306
          replace hx306_0 := (HB.out.cell (World.block_lt_of_cell? w _ hx306_0)).trans hx306_0
          replace hx306_1 := (HB.out.cell (World.block_lt_of_cell? w _ hx306_1)).trans hx306_1
          replace hx306_2 := (HB.out.cell (World.block_lt_of_cell? w _ hx306_2)).trans hx306_2
          replace hx306_3 := (HB.out.cell (World.block_lt_of_cell? w _ hx306_3)).trans hx306_3
          replace hx306_4 := (HB.out.cell (World.block_lt_of_cell? w _ hx306_4)).trans hx306_4
          replace hx306_5 := (HB.out.cell (World.block_lt_of_cell? w _ hx306_5)).trans hx306_5
          replace hx306_6 := (HB.out.cell (World.block_lt_of_cell? w _ hx306_6)).trans hx306_6
          replace hx306_7 := (HB.out.cell (World.block_lt_of_cell? w _ hx306_7)).trans hx306_7
          replace hx306_8 := (HB.out.cell (World.block_lt_of_cell? w _ hx306_8)).trans hx306_8
          replace hx306_9 := (HB.out.cell (World.block_lt_of_cell? w _ hx306_9)).trans hx306_9
          replace hx306_10 := (HB.out.cell (World.block_lt_of_cell? w _ hx306_10)).trans hx306_10
          replace hx306_11 := (HB.out.cell (World.block_lt_of_cell? w _ hx306_11)).trans hx306_11
          replace p306 := eq_true p306
          replace q306 := eq_true q306
          go_wp2_with (first | ((with_reducible refine gate_callee (f := 24) rfl ?_); refine goesL_ (some 18) rfl rfl Try.func24 (by kernel_rfl) rfl #[.agg #[.int .i64 ((rd_T45 l0 x4_1).f0), .int .i64 ((rd_T45 l0 x4_1).f1), .bool ((rd_T45 l0 x4_1).f2.f0), .int .i64 ((rd_T45 l0 x4_1).f2.f1), .int .i64 ((rd_T45 l0 x4_1).f2.f2), .int .i64 ((rd_T45 l0 x4_1).f2.f3), .int .i64 ((rd_T45 l0 x4_1).f2.f4), .int .i64 ((rd_T45 l0 x4_1).f2.f5), .int .i64 ((rd_T45 l0 x4_1).f3.f0), .int .i64 ((rd_T45 l0 x4_1).f3.f1), .int .i64 ((rd_T45 l0 x4_1).f3.f2), .int .i64 ((rd_T45 l0 x4_1).f4)]] rfl (by (try simp only [YI, List.map_cons, List.map_nil]); first | done | rfl | (simp only [YK, YJ]; rfl)) ?_; (with_reducible refine (thalwegref04_Bytes.calls k1 ((rd_T45 l0 x4_1).f0) ((rd_T45 l0 x4_1).f1) ((rd_T45 l0 x4_1).f2.f0) ((rd_T45 l0 x4_1).f2.f1) ((rd_T45 l0 x4_1).f2.f2) ((rd_T45 l0 x4_1).f2.f3) ((rd_T45 l0 x4_1).f2.f4) ((rd_T45 l0 x4_1).f2.f5) ((rd_T45 l0 x4_1).f3.f0) ((rd_T45 l0 x4_1).f3.f1) ((rd_T45 l0 x4_1).f3.f2) ((rd_T45 l0 x4_1).f4) t307 t310 _ A4.out).mono ?_); rintro e w6 ⟨v308, rfl, ho0, hb⟩; refine ⟨_, rfl, ?_⟩; have n0_ := YH (Kd.R_lower ho0 (YE (by repeat (first | (with_reducible first | exact HB.out | apply YA | apply YB | apply YC) | exact HB.out)))); have n1_ := YH (YD (by repeat (first | (with_reducible first | exact HB.out | apply YA | apply YB | apply YC) | exact HB.out)) hb); clear HB; have HO309 := n0_; have HB := n1_; clear n0_ n1_; (try clear hb); (try clear hb2); (try clear hk); (try clear hi); (try clear ho0); obtain ⟨Ao7, co7, eo7⟩ := Kd.R_slice HO309.out; subst eo7))
          go_roundg k1
          case measure => have := HK1.out; omega
          case rel => exact ⟨(wrap64 (x3_1 + (t307.length : Int))), (wrap64 (x4_1 + 1)), (by first | rfl | (simp; done) | (simp [*]; done)), (by first | rfl | (simp; done) | (simp [*]; done)), H', ⟨by have := HK1.out; omega⟩, ⟨by repeat (first | (with_reducible first | exact HB.out | apply YA | apply YB | apply YC) | exact HB.out)⟩⟩
        rw [if_neg c5] at H
        have c5b0 : (t310 == 0) = false := beq_eq_false_iff_ne.mpr c5
        have c5b1 : (t310 != 0) = true := bne_iff_ne.mpr c5
        obtain rfl := Option.some.inj H
        have p306 : 0 ≤ (x4_1 : Int) := of_decide_eq_true (by first | (with_reducible assumption) | assumption)
        have q306 : x4_1 < (l0.length : Int) := of_decide_eq_true (by first | (with_reducible assumption) | assumption)
        obtain ⟨ad306, e306, hx306_0, hx306_1, hx306_2, hx306_3, hx306_4, hx306_5, hx306_6, hx306_7, hx306_8, hx306_9, hx306_10, hx306_11⟩ := at_T45 HR0.out x4_1 p306 q306
        cases e306
        replace hx306_0 := (HB.out.cell (World.block_lt_of_cell? w _ hx306_0)).trans hx306_0
        replace hx306_1 := (HB.out.cell (World.block_lt_of_cell? w _ hx306_1)).trans hx306_1
        replace hx306_2 := (HB.out.cell (World.block_lt_of_cell? w _ hx306_2)).trans hx306_2
        replace hx306_3 := (HB.out.cell (World.block_lt_of_cell? w _ hx306_3)).trans hx306_3
        replace hx306_4 := (HB.out.cell (World.block_lt_of_cell? w _ hx306_4)).trans hx306_4
        replace hx306_5 := (HB.out.cell (World.block_lt_of_cell? w _ hx306_5)).trans hx306_5
        replace hx306_6 := (HB.out.cell (World.block_lt_of_cell? w _ hx306_6)).trans hx306_6
        replace hx306_7 := (HB.out.cell (World.block_lt_of_cell? w _ hx306_7)).trans hx306_7
        replace hx306_8 := (HB.out.cell (World.block_lt_of_cell? w _ hx306_8)).trans hx306_8
        replace hx306_9 := (HB.out.cell (World.block_lt_of_cell? w _ hx306_9)).trans hx306_9
        replace hx306_10 := (HB.out.cell (World.block_lt_of_cell? w _ hx306_10)).trans hx306_10
        replace hx306_11 := (HB.out.cell (World.block_lt_of_cell? w _ hx306_11)).trans hx306_11
        replace p306 := eq_true p306
        replace q306 := eq_true q306
        go_wp2_with (first | ((with_reducible refine gate_callee (f := 24) rfl ?_); refine goesL_ (some 18) rfl rfl Try.func24 (by kernel_rfl) rfl #[.agg #[.int .i64 ((rd_T45 l0 x4_1).f0), .int .i64 ((rd_T45 l0 x4_1).f1), .bool ((rd_T45 l0 x4_1).f2.f0), .int .i64 ((rd_T45 l0 x4_1).f2.f1), .int .i64 ((rd_T45 l0 x4_1).f2.f2), .int .i64 ((rd_T45 l0 x4_1).f2.f3), .int .i64 ((rd_T45 l0 x4_1).f2.f4), .int .i64 ((rd_T45 l0 x4_1).f2.f5), .int .i64 ((rd_T45 l0 x4_1).f3.f0), .int .i64 ((rd_T45 l0 x4_1).f3.f1), .int .i64 ((rd_T45 l0 x4_1).f3.f2), .int .i64 ((rd_T45 l0 x4_1).f4)]] rfl (by (try simp only [YI, List.map_cons, List.map_nil]); first | done | rfl | (simp only [YK, YJ]; rfl)) ?_; (with_reducible refine (thalwegref04_Bytes.calls k1 ((rd_T45 l0 x4_1).f0) ((rd_T45 l0 x4_1).f1) ((rd_T45 l0 x4_1).f2.f0) ((rd_T45 l0 x4_1).f2.f1) ((rd_T45 l0 x4_1).f2.f2) ((rd_T45 l0 x4_1).f2.f3) ((rd_T45 l0 x4_1).f2.f4) ((rd_T45 l0 x4_1).f2.f5) ((rd_T45 l0 x4_1).f3.f0) ((rd_T45 l0 x4_1).f3.f1) ((rd_T45 l0 x4_1).f3.f2) ((rd_T45 l0 x4_1).f4) t307 t310 _ A4.out).mono ?_); rintro e w8 ⟨v308, rfl, ho0, hb⟩; refine ⟨_, rfl, ?_⟩; have n0_ := YH (Kd.R_lower ho0 (YE (by repeat (first | (with_reducible first | exact HB.out | apply YA | apply YB | apply YC) | exact HB.out)))); have n1_ := YH (YD (by repeat (first | (with_reducible first | exact HB.out | apply YA | apply YB | apply YC) | exact HB.out)) hb); clear HB; have HO309 := n0_; have HB := n1_; clear n0_ n1_; (try clear hb); (try clear hb2); (try clear hk); (try clear hi); (try clear ho0)))
        go_ret
        exact ⟨by first | rfl | (simp [errW_none, errW_some] <;> rfl) | (simp [*, errW_none, errW_some] <;> rfl), by repeat (first | (with_reducible first | exact HB.out | apply YA | apply YB | apply YC) | exact HB.out)⟩
      rw [if_neg c2] at H
      have c2b0 : decide (x4_1 < (l0.length : Int)) = false := decide_eq_false c2
      clear c2
      obtain rfl := Option.some.inj H
      go_wp2
      go_ret
      exact ⟨by first | rfl | (simp [errW_none, errW_some] <;> rfl) | (simp [*, errW_none, errW_some] <;> rfl), by repeat (first | (with_reducible first | exact HB.out | apply YA | apply YB | apply YC) | exact HB.out)⟩
def thalwegref05_Right.f (k : Nat) (a0_0 : Int) (l0_1 : List (S45)) : Option (Bool) := if a0_0 < 0 then (some false) else (if a0_0 > 65535 then (some false) else (if (l0_1.length : Int) < 1 then (some false) else (if (l0_1.length : Int) > 32 then (some false) else ((thalwegref05_size.f k l0_1).bind fun t312 => (if t312 ≥ 0 then (some (decide (t312 ≤ 512))) else (some false))))))
theorem thalwegref05_Right.mono : ∀ a0 a1 k, LeO (thalwegref05_Right.f k a0 a1) (thalwegref05_Right.f (k + 1) a0 a1) := by
  intro a0 a1 k
  unfold thalwegref05_Right.f
  repeat' first
      | (with_reducible exact thalwegref05_size.mono _ _)
      | (with_reducible exact LeO.refl _)
      | (with_reducible exact LeO.none _)
      | (with_reducible refine LeO.ite ?_ ?_)
      | (with_reducible refine LeO.bind ?_ (fun _ => ?_))
      | exact thalwegref05_size.mono _ _
      | exact LeO.none _
      | refine LeO.ite ?_ ?_
      | refine LeO.bind ?_ (fun _ => ?_)
set_option maxHeartbeats 8000000 in
set_option maxRecDepth 100000 in
theorem thalwegref05_Right.calls (k : Nat) (a0_0 : Int) (A0_1 : Option Addr) (c0_1 : Nat) (l0_1 : List (S45)) (r : Bool) (w : World) (hr0_1 : Kd.C k45 w A0_1 l0_1.length l0_1) (hc0_1 : l0_1.length ≤ c0_1) (h : thalwegref05_Right.f k a0_0 l0_1 = some r) :
    Calls Try.prog 13 #[.agg #[.int .i64 a0_0, .slice A0_1 l0_1.length c0_1]] w fun e w' => e = .returned (.bool r) ∧ Below w.heap.size w w' := by
  have hu24 := Try.underlying24
  have HR0_1 := YH hr0_1; have HC0_1 := YH hc0_1; clear hr0_1 hc0_1
  have HB := YH (Below.refl w.heap.size w)
  have H : (if a0_0 < 0 then (some false) else (if a0_0 > 65535 then (some false) else (if (l0_1.length : Int) < 1 then (some false) else (if (l0_1.length : Int) > 32 then (some false) else ((thalwegref05_size.f k l0_1).bind fun t312 => (if t312 ≥ 0 then (some (decide (t312 ≤ 512))) else (some false))))))) = some r := h
  clear h
  by_cases c2 : a0_0 < 0
  · rw [if_pos c2] at H
    have c2b0 : decide (a0_0 < 0) = true := decide_eq_true c2; clear c2
    obtain rfl := Option.some.inj H
    go_enter Try.func13, Try.ntmps13
    go_wp2_with (first | ((with_reducible refine gate_dst (N := 1) rfl ?_); (try (refine gate_guard (by rfl) ?_; dsimp only)); refine box_event ?hg (N := 1) ?hd (cs := #[.int .i64 a0_0, .slice A0_1 l0_1.length c0_1]) (t := 24) ?hr ?_; (case hd => rfl); (case hg => rfl); (case hr => first | (go_simp; done) | (go_simp; rfl)); intro gb311 hg w3 hbox hb; have n0_ := YH (YD (by repeat (first | (with_reducible first | exact HB.out | apply YA | apply YB | apply YC) | exact HB.out)) hb); have n1_ := YH (hbox); have n2_ := YH ((by rw [hg]; exact (YE (by repeat (first | (with_reducible first | exact HB.out | apply YA | apply YB | apply YC) | exact HB.out))) : w.heap.size ≤ gb311)); have n3_ := YH ((by rw [hg]; exact (YE (by repeat (first | (with_reducible first | exact HB.out | apply YA | apply YB | apply YC) | exact HB.out))) : w.heap.size ≤ gb311)); clear HB; have HB := n0_; have BK311 := n1_; have GW311 := n2_; have GE311 := n3_; clear n0_ n1_ n2_ n3_; clear hb hbox hg; have hcz4_0 : w3.cell? ⟨gb311, 0, none⟩ = some (.int .i64 a0_0) := (YF BK311.out 0).trans rfl; have hcz4_1 : w3.cell? ⟨gb311, 1, none⟩ = some (.slice A0_1 l0_1.length c0_1) := (YF BK311.out 1).trans rfl; have hfz4_0 := YG BK311.out 0; have hfz4_1 := YG BK311.out 1))
    go_ret
    exact ⟨by first | rfl | (simp [errW_none, errW_some] <;> rfl) | (simp [*, errW_none, errW_some] <;> rfl), by repeat (first | (with_reducible first | exact HB.out | apply YA | apply YB | apply YC | refine below_set ?_ GE311.out) | exact HB.out)⟩
  rw [if_neg c2] at H; have c2b0 : decide (a0_0 < 0) = false := decide_eq_false c2; clear c2
  by_cases c5 : a0_0 > 65535
  · rw [if_pos c5] at H
    have c5b0 : decide (65535 < a0_0) = true := decide_eq_true c5; clear c5
    obtain rfl := Option.some.inj H
    go_enter Try.func13, Try.ntmps13
    go_wp2_with (first | ((with_reducible refine gate_dst (N := 1) rfl ?_); (try (refine gate_guard (by rfl) ?_; dsimp only)); refine box_event ?hg (N := 1) ?hd (cs := #[.int .i64 a0_0, .slice A0_1 l0_1.length c0_1]) (t := 24) ?hr ?_; (case hd => rfl); (case hg => rfl); (case hr => first | (go_simp; done) | (go_simp; rfl)); intro gb311 hg w6 hbox hb; have n0_ := YH (YD (by repeat (first | (with_reducible first | exact HB.out | apply YA | apply YB | apply YC) | exact HB.out)) hb); have n1_ := YH (hbox); have n2_ := YH ((by rw [hg]; exact (YE (by repeat (first | (with_reducible first | exact HB.out | apply YA | apply YB | apply YC) | exact HB.out))) : w.heap.size ≤ gb311)); have n3_ := YH ((by rw [hg]; exact (YE (by repeat (first | (with_reducible first | exact HB.out | apply YA | apply YB | apply YC) | exact HB.out))) : w.heap.size ≤ gb311)); clear HB; have HB := n0_; have BK311 := n1_; have GW311 := n2_; have GE311 := n3_; clear n0_ n1_ n2_ n3_; clear hb hbox hg; have hcz7_0 : w6.cell? ⟨gb311, 0, none⟩ = some (.int .i64 a0_0) := (YF BK311.out 0).trans rfl; have hcz7_1 : w6.cell? ⟨gb311, 1, none⟩ = some (.slice A0_1 l0_1.length c0_1) := (YF BK311.out 1).trans rfl; have hfz7_0 := YG BK311.out 0; have hfz7_1 := YG BK311.out 1))
    go_ret
    exact ⟨by first | rfl | (simp [errW_none, errW_some] <;> rfl) | (simp [*, errW_none, errW_some] <;> rfl), by repeat (first | (with_reducible first | exact HB.out | apply YA | apply YB | apply YC | refine below_set ?_ GE311.out) | exact HB.out)⟩
  rw [if_neg c5] at H; have c5b0 : decide (65535 < a0_0) = false := decide_eq_false c5; clear c5
  by_cases c8 : (l0_1.length : Int) < 1
  · rw [if_pos c8] at H
    have c8b0 : decide ((l0_1.length : Int) < 1) = true := decide_eq_true c8
    have c8b1 : decide (l0_1.length < 1) = true := decide_eq_true (by omega)
    clear c8
    obtain rfl := Option.some.inj H
    go_enter Try.func13, Try.ntmps13
    go_wp2_with (first | ((with_reducible refine gate_dst (N := 1) rfl ?_); (try (refine gate_guard (by rfl) ?_; dsimp only)); refine box_event ?hg (N := 1) ?hd (cs := #[.int .i64 a0_0, .slice A0_1 l0_1.length c0_1]) (t := 24) ?hr ?_; (case hd => rfl); (case hg => rfl); (case hr => first | (go_simp; done) | (go_simp; rfl)); intro gb311 hg w9 hbox hb; have n0_ := YH (YD (by repeat (first | (with_reducible first | exact HB.out | apply YA | apply YB | apply YC) | exact HB.out)) hb); have n1_ := YH (hbox); have n2_ := YH ((by rw [hg]; exact (YE (by repeat (first | (with_reducible first | exact HB.out | apply YA | apply YB | apply YC) | exact HB.out))) : w.heap.size ≤ gb311)); have n3_ := YH ((by rw [hg]; exact (YE (by repeat (first | (with_reducible first | exact HB.out | apply YA | apply YB | apply YC) | exact HB.out))) : w.heap.size ≤ gb311)); clear HB; have HB := n0_; have BK311 := n1_; have GW311 := n2_; have GE311 := n3_; clear n0_ n1_ n2_ n3_; clear hb hbox hg; have hcz10_0 : w9.cell? ⟨gb311, 0, none⟩ = some (.int .i64 a0_0) := (YF BK311.out 0).trans rfl; have hcz10_1 : w9.cell? ⟨gb311, 1, none⟩ = some (.slice A0_1 l0_1.length c0_1) := (YF BK311.out 1).trans rfl; have hfz10_0 := YG BK311.out 0; have hfz10_1 := YG BK311.out 1))
    go_ret
    exact ⟨by first | rfl | (simp [errW_none, errW_some] <;> rfl) | (simp [*, errW_none, errW_some] <;> rfl), by repeat (first | (with_reducible first | exact HB.out | apply YA | apply YB | apply YC | refine below_set ?_ GE311.out) | exact HB.out)⟩
  rw [if_neg c8] at H
  have c8b0 : decide ((l0_1.length : Int) < 1) = false := decide_eq_false c8
  have c8b1 : decide (l0_1.length < 1) = false := decide_eq_false (by omega)
  clear c8
  by_cases c11 : (l0_1.length : Int) > 32
  · rw [if_pos c11] at H
    have c11b0 : decide (32 < (l0_1.length : Int)) = true := decide_eq_true c11
    have c11b1 : decide (32 < l0_1.length) = true := decide_eq_true (by omega)
    clear c11
    obtain rfl := Option.some.inj H
    go_enter Try.func13, Try.ntmps13
    go_wp2_with (first | ((with_reducible refine gate_dst (N := 1) rfl ?_); (try (refine gate_guard (by rfl) ?_; dsimp only)); refine box_event ?hg (N := 1) ?hd (cs := #[.int .i64 a0_0, .slice A0_1 l0_1.length c0_1]) (t := 24) ?hr ?_; (case hd => rfl); (case hg => rfl); (case hr => first | (go_simp; done) | (go_simp; rfl)); intro gb311 hg w12 hbox hb; have n0_ := YH (YD (by repeat (first | (with_reducible first | exact HB.out | apply YA | apply YB | apply YC) | exact HB.out)) hb); have n1_ := YH (hbox); have n2_ := YH ((by rw [hg]; exact (YE (by repeat (first | (with_reducible first | exact HB.out | apply YA | apply YB | apply YC) | exact HB.out))) : w.heap.size ≤ gb311)); have n3_ := YH ((by rw [hg]; exact (YE (by repeat (first | (with_reducible first | exact HB.out | apply YA | apply YB | apply YC) | exact HB.out))) : w.heap.size ≤ gb311)); clear HB; have HB := n0_; have BK311 := n1_; have GW311 := n2_; have GE311 := n3_; clear n0_ n1_ n2_ n3_; clear hb hbox hg; have hcz13_0 : w12.cell? ⟨gb311, 0, none⟩ = some (.int .i64 a0_0) := (YF BK311.out 0).trans rfl; have hcz13_1 : w12.cell? ⟨gb311, 1, none⟩ = some (.slice A0_1 l0_1.length c0_1) := (YF BK311.out 1).trans rfl; have hfz13_0 := YG BK311.out 0; have hfz13_1 := YG BK311.out 1))
    go_ret
    exact ⟨by first | rfl | (simp [errW_none, errW_some] <;> rfl) | (simp [*, errW_none, errW_some] <;> rfl), by repeat (first | (with_reducible first | exact HB.out | apply YA | apply YB | apply YC | refine below_set ?_ GE311.out) | exact HB.out)⟩
  rw [if_neg c11] at H
  have c11b0 : decide (32 < (l0_1.length : Int)) = false := decide_eq_false c11
  have c11b1 : decide (32 < l0_1.length) = false := decide_eq_false (by omega)
  clear c11; replace H := Option.bind_eq_some_iff.mp H; obtain ⟨t312, A140, H⟩ := H
  replace H : (if t312 ≥ 0 then (some (decide (t312 ≤ 512))) else (some false)) = some r := H
  have A14 := YH A140; clear A140
  by_cases c15 : t312 ≥ 0
  · rw [if_pos c15] at H
    have c15b0 : decide (0 ≤ t312) = true := decide_eq_true c15; clear c15
    obtain rfl := Option.some.inj H
    go_enter Try.func13, Try.ntmps13
    go_wp2_with (first | ((with_reducible refine gate_dst (N := 1) rfl ?_); (try (refine gate_guard (by rfl) ?_; dsimp only)); refine box_event ?hg (N := 1) ?hd (cs := #[.int .i64 a0_0, .slice A0_1 l0_1.length c0_1]) (t := 24) ?hr ?_; (case hd => rfl); (case hg => rfl); (case hr => first | (go_simp; done) | (go_simp; rfl)); intro gb311 hg w16 hbox hb; have n0_ := YH (YD (by repeat (first | (with_reducible first | exact HB.out | apply YA | apply YB | apply YC) | exact HB.out)) hb); have n1_ := YH (hbox); have n2_ := YH ((by rw [hg]; exact (YE (by repeat (first | (with_reducible first | exact HB.out | apply YA | apply YB | apply YC) | exact HB.out))) : w.heap.size ≤ gb311)); have n3_ := YH ((by rw [hg]; exact (YE (by repeat (first | (with_reducible first | exact HB.out | apply YA | apply YB | apply YC) | exact HB.out))) : w.heap.size ≤ gb311)); clear HB; have HB := n0_; have BK311 := n1_; have GW311 := n2_; have GE311 := n3_; clear n0_ n1_ n2_ n3_; clear hb hbox hg; have hcz17_0 : w16.cell? ⟨gb311, 0, none⟩ = some (.int .i64 a0_0) := (YF BK311.out 0).trans rfl; have hcz17_1 : w16.cell? ⟨gb311, 1, none⟩ = some (.slice A0_1 l0_1.length c0_1) := (YF BK311.out 1).trans rfl; have hfz17_0 := YG BK311.out 0; have hfz17_1 := YG BK311.out 1) | ((with_reducible refine gate_callee (f := 28) rfl ?_); refine goesL_ (some 26) rfl rfl Try.func28 (by kernel_rfl) rfl #[.slice A0_1 l0_1.length c0_1] rfl (by (try simp only [YI, List.map_cons, List.map_nil]); first | done | rfl | (simp only [YK, YJ]; rfl)) ?_; (with_reducible refine (thalwegref05_size.calls k _ _ l0_1 t312 _ ?side1 ?side2 A14.out).mono ?_); (case side1 => repeat (first | exact (Kd.C_below HR0_1.out HB.out) | (with_reducible refine Kd.C_alloc ?_ _) | (with_reducible refine Kd.C_drewN ?_ _) | (with_reducible refine Kd.C_drew ?_))); (case side2 => exact HC0_1.out); rintro e w18 ⟨rfl, hb⟩; refine ⟨_, rfl, ?_⟩; have n0_ := YH (blk_below (g := gb311) (o := .cells #[.int .i64 a0_0, .slice A0_1 l0_1.length c0_1] 24 (0, 0)) (by (with_reducible repeat (first | refine blk_drewN ?_ _ | refine blk_drew ?_ | refine blk_alloc ?_ _)); exact BK311.out) hb); have n1_ := YH (YD (by repeat (first | (with_reducible first | exact HB.out | apply YA | apply YB | apply YC | refine below_set ?_ GE311.out) | exact HB.out)) hb); clear BK311; clear HB; have BK311 := n0_; have HB := n1_; clear n0_ n1_; (try clear hb); (try clear hb2); (try clear hk); (try clear hi)))
    go_ret
    exact ⟨by first | rfl | (simp [errW_none, errW_some] <;> rfl) | (simp [*, errW_none, errW_some] <;> rfl), by repeat (first | (with_reducible first | exact HB.out | apply YA | apply YB | apply YC | refine below_set ?_ GE311.out) | exact HB.out)⟩
  rw [if_neg c15] at H; have c15b0 : decide (0 ≤ t312) = false := decide_eq_false c15; clear c15
  obtain rfl := Option.some.inj H
  go_enter Try.func13, Try.ntmps13
  go_wp2_with (first | ((with_reducible refine gate_dst (N := 1) rfl ?_); (try (refine gate_guard (by rfl) ?_; dsimp only)); refine box_event ?hg (N := 1) ?hd (cs := #[.int .i64 a0_0, .slice A0_1 l0_1.length c0_1]) (t := 24) ?hr ?_; (case hd => rfl); (case hg => rfl); (case hr => first | (go_simp; done) | (go_simp; rfl)); intro gb311 hg w19 hbox hb; have n0_ := YH (YD (by repeat (first | (with_reducible first | exact HB.out | apply YA | apply YB | apply YC) | exact HB.out)) hb); have n1_ := YH (hbox); have n2_ := YH ((by rw [hg]; exact (YE (by repeat (first | (with_reducible first | exact HB.out | apply YA | apply YB | apply YC) | exact HB.out))) : w.heap.size ≤ gb311)); have n3_ := YH ((by rw [hg]; exact (YE (by repeat (first | (with_reducible first | exact HB.out | apply YA | apply YB | apply YC) | exact HB.out))) : w.heap.size ≤ gb311)); clear HB; have HB := n0_; have BK311 := n1_; have GW311 := n2_; have GE311 := n3_; clear n0_ n1_ n2_ n3_; clear hb hbox hg; have hcz20_0 : w19.cell? ⟨gb311, 0, none⟩ = some (.int .i64 a0_0) := (YF BK311.out 0).trans rfl; have hcz20_1 : w19.cell? ⟨gb311, 1, none⟩ = some (.slice A0_1 l0_1.length c0_1) := (YF BK311.out 1).trans rfl; have hfz20_0 := YG BK311.out 0; have hfz20_1 := YG BK311.out 1) | ((with_reducible refine gate_callee (f := 28) rfl ?_); refine goesL_ (some 26) rfl rfl Try.func28 (by kernel_rfl) rfl #[.slice A0_1 l0_1.length c0_1] rfl (by (try simp only [YI, List.map_cons, List.map_nil]); first | done | rfl | (simp only [YK, YJ]; rfl)) ?_; (with_reducible refine (thalwegref05_size.calls k _ _ l0_1 t312 _ ?side1 ?side2 A14.out).mono ?_); (case side1 => repeat (first | exact (Kd.C_below HR0_1.out HB.out) | (with_reducible refine Kd.C_alloc ?_ _) | (with_reducible refine Kd.C_drewN ?_ _) | (with_reducible refine Kd.C_drew ?_))); (case side2 => exact HC0_1.out); rintro e w21 ⟨rfl, hb⟩; refine ⟨_, rfl, ?_⟩; have n0_ := YH (blk_below (g := gb311) (o := .cells #[.int .i64 a0_0, .slice A0_1 l0_1.length c0_1] 24 (0, 0)) (by (with_reducible repeat (first | refine blk_drewN ?_ _ | refine blk_drew ?_ | refine blk_alloc ?_ _)); exact BK311.out) hb); have n1_ := YH (YD (by repeat (first | (with_reducible first | exact HB.out | apply YA | apply YB | apply YC | refine below_set ?_ GE311.out) | exact HB.out)) hb); clear BK311; clear HB; have BK311 := n0_; have HB := n1_; clear n0_ n1_; (try clear hb); (try clear hb2); (try clear hk); (try clear hi)))
  go_ret
  exact ⟨by first | rfl | (simp [errW_none, errW_some] <;> rfl) | (simp [*, errW_none, errW_some] <;> rfl), by repeat (first | (with_reducible first | exact HB.out | apply YA | apply YB | apply YC | refine below_set ?_ GE311.out) | exact HB.out)⟩
end Go.Proofs.Ytfigbjjaffkidaa.P
namespace Go.Proofs.Ytfigbjjaffkidaa.P
open Go.RowKit Go.Proofs.YtfigbjjaffkidaaW.PrintWords Go.Proofs.YtfigbjjaffkidaaW.PrintLast Go.Proofs.YtfigbjjaffkidaaW.PrintMore
open Go.Proofs.YtfigbjjaffkidaaW.PrintWords renaming below_alloc → YA, pw_below_drewN → YB, below_drew1 → YC, below_step → YD, below_size → YE, blk_drewN → YF, blk_drew → YG, blk_alloc → YH, blk_cell → YI, blk_frozen → YJ, blk_below → YK
open Go.Proofs.YtfigbjjaffkidaaW.PrintWords.Aside0 renaming mk → YL
open List renaming map_toArray → YM, length_take → YN, length_drop → YO
open Go.Proofs.YtfigbjjaffkidaaW.PrintWords.Kd renaming R_alloc → YP, R_drewN → YQ, R_drew → YR
attribute [local go_sem] max2_int min2_int max_two min_two max_three min_three max_four min_four   -- for this text's walks alone
def thalwegref05_Bytes.l0 : Nat → List Int → Int → Int → List (S45) → Option (List Int × Int)
  | 0, _, _, _, _ => none
  | k + 1, x4, x5, x314000, x314001 => if x5 < (x314001.length : Int) then (if 0 ≤ x5 then ((thalwegref04_Bytes.f k ((rd_T45 x314001 x5).f0) ((rd_T45 x314001 x5).f1) ((rd_T45 x314001 x5).f2.f0) ((rd_T45 x314001 x5).f2.f1) ((rd_T45 x314001 x5).f2.f2) ((rd_T45 x314001 x5).f2.f3) ((rd_T45 x314001 x5).f2.f4) ((rd_T45 x314001 x5).f2.f5) ((rd_T45 x314001 x5).f3.f0) ((rd_T45 x314001 x5).f3.f1) ((rd_T45 x314001 x5).f3.f2) ((rd_T45 x314001 x5).f4)).bind fun bt319 => (if x4.length + bt319.1.length < 140737488355328 then (thalwegref05_Bytes.l0 k (x4 ++ bt319.1) (wrap64 (x5 + 1)) x314000 x314001) else (none))) else (none)) else (some (x4, 0))
def thalwegref05_Bytes.f (k : Nat) (a0_0 : Int) (l0_1 : List (S45)) : Option (List Int × Int) := (thalwegref05_Right.f k a0_0 l0_1).bind fun t314 => (if t314 = true then (thalwegref05_Bytes.l0 k (([(wrap64 (Int.tdiv a0_0 256)) % 256, (Int.tmod a0_0 256) % 256, ((l0_1.length : Int)) % 256] : List Int)) 0 a0_0 l0_1) else (some (([] : List Int), 1)))
theorem thalwegref05_Bytes.mono_l : ∀ k, (∀ y0 y1 y2 y3, LeO (thalwegref05_Bytes.l0 k y0 y1 y2 y3) (thalwegref05_Bytes.l0 (k + 1) y0 y1 y2 y3))
  | 0 => fun _ _ _ _ r h => by simp [thalwegref05_Bytes.l0] at h
  | k + 1 => by
    have ih0 := thalwegref05_Bytes.mono_l k
    · intro y0 y1 y2 y3
      unfold thalwegref05_Bytes.l0
      repeat' first
      | (with_reducible exact ih0 _ _ _ _)
      | (with_reducible exact thalwegref04_Bytes.mono _ _ _ _ _ _ _ _ _ _ _ _ _)
      | (with_reducible exact thalwegref05_Right.mono _ _ _)
      | (with_reducible exact LeO.refl _)
      | (with_reducible exact LeO.none _)
      | (with_reducible refine LeO.ite ?_ ?_)
      | (with_reducible refine LeO.bind ?_ (fun _ => ?_))
      | exact ih0 _ _ _ _
      | exact thalwegref04_Bytes.mono _ _ _ _ _ _ _ _ _ _ _ _ _
      | exact thalwegref05_Right.mono _ _ _
      | exact LeO.none _
      | refine LeO.ite ?_ ?_
      | refine LeO.bind ?_ (fun _ => ?_)
theorem thalwegref05_Bytes.mono : ∀ a0 a1 k, LeO (thalwegref05_Bytes.f k a0 a1) (thalwegref05_Bytes.f (k + 1) a0 a1) := by
  intro a0 a1 k
  have ih0 := thalwegref05_Bytes.mono_l k
  unfold thalwegref05_Bytes.f
  repeat' first
      | (with_reducible exact ih0 _ _ _ _)
      | (with_reducible exact thalwegref04_Bytes.mono _ _ _ _ _ _ _ _ _ _ _ _ _)
      | (with_reducible exact thalwegref05_Right.mono _ _ _)
      | (with_reducible exact LeO.refl _)
      | (with_reducible exact LeO.none _)
      | (with_reducible refine LeO.ite ?_ ?_)
      | (with_reducible refine LeO.bind ?_ (fun _ => ?_))
      | exact ih0 _ _ _ _
      | exact thalwegref04_Bytes.mono _ _ _ _ _ _ _ _ _ _ _ _ _
      | exact thalwegref05_Right.mono _ _ _
      | exact LeO.none _
      | refine LeO.ite ?_ ?_
      | refine LeO.bind ?_ (fun _ => ?_)
set_option maxHeartbeats 8000000 in
set_option maxRecDepth 100000 in
theorem thalwegref05_Bytes.calls (k : Nat) (a0_0 : Int) (A0_1 : Option Addr) (c0_1 : Nat) (l0_1 : List (S45)) (r1 : List Int) (r2 : Int) (w : World) (hr0_1 : Kd.C k45 w A0_1 l0_1.length l0_1) (hc0_1 : l0_1.length ≤ c0_1) (h : thalwegref05_Bytes.f k a0_0 l0_1 = some (r1, r2)) :
    Calls Try.prog 10 #[.agg #[.int .i64 a0_0, .slice A0_1 l0_1.length c0_1]] w fun e w' => ∃ v0_ : Value, e = .returned (.tuple #[v0_, .int .i64 r2]) ∧ Kd.R (Kd.int .u8) 5 w' w.heap.size (fun _ => True) v0_ r1 ∧ Below w.heap.size w w' := by
  have hu24 := Try.underlying24
  have hu45 := Try.underlying45
  have HR0_1 := YL hr0_1; have HC0_1 := YL hc0_1; clear hr0_1 hc0_1
  have HB := YL (Below.refl w.heap.size w)
  have H : ((thalwegref05_Right.f k a0_0 l0_1).bind fun t314 => (if t314 = true then (thalwegref05_Bytes.l0 k (([(wrap64 (Int.tdiv a0_0 256)) % 256, (Int.tmod a0_0 256) % 256, ((l0_1.length : Int)) % 256] : List Int)) 0 a0_0 l0_1) else (some (([] : List Int), 1)))) = some (r1, r2) := h
  clear h; replace H := Option.bind_eq_some_iff.mp H; obtain ⟨t314, A20, H⟩ := H
  replace H : (if t314 = true then (thalwegref05_Bytes.l0 k (([(wrap64 (Int.tdiv a0_0 256)) % 256, (Int.tmod a0_0 256) % 256, ((l0_1.length : Int)) % 256] : List Int)) 0 a0_0 l0_1) else (some (([] : List Int), 1))) = some (r1, r2) := H
  have A2 := YL A20; clear A20
  by_cases c3 : t314 = true
  · subst c3
    have H1 : (thalwegref05_Bytes.l0 k (([(wrap64 (Int.tdiv a0_0 256)) % 256, (Int.tmod a0_0 256) % 256, ((l0_1.length : Int)) % 256] : List Int)) 0 a0_0 l0_1) = some (r1, r2) := by rw [if_pos rfl] at H; exact H
    clear H
    have H := H1
    clear H1
    obtain ⟨y315, hy315⟩ : ∃ y_ : List Int, y_ = (([(wrap64 (Int.tdiv a0_0 256)) % 256, (Int.tmod a0_0 256) % 256, ((l0_1.length : Int)) % 256] : List Int)) := ⟨_, rfl⟩
    replace H : (thalwegref05_Bytes.l0 k y315 0 a0_0 l0_1) = some (r1, r2) := by first | (rw [hy315]; with_reducible exact H) | (have H2_ := (Option.bind_some _ _).symm.trans H; rw [hy315]; with_reducible exact H2_) | (have H2_ := (Option.bind_some _ _).symm.trans H; with_reducible exact H2_) | with_reducible exact H | (rw [hy315]; exact H) | exact H
    have Ny315 := YL hy315; clear hy315
    have H' := YL H
    clear H
    go_enter Try.func10, Try.ntmps10
    go_wp2_with (first | ((with_reducible refine gate_dst (N := 1) rfl ?_); refine box_event ?hg (N := 1) ?hd (cs := #[.int .i64 a0_0, .slice A0_1 l0_1.length c0_1]) (t := 24) ?hr ?_; (case hd => rfl); (case hg => rfl); (case hr => first | (go_simp; done) | (go_simp; rfl)); intro gb313 hg w4 hbox hb; have n0_ := YL (YD (by repeat (first | (with_reducible first | exact HB.out | apply YA | apply YB | apply YC) | exact HB.out)) hb); have n1_ := YL (hbox); have n2_ := YL ((by rw [hg]; exact (YE (by repeat (first | (with_reducible first | exact HB.out | apply YA | apply YB | apply YC) | exact HB.out))) : w.heap.size ≤ gb313)); have n3_ := YL ((by rw [hg]; exact (YE (by repeat (first | (with_reducible first | exact HB.out | apply YA | apply YB | apply YC) | exact HB.out))) : w.heap.size ≤ gb313)); clear HB; have HB := n0_; have BK313 := n1_; have GW313 := n2_; have GE313 := n3_; clear n0_ n1_ n2_ n3_; clear hb hbox hg; have hcz5_0 : w4.cell? ⟨gb313, 0, none⟩ = some (.int .i64 a0_0) := (YI BK313.out 0).trans rfl; have hcz5_1 : w4.cell? ⟨gb313, 1, none⟩ = some (.slice A0_1 l0_1.length c0_1) := (YI BK313.out 1).trans rfl; have hfz5_0 := YJ BK313.out 0; have hfz5_1 := YJ BK313.out 1) | ((with_reducible refine gate_callee (f := 13) rfl ?_); refine goesL_ (some 9) rfl rfl Try.func13 (by kernel_rfl) rfl #[.agg #[.int .i64 a0_0, .slice A0_1 l0_1.length c0_1]] rfl (by (try simp only [YM, List.map_cons, List.map_nil]); first | done | rfl | (simp only [YO, YN]; rfl)) ?_; (with_reducible refine (thalwegref05_Right.calls k a0_0 _ _ l0_1 true _ ?side1 ?side2 A2.out).mono ?_); (case side1 => repeat (first | exact (Kd.C_below HR0_1.out HB.out) | (with_reducible refine Kd.C_alloc ?_ _) | (with_reducible refine Kd.C_drewN ?_ _) | (with_reducible refine Kd.C_drew ?_))); (case side2 => exact HC0_1.out); rintro e w6 ⟨rfl, hb⟩; refine ⟨_, rfl, ?_⟩; have n0_ := YL (YK (g := gb313) (o := .cells #[.int .i64 a0_0, .slice A0_1 l0_1.length c0_1] 24 (0, 0)) (by (with_reducible repeat (first | refine YF ?_ _ | refine YG ?_ | refine YH ?_ _)); exact BK313.out) hb); have n1_ := YL (YD (by repeat (first | (with_reducible first | exact HB.out | apply YA | apply YB | apply YC | refine below_set ?_ GE313.out) | exact HB.out)) hb); clear BK313; clear HB; have BK313 := n0_; have HB := n1_; clear n0_ n1_; (try clear hb); (try clear hb2); (try clear hk); (try clear hi); have hcz7_0 : w6.cell? ⟨gb313, 0, none⟩ = some (.int .i64 a0_0) := (YI BK313.out 0).trans rfl; have hcz7_1 : w6.cell? ⟨gb313, 1, none⟩ = some (.slice A0_1 l0_1.length c0_1) := (YI BK313.out 1).trans rfl; have hfz7_0 := YJ BK313.out 0; have hfz7_1 := YJ BK313.out 1) | ((with_reducible refine gate_dst (N := 23) rfl ?_); refine Kd.R_lit (Kd.int .u8) _ 5 ?hg (N := 23) ?hd (xs := ([(wrap64 (Int.tdiv a0_0 256)) % 256, (Int.tmod a0_0 256) % 256, ((l0_1.length : Int)) % 256] : List Int)) (inner := [.int .u8 ((wrap64 (Int.tdiv a0_0 256)) % 256), .int .u8 ((Int.tmod a0_0 256) % 256), .int .u8 (((l0_1.length : Int)) % 256)]) (ok := fun _ => True) (okp := fun _ => True) ?hr ?hp (fun _ hk => hk) trivial (Below.refl _ _) (Nat.le_refl _) (by simp) ?_; (case hd => rfl); (case hg => rfl); (case hr => first | (go_simp; done) | (go_simp; rfl)); (case hp => exact (Reps.one (show Kd.M (Kd.int .u8) _ _ _ ((wrap64 (Int.tdiv a0_0 256)) % 256) [.int .u8 ((wrap64 (Int.tdiv a0_0 256)) % 256)] from rfl) (Reps.one (show Kd.M (Kd.int .u8) _ _ _ ((Int.tmod a0_0 256) % 256) [.int .u8 ((Int.tmod a0_0 256) % 256)] from rfl) (Reps.one (show Kd.M (Kd.int .u8) _ _ _ (((l0_1.length : Int)) % 256) [.int .u8 (((l0_1.length : Int)) % 256)] from rfl) (Reps.none _ _))))); intro v316 w8 ho9 hb hg_ hnew_; clear hg_ hnew_; (first | rw [← Ny315.out] at ho9 | (simp only [Int.reduceToNat] at ho9; rw [← Ny315.out] at ho9)); have n0_ := YL (Kd.R_lower ho9 (YE (by repeat (first | (with_reducible first | exact HB.out | apply YA | apply YB | apply YC | refine below_set ?_ GE313.out) | exact HB.out)))); have n1_ := YL (YK (g := gb313) (o := .cells #[.int .i64 a0_0, .slice A0_1 l0_1.length c0_1] 24 (0, 0)) (by (with_reducible repeat (first | refine YF ?_ _ | refine YG ?_ | refine YH ?_ _)); exact BK313.out) hb); have n2_ := YL (YD (by repeat (first | (with_reducible first | exact HB.out | apply YA | apply YB | apply YC | refine below_set ?_ GE313.out) | exact HB.out)) hb); clear BK313; clear HB; have HO317 := n0_; have BK313 := n1_; have HB := n2_; clear n0_ n1_ n2_; clear hb ho9))
    go_loopg [4, 5] k (fun kq v4 v5 w' => ∃ (x4_1 : List Int) (x5_1 : Int), v5 = .int .i64 x5_1 ∧ Aside0 (thalwegref05_Bytes.l0 kq x4_1 x5_1 a0_0 l0_1 = some (r1, r2)) ∧ Aside0 (kq ≤ k) ∧ Aside0 (Kd.R (Kd.int .u8) 5 w' w.heap.size (fun _ => True) v4 x4_1) ∧ Aside0 (w'.heap[gb313]? = some (.cells #[.int .i64 a0_0, (.slice A0_1 l0_1.length c0_1)] 24 (0, 0))) ∧ Aside0 (Below w.heap.size w w'))
    case atStart => exact ⟨(y315), (0), (by first | rfl | (simp; done) | (simp [*]; done)), H', ⟨Nat.le_refl _⟩, ⟨by (with_reducible repeat (first | apply YP | apply YQ | apply YR)); exact HO317.out⟩, ⟨by (with_reducible repeat (first | refine YF ?_ _ | refine YG ?_ | refine YH ?_ _)); exact BK313.out⟩, ⟨by repeat (first | (with_reducible first | exact HB.out | apply YA | apply YB | apply YC | refine below_set ?_ GE313.out) | exact HB.out)⟩⟩
    case round =>
      clear H'
      try clear c1
      try clear p2
      try clear c3
      try clear p6
      try clear hcz5_0
      try clear hcz5_1
      try clear hcz7_0
      try clear hcz7_1
      try clear hfz5_0
      try clear hfz5_1
      try clear hfz7_0
      try clear hfz7_1
      obtain ⟨x4_1, x5_1, rfl, HA, HK1, HO_4, BK313, HB⟩ := hrel
      cases gk with
      | zero => exact absurd HA.out (by simp [thalwegref05_Bytes.l0])
      | succ k1 =>
        have H := HA.out
        clear HA
        simp only [thalwegref05_Bytes.l0] at H
        by_cases c10 : x5_1 < (l0_1.length : Int)
        · rw [if_pos c10] at H
          have c10b0 : decide (x5_1 < (l0_1.length : Int)) = true := decide_eq_true c10
          clear c10
          by_cases c11 : 0 ≤ x5_1
          rotate_left
          · rw [if_neg c11] at H
            exact absurd H (by simp)
          rw [if_pos c11] at H; have c11b0 : decide (0 ≤ x5_1) = true := decide_eq_true c11; clear c11; replace H := Option.bind_eq_some_iff.mp H
          obtain ⟨⟨t319, t322⟩, A120, H⟩ := H
          replace H : (if x4_1.length + t319.length < 140737488355328 then (thalwegref05_Bytes.l0 k1 (x4_1 ++ t319) (wrap64 (x5_1 + 1)) a0_0 l0_1) else (none)) = some (r1, r2) := H
          have A12 := YL A120; clear A120
          by_cases c13 : x4_1.length + t319.length < 140737488355328
          rotate_left
          · rw [if_neg c13] at H
            exact absurd H (by simp)
          rw [if_pos c13] at H; have LMc13 := YL c13; clear c13
          obtain ⟨y323, hy323⟩ : ∃ y_ : List Int, y_ = (x4_1 ++ t319) := ⟨_, rfl⟩
          replace H : (thalwegref05_Bytes.l0 k1 y323 (wrap64 (x5_1 + 1)) a0_0 l0_1) = some (r1, r2) := by first | (rw [hy323]; with_reducible exact H) | (have H2_ := (Option.bind_some _ _).symm.trans H; rw [hy323]; with_reducible exact H2_) | (have H2_ := (Option.bind_some _ _).symm.trans H; with_reducible exact H2_) | with_reducible exact H | (rw [hy323]; exact H) | exact H
          have Ny323 := YL hy323; clear hy323
          have H' := YL H
          clear H
          have hcz14_0 : wr.cell? ⟨gb313, 0, none⟩ = some (.int .i64 a0_0) := (YI BK313.out 0).trans rfl
          have hcz14_1 : wr.cell? ⟨gb313, 1, none⟩ = some (.slice A0_1 l0_1.length c0_1) := (YI BK313.out 1).trans rfl
          have hfz14_0 := YJ BK313.out 0
          have hfz14_1 := YJ BK313.out 1
          have p318 : 0 ≤ (x5_1 : Int) := of_decide_eq_true (by first | (with_reducible assumption) | assumption)
          have q318 : x5_1 < (l0_1.length : Int) := of_decide_eq_true (by first | (with_reducible assumption) | assumption)
          obtain ⟨ad318, e318, hx318_0, hx318_1, hx318_2, hx318_3, hx318_4, hx318_5, hx318_6, hx318_7, hx318_8, hx318_9, hx318_10, hx318_11⟩ := at_T45 HR0_1.out x5_1 p318 q318
          cases e318
          replace hx318_0 := (HB.out.cell (World.block_lt_of_cell? w _ hx318_0)).trans hx318_0
          replace hx318_1 := (HB.out.cell (World.block_lt_of_cell? w _ hx318_1)).trans hx318_1
          replace hx318_2 := (HB.out.cell (World.block_lt_of_cell? w _ hx318_2)).trans hx318_2
          replace hx318_3 := (HB.out.cell (World.block_lt_of_cell? w _ hx318_3)).trans hx318_3
          replace hx318_4 := (HB.out.cell (World.block_lt_of_cell? w _ hx318_4)).trans hx318_4
          replace hx318_5 := (HB.out.cell (World.block_lt_of_cell? w _ hx318_5)).trans hx318_5
          replace hx318_6 := (HB.out.cell (World.block_lt_of_cell? w _ hx318_6)).trans hx318_6
          replace hx318_7 := (HB.out.cell (World.block_lt_of_cell? w _ hx318_7)).trans hx318_7
          replace hx318_8 := (HB.out.cell (World.block_lt_of_cell? w _ hx318_8)).trans hx318_8
          replace hx318_9 := (HB.out.cell (World.block_lt_of_cell? w _ hx318_9)).trans hx318_9
          replace hx318_10 := (HB.out.cell (World.block_lt_of_cell? w _ hx318_10)).trans hx318_10
          replace hx318_11 := (HB.out.cell (World.block_lt_of_cell? w _ hx318_11)).trans hx318_11
          replace p318 := eq_true p318
          replace q318 := eq_true q318
          go_wp2_with (first | ((with_reducible refine gate_callee (f := 24) rfl ?_); refine goesL_ (some 37) rfl rfl Try.func24 (by kernel_rfl) rfl #[.agg #[.int .i64 ((rd_T45 l0_1 x5_1).f0), .int .i64 ((rd_T45 l0_1 x5_1).f1), .bool ((rd_T45 l0_1 x5_1).f2.f0), .int .i64 ((rd_T45 l0_1 x5_1).f2.f1), .int .i64 ((rd_T45 l0_1 x5_1).f2.f2), .int .i64 ((rd_T45 l0_1 x5_1).f2.f3), .int .i64 ((rd_T45 l0_1 x5_1).f2.f4), .int .i64 ((rd_T45 l0_1 x5_1).f2.f5), .int .i64 ((rd_T45 l0_1 x5_1).f3.f0), .int .i64 ((rd_T45 l0_1 x5_1).f3.f1), .int .i64 ((rd_T45 l0_1 x5_1).f3.f2), .int .i64 ((rd_T45 l0_1 x5_1).f4)]] rfl (by (try simp only [YM, List.map_cons, List.map_nil]); first | done | rfl | (simp only [YO, YN]; rfl)) ?_; (with_reducible refine (thalwegref04_Bytes.calls k1 ((rd_T45 l0_1 x5_1).f0) ((rd_T45 l0_1 x5_1).f1) ((rd_T45 l0_1 x5_1).f2.f0) ((rd_T45 l0_1 x5_1).f2.f1) ((rd_T45 l0_1 x5_1).f2.f2) ((rd_T45 l0_1 x5_1).f2.f3) ((rd_T45 l0_1 x5_1).f2.f4) ((rd_T45 l0_1 x5_1).f2.f5) ((rd_T45 l0_1 x5_1).f3.f0) ((rd_T45 l0_1 x5_1).f3.f1) ((rd_T45 l0_1 x5_1).f3.f2) ((rd_T45 l0_1 x5_1).f4) t319 t322 _ A12.out).mono ?_); rintro e w15 ⟨v320, rfl, ho0, hb⟩; refine ⟨_, rfl, ?_⟩; have n0_ := YL (Kd.R_elder' (by (with_reducible repeat (first | apply YP | apply YQ | apply YR)); exact HO_4.out) (Kd.R_base ho0) hb); have n1_ := YL (Kd.R_lower (Kd.R_new' ho0 (Kd.R_lt (by (with_reducible repeat (first | apply YP | apply YQ | apply YR)); exact HO_4.out))) (YE (by repeat (first | (with_reducible first | exact HB.out | apply YA | apply YB | apply YC | refine below_set ?_ GE313.out) | exact HB.out)))); have n2_ := YL (YK (g := gb313) (o := .cells #[.int .i64 a0_0, .slice (some ad318) l0_1.length c0_1] 24 (0, 0)) (by (with_reducible repeat (first | refine YF ?_ _ | refine YG ?_ | refine YH ?_ _)); exact BK313.out) hb); have n3_ := YL (YD (by repeat (first | (with_reducible first | exact HB.out | apply YA | apply YB | apply YC | refine below_set ?_ GE313.out) | exact HB.out)) hb); clear HO_4; clear BK313; clear HB; have HO_4 := n0_; have HO321 := n1_; have BK313 := n2_; have HB := n3_; clear n0_ n1_ n2_ n3_; (try clear hb); (try clear hb2); (try clear hk); (try clear hi); (try clear ho0); obtain ⟨Ao17, co17, eo17⟩ := Kd.R_slice HO321.out; subst eo17) | ((with_reducible refine gate_builtin (b := .append) (xs := #[.tmp 40, .tmp 41]) rfl ?_); at_builtin; refine Kd.R_append_rows (Kd.int .u8) (w0 := w) w.heap.size rfl (.tmp 40) (.tmp 41) 26 5 (.int .u8 0) 1 rfl Try.underlying26 info5 rfl (by decide) (by omega) u4 x4_1 t319 _ _ _ (fun k_ => some k_ ≠ (.slice Ao17 t319.length co17 : Value).ownBlock) (fun _ => False) rfl rfl ?aO ?aR (fun _ _ h => h) (fun _ h => h.elim) ?aF ?aB ?aS ?aL ?_; (case aR => repeat (first | exact (Kd.R_reads' HO321.out).2.2 | (with_reducible refine Kd.C_alloc ?_ _) | (with_reducible refine Kd.C_drewN ?_ _) | (with_reducible refine Kd.C_drew ?_))); (case aB => exact (by repeat (first | (with_reducible first | exact HB.out | apply YA | apply YB | apply YC | refine below_set ?_ GE313.out) | exact HB.out))); (case aF => exact (fun k_ hk => Kd.fresh' (Kd.R_lt (by (with_reducible repeat (first | apply YP | apply YQ | apply YR)); exact HO321.out)) k_ hk)); (case aO => exact (by (with_reducible repeat (first | apply YP | apply YQ | apply YR)); exact Kd.R_mono HO_4.out (fun _ hk => by first | exact hk.2 | exact trivial | (simp [hk]; done) | simp_all))); (case aS => exact (YE (by repeat (first | (with_reducible first | exact HB.out | apply YA | apply YB | apply YC | refine below_set ?_ GE313.out) | exact HB.out)))); (case aL => have := LMc13.out; omega); intro v324 w16 ho hb hg hat; rw [← Ny323.out] at ho; have n0_ := YL (blk_grown (g := gb313) (o := .cells #[.int .i64 a0_0, .slice (some ad318) l0_1.length c0_1] 24 (0, 0)) (by (with_reducible repeat (first | refine YF ?_ _ | refine YG ?_ | refine YH ?_ _)); exact BK313.out) hg (Kd.R_ne HO_4.out BK313.out (by decide))); have n1_ := YL (Kd.R_after (ok := (fun _ => True)) (by (with_reducible repeat (first | apply YP | apply YQ | apply YR)); exact HO321.out) hg hat); have n2_ := YL (hb); have n3_ := YL (ho); clear BK313; clear HO321; clear HB; clear HO_4; have BK313 := n0_; have HO321 := n1_; have HB := n2_; have HO325 := n3_; clear n0_ n1_ n2_ n3_; clear ho hb hg hat))
          go_roundg k1
          case measure => have := HK1.out; omega
          case rel => exact ⟨(y323), (wrap64 (x5_1 + 1)), (by first | rfl | (simp; done) | (simp [*]; done)), H', ⟨by have := HK1.out; omega⟩, ⟨by (with_reducible repeat (first | apply YP | apply YQ | apply YR)); exact Kd.R_mono HO325.out (fun _ hk => trivial)⟩, ⟨by (with_reducible repeat (first | refine YF ?_ _ | refine YG ?_ | refine YH ?_ _)); exact BK313.out⟩, ⟨by repeat (first | (with_reducible first | exact HB.out | apply YA | apply YB | apply YC | refine below_set ?_ GE313.out) | exact HB.out)⟩⟩
        rw [if_neg c10] at H
        have c10b0 : decide (x5_1 < (l0_1.length : Int)) = false := decide_eq_false c10
        clear c10
        simp only [Option.some.injEq, Prod.mk.injEq] at H
        obtain ⟨rfl, rfl⟩ := H
        have hcz18_0 : wr.cell? ⟨gb313, 0, none⟩ = some (.int .i64 a0_0) := (YI BK313.out 0).trans rfl
        have hcz18_1 : wr.cell? ⟨gb313, 1, none⟩ = some (.slice A0_1 l0_1.length c0_1) := (YI BK313.out 1).trans rfl
        have hfz18_0 := YJ BK313.out 0
        have hfz18_1 := YJ BK313.out 1
        go_wp2
        go_ret2
        exact ⟨_, by first | rfl | (simp [errW_none, errW_some] <;> rfl) | (simp [*, errW_none, errW_some] <;> rfl), by (with_reducible repeat (first | apply YP | apply YQ | apply YR)); exact HO_4.out, by repeat (first | (with_reducible first | exact HB.out | apply YA | apply YB | apply YC | refine below_set ?_ GE313.out) | exact HB.out)⟩
  replace c3 := Bool.eq_false_iff.mpr c3
  subst c3
  have H1 : (some (([] : List Int), 1)) = some (r1, r2) := by rw [if_neg (show ¬ (false = true) by decide)] at H; exact H
  clear H
  have H := H1
  clear H1
  simp only [Option.some.injEq, Prod.mk.injEq] at H
  obtain ⟨rfl, rfl⟩ := H
  go_enter Try.func10, Try.ntmps10
  go_wp2_with (first | ((with_reducible refine gate_dst (N := 1) rfl ?_); refine box_event ?hg (N := 1) ?hd (cs := #[.int .i64 a0_0, .slice A0_1 l0_1.length c0_1]) (t := 24) ?hr ?_; (case hd => rfl); (case hg => rfl); (case hr => first | (go_simp; done) | (go_simp; rfl)); intro gb313 hg w19 hbox hb; have n0_ := YL (YD (by repeat (first | (with_reducible first | exact HB.out | apply YA | apply YB | apply YC) | exact HB.out)) hb); have n1_ := YL (hbox); have n2_ := YL ((by rw [hg]; exact (YE (by repeat (first | (with_reducible first | exact HB.out | apply YA | apply YB | apply YC) | exact HB.out))) : w.heap.size ≤ gb313)); have n3_ := YL ((by rw [hg]; exact (YE (by repeat (first | (with_reducible first | exact HB.out | apply YA | apply YB | apply YC) | exact HB.out))) : w.heap.size ≤ gb313)); clear HB; have HB := n0_; have BK313 := n1_; have GW313 := n2_; have GE313 := n3_; clear n0_ n1_ n2_ n3_; clear hb hbox hg; have hcz20_0 : w19.cell? ⟨gb313, 0, none⟩ = some (.int .i64 a0_0) := (YI BK313.out 0).trans rfl; have hcz20_1 : w19.cell? ⟨gb313, 1, none⟩ = some (.slice A0_1 l0_1.length c0_1) := (YI BK313.out 1).trans rfl; have hfz20_0 := YJ BK313.out 0; have hfz20_1 := YJ BK313.out 1) | ((with_reducible refine gate_callee (f := 13) rfl ?_); refine goesL_ (some 9) rfl rfl Try.func13 (by kernel_rfl) rfl #[.agg #[.int .i64 a0_0, .slice A0_1 l0_1.length c0_1]] rfl (by (try simp only [YM, List.map_cons, List.map_nil]); first | done | rfl | (simp only [YO, YN]; rfl)) ?_; (with_reducible refine (thalwegref05_Right.calls k a0_0 _ _ l0_1 false _ ?side1 ?side2 A2.out).mono ?_); (case side1 => repeat (first | exact (Kd.C_below HR0_1.out HB.out) | (with_reducible refine Kd.C_alloc ?_ _) | (with_reducible refine Kd.C_drewN ?_ _) | (with_reducible refine Kd.C_drew ?_))); (case side2 => exact HC0_1.out); rintro e w21 ⟨rfl, hb⟩; refine ⟨_, rfl, ?_⟩; have n0_ := YL (YK (g := gb313) (o := .cells #[.int .i64 a0_0, .slice A0_1 l0_1.length c0_1] 24 (0, 0)) (by (with_reducible repeat (first | refine YF ?_ _ | refine YG ?_ | refine YH ?_ _)); exact BK313.out) hb); have n1_ := YL (YD (by repeat (first | (with_reducible first | exact HB.out | apply YA | apply YB | apply YC | refine below_set ?_ GE313.out) | exact HB.out)) hb); clear BK313; clear HB; have BK313 := n0_; have HB := n1_; clear n0_ n1_; (try clear hb); (try clear hb2); (try clear hk); (try clear hi)))
  go_ret2
  exact ⟨_, by first | rfl | (simp [errW_none, errW_some] <;> rfl) | (simp [*, errW_none, errW_some] <;> rfl), by first | exact Kd.R_nil _ _ _ _ _ | exact Kd.N_nil _ _ _ _ _ | exact Kd.V_nil _ _ _ _ _ | exact Kd.Q_nil _ _ _ _ _ | exact Kd.S_nil _ _ _ _ _, by repeat (first | (with_reducible first | exact HB.out | apply YA | apply YB | apply YC | refine below_set ?_ GE313.out) | exact HB.out)⟩
def thalweglaw05_awake.f (k : Nat)  : Option (Bool) := (batch_Bytes.f k 7 (([(⟨1, 5, (⟨false, 0, 0, 0, 0, 0⟩ : S41), (⟨0, 0, 0⟩ : S43), 0⟩ : S45), (⟨1, 6, (⟨false, 0, 0, 0, 0, 0⟩ : S41), (⟨0, 0, 0⟩ : S43), 0⟩ : S45)] : List (S45)))).bind fun bt329 => (if (strOfNums bt329.1).toList = ([0, 7, 2, 1, 5, 1, 6] : List UInt8) then (some (bt329.2 == 0)) else (none))
theorem thalweglaw05_awake.mono : ∀ k, LeO (thalweglaw05_awake.f k ) (thalweglaw05_awake.f (k + 1) ) := by
  intro  k
  unfold thalweglaw05_awake.f
  repeat' first
      | (with_reducible exact batch_Bytes.mono _ _ _)
      | (with_reducible exact LeO.refl _)
      | (with_reducible exact LeO.none _)
      | (with_reducible refine LeO.ite ?_ ?_)
      | (with_reducible refine LeO.bind ?_ (fun _ => ?_))
      | exact batch_Bytes.mono _ _ _
      | exact LeO.none _
      | refine LeO.ite ?_ ?_
      | refine LeO.bind ?_ (fun _ => ?_)
set_option maxHeartbeats 8000000 in
set_option maxRecDepth 100000 in
theorem thalweglaw05_awake.calls (k : Nat)  (r : Bool) (w : World) (h : thalweglaw05_awake.f k  = some r) :
    Calls Try.prog 11 #[] w fun e w' => e = .returned (.bool r) ∧ Below w.heap.size w w' := by
  have hu45 := Try.underlying45
  have hu24 := Try.underlying24
  have HB := YL (Below.refl w.heap.size w)
  have H : ((batch_Bytes.f k 7 (([(⟨1, 5, (⟨false, 0, 0, 0, 0, 0⟩ : S41), (⟨0, 0, 0⟩ : S43), 0⟩ : S45), (⟨1, 6, (⟨false, 0, 0, 0, 0, 0⟩ : S41), (⟨0, 0, 0⟩ : S43), 0⟩ : S45)] : List (S45)))).bind fun bt329 => (if (strOfNums bt329.1).toList = ([0, 7, 2, 1, 5, 1, 6] : List UInt8) then (some (bt329.2 == 0)) else (none))) = some r := h
  clear h
  obtain ⟨y326, hy326⟩ : ∃ y_ : List (S45), y_ = (([(⟨1, 5, (⟨false, 0, 0, 0, 0, 0⟩ : S41), (⟨0, 0, 0⟩ : S43), 0⟩ : S45), (⟨1, 6, (⟨false, 0, 0, 0, 0, 0⟩ : S41), (⟨0, 0, 0⟩ : S43), 0⟩ : S45)] : List (S45))) := ⟨_, rfl⟩
  replace H : ((batch_Bytes.f k 7 y326).bind fun bt329 => (if (strOfNums bt329.1).toList = ([0, 7, 2, 1, 5, 1, 6] : List UInt8) then (some (bt329.2 == 0)) else (none))) = some r := by first | (rw [hy326]; with_reducible exact H) | (have H2_ := (Option.bind_some _ _).symm.trans H; rw [hy326]; with_reducible exact H2_) | (have H2_ := (Option.bind_some _ _).symm.trans H; with_reducible exact H2_) | with_reducible exact H | (rw [hy326]; exact H) | exact H
  have Ny326 := YL hy326; clear hy326; replace H := Option.bind_eq_some_iff.mp H
  obtain ⟨⟨t329, t332⟩, A10, H⟩ := H
  replace H : (if (strOfNums t329).toList = ([0, 7, 2, 1, 5, 1, 6] : List UInt8) then (some (t332 == 0)) else (none)) = some r := H
  have A1 := YL A10; clear A10
  by_cases c2 : (strOfNums t329).toList = ([0, 7, 2, 1, 5, 1, 6] : List UInt8)
  rotate_left
  · rw [if_neg c2] at H
    exact absurd H (by simp)
  rw [if_pos c2] at H
  have c2b0 : ((strOfNums t329).toList == ([0, 7, 2, 1, 5, 1, 6] : List UInt8)) = true := beq_iff_eq.mpr c2
  have c2b1 : ((strOfNums t329).toList != ([0, 7, 2, 1, 5, 1, 6] : List UInt8)) = false := bne_eq_false_iff_eq.mpr c2
  clear c2
  obtain rfl := Option.some.inj H
  go_enter Try.func11, Try.ntmps11
  go_wp2_with (first | ((with_reducible refine gate_dst (N := 6) rfl ?_); refine Kd.R_lit k45 _ 45 ?hg (N := 6) ?hd (xs := ([(⟨1, 5, (⟨false, 0, 0, 0, 0, 0⟩ : S41), (⟨0, 0, 0⟩ : S43), 0⟩ : S45), (⟨1, 6, (⟨false, 0, 0, 0, 0, 0⟩ : S41), (⟨0, 0, 0⟩ : S43), 0⟩ : S45)] : List (S45))) (inner := [.int .i64 1, .int .i64 5, .bool false, .int .i64 0, .int .i64 0, .int .i64 0, .int .i64 0, .int .i64 0, .int .i64 0, .int .i64 0, .int .i64 0, .int .i64 0, .int .i64 1, .int .i64 6, .bool false, .int .i64 0, .int .i64 0, .int .i64 0, .int .i64 0, .int .i64 0, .int .i64 0, .int .i64 0, .int .i64 0, .int .i64 0]) (ok := fun _ => True) (okp := fun _ => True) ?hr ?hp (fun _ hk => hk) trivial (Below.refl _ _) (Nat.le_refl _) (by simp) ?_; (case hd => rfl); (case hg => rfl); (case hr => first | (go_simp; done) | (go_simp; rfl)); (case hp => exact (Reps.front (show Kd.M k45 _ _ _ (⟨1, 5, (⟨false, 0, 0, 0, 0, 0⟩ : S41), (⟨0, 0, 0⟩ : S43), 0⟩ : S45) [.int .i64 1, .int .i64 5, .bool false, .int .i64 0, .int .i64 0, .int .i64 0, .int .i64 0, .int .i64 0, .int .i64 0, .int .i64 0, .int .i64 0, .int .i64 0] from (k45_mkM _ _ _ (⟨1, 5, (⟨false, 0, 0, 0, 0, 0⟩ : S41), (⟨0, 0, 0⟩ : S43), 0⟩ : S45) )) rfl (Reps.front (show Kd.M k45 _ _ _ (⟨1, 6, (⟨false, 0, 0, 0, 0, 0⟩ : S41), (⟨0, 0, 0⟩ : S43), 0⟩ : S45) [.int .i64 1, .int .i64 6, .bool false, .int .i64 0, .int .i64 0, .int .i64 0, .int .i64 0, .int .i64 0, .int .i64 0, .int .i64 0, .int .i64 0, .int .i64 0] from (k45_mkM _ _ _ (⟨1, 6, (⟨false, 0, 0, 0, 0, 0⟩ : S41), (⟨0, 0, 0⟩ : S43), 0⟩ : S45) )) rfl (Reps.none _ _) rfl) rfl)); intro v327 w3 ho4 hb hg_ hnew_; clear hg_ hnew_; (first | rw [← Ny326.out] at ho4 | (simp only [Int.reduceToNat] at ho4; rw [← Ny326.out] at ho4)); have n0_ := YL (Kd.R_lower ho4 (YE (by repeat (first | (with_reducible first | exact HB.out | apply YA | apply YB | apply YC) | exact HB.out)))); have n1_ := YL (YD (by repeat (first | (with_reducible first | exact HB.out | apply YA | apply YB | apply YC) | exact HB.out)) hb); clear HB; have HO328 := n0_; have HB := n1_; clear n0_ n1_; clear hb ho4; obtain ⟨Ao5, co5, eo5⟩ := Kd.R_slice HO328.out; subst eo5) | ((with_reducible refine gate_callee (f := 9) rfl ?_); refine goesL_ (some 8) rfl rfl Try.func9 (by kernel_rfl) rfl #[.agg #[.int .i64 7, .slice Ao5 y326.length co5]] rfl (by (try simp only [YM, List.map_cons, List.map_nil]); first | done | rfl | (simp only [YO, YN]; rfl)) ?_; (with_reducible refine (batch_Bytes.calls k 7 _ _ y326 t329 t332 _ ?side1 ?side2 A1.out).mono ?_); (case side1 => repeat (first | exact (Kd.R_reads' HO328.out).2.2 | (with_reducible refine Kd.C_alloc ?_ _) | (with_reducible refine Kd.C_drewN ?_ _) | (with_reducible refine Kd.C_drew ?_))); (case side2 => exact (Kd.R_reads' HO328.out).2.1); rintro e w6 ⟨v330, rfl, ho0, hb⟩; refine ⟨_, rfl, ?_⟩; have n0_ := YL (Kd.R_below (by (with_reducible repeat (first | apply YP | apply YQ | apply YR)); exact HO328.out) hb); have n1_ := YL (Kd.R_lower ho0 (YE (by repeat (first | (with_reducible first | exact HB.out | apply YA | apply YB | apply YC) | exact HB.out)))); have n2_ := YL (YD (by repeat (first | (with_reducible first | exact HB.out | apply YA | apply YB | apply YC) | exact HB.out)) hb); clear HO328; clear HB; have HO328 := n0_; have HO331 := n1_; have HB := n2_; clear n0_ n1_ n2_; (try clear hb); (try clear hb2); (try clear hk); (try clear hi); (try clear ho0); have hcv7 := own_string (P := Try.prog) Try.underlying26 Try.underlying5 Try.underlying9 (Kd.own_of_R HO331.out)))
  go_ret
  exact ⟨by first | rfl | (simp [errW_none, errW_some] <;> rfl) | (simp [*, errW_none, errW_some] <;> rfl), by repeat (first | (with_reducible first | exact HB.out | apply YA | apply YB | apply YC) | exact HB.out)⟩
end Go.Proofs.Ytfigbjjaffkidaa.P
namespace Go.Proofs.Ytfigbjjaffkidaa.P
open Go.RowKit Go.Proofs.YtfigbjjaffkidaaW.PrintWords Go.Proofs.YtfigbjjaffkidaaW.PrintLast Go.Proofs.YtfigbjjaffkidaaW.PrintMore
open Go.Proofs.YtfigbjjaffkidaaW.PrintWords.Aside0 renaming mk → YA
attribute [local go_sem] max2_int min2_int max_two min_two max_three min_three max_four min_four   -- for this text's walks alone
attribute [local go_sem high] eqA45
def thalwegref04_Same.l0 : Nat → List (S45) → List (S45) → Int → Option (Bool)
  | 0, _, _, _ => none
  | k + 1, x0, x1, x5 => if x5 < (x0.length : Int) then (if 0 ≤ x5 then (if x5 < (x1.length : Int) then (if (!(((rd_T45 x0 x5).f0) == ((rd_T45 x1 x5).f0)) || (!(((rd_T45 x0 x5).f1) == ((rd_T45 x1 x5).f1)) || ((!(((rd_T45 x0 x5).f2.f0) == ((rd_T45 x1 x5).f2.f0)) || (!(((rd_T45 x0 x5).f2.f1) == ((rd_T45 x1 x5).f2.f1)) || (!(((rd_T45 x0 x5).f2.f2) == ((rd_T45 x1 x5).f2.f2)) || (!(((rd_T45 x0 x5).f2.f3) == ((rd_T45 x1 x5).f2.f3)) || (!(((rd_T45 x0 x5).f2.f4) == ((rd_T45 x1 x5).f2.f4)) || (!(((rd_T45 x0 x5).f2.f5) == ((rd_T45 x1 x5).f2.f5)))))))) || ((!(((rd_T45 x0 x5).f3.f0) == ((rd_T45 x1 x5).f3.f0)) || (!(((rd_T45 x0 x5).f3.f1) == ((rd_T45 x1 x5).f3.f1)) || (!(((rd_T45 x0 x5).f3.f2) == ((rd_T45 x1 x5).f3.f2))))) || (!(((rd_T45 x0 x5).f4) == ((rd_T45 x1 x5).f4))))))) = true then (some false) else (thalwegref04_Same.l0 k x0 x1 (wrap64 (x5 + 1)))) else (none)) else (none)) else (some true)
def thalwegref04_Same.f (k : Nat) (l0 : List (S45)) (l1 : List (S45)) : Option (Bool) := if (l0.length : Int) = (l1.length : Int) then (thalwegref04_Same.l0 k l0 l1 0) else (some false)
theorem thalwegref04_Same.mono_l : ∀ k, (∀ y0 y1 y2, LeO (thalwegref04_Same.l0 k y0 y1 y2) (thalwegref04_Same.l0 (k + 1) y0 y1 y2))
  | 0 => fun _ _ _ r h => by simp [thalwegref04_Same.l0] at h
  | k + 1 => by
    have ih0 := thalwegref04_Same.mono_l k
    · intro y0 y1 y2
      unfold thalwegref04_Same.l0
      repeat' first
      | (with_reducible exact ih0 _ _ _)
      | (with_reducible exact LeO.refl _)
      | (with_reducible exact LeO.none _)
      | (with_reducible refine LeO.ite ?_ ?_)
      | (with_reducible refine LeO.bind ?_ (fun _ => ?_))
      | exact ih0 _ _ _
      | exact LeO.none _
      | refine LeO.ite ?_ ?_
      | refine LeO.bind ?_ (fun _ => ?_)
theorem thalwegref04_Same.mono : ∀ a0 a1 k, LeO (thalwegref04_Same.f k a0 a1) (thalwegref04_Same.f (k + 1) a0 a1) := by
  intro a0 a1 k
  have ih0 := thalwegref04_Same.mono_l k
  unfold thalwegref04_Same.f
  repeat' first
      | (with_reducible exact ih0 _ _ _)
      | (with_reducible exact LeO.refl _)
      | (with_reducible exact LeO.none _)
      | (with_reducible refine LeO.ite ?_ ?_)
      | (with_reducible refine LeO.bind ?_ (fun _ => ?_))
      | exact ih0 _ _ _
      | exact LeO.none _
      | refine LeO.ite ?_ ?_
      | refine LeO.bind ?_ (fun _ => ?_)
set_option maxHeartbeats 8000000 in
set_option maxRecDepth 100000 in
theorem thalwegref04_Same.calls (k : Nat) (A0 : Option Addr) (c0 : Nat) (l0 : List (S45)) (A1 : Option Addr) (c1 : Nat) (l1 : List (S45)) (r : Bool) (w : World) (hr0 : Kd.C k45 w A0 l0.length l0) (hc0 : l0.length ≤ c0) (hr1 : Kd.C k45 w A1 l1.length l1) (hc1 : l1.length ≤ c1) (h : thalwegref04_Same.f k l0 l1 = some r) :
    Calls Try.prog 14 #[.slice A0 l0.length c0, .slice A1 l1.length c1] w fun e w' => e = .returned (.bool r) ∧ Drawn0 w w' := by
  have hu45 := Try.underlying45
  have HR0 := YA hr0; have HC0 := YA hc0; clear hr0 hc0; have HR1 := YA hr1; have HC1 := YA hc1; clear hr1 hc1
  have H : (if (l0.length : Int) = (l1.length : Int) then (thalwegref04_Same.l0 k l0 l1 0) else (some false)) = some r := h
  clear h
  by_cases c3 : (l0.length : Int) = (l1.length : Int)
  · rw [if_pos c3] at H
    have c3b0 : ((l0.length : Int) == (l1.length : Int)) = true := beq_iff_eq.mpr c3
    have c3b1 : ((l0.length : Int) != (l1.length : Int)) = false := bne_eq_false_iff_eq.mpr c3
    have c3b2 : (l0.length == l1.length) = true := by first | simpa using c3 | (simp at c3 ⊢; omega)
    clear c3
    have H' := YA H
    clear H
    go_enter Try.func14, Try.ntmps14
    go_wp2
    repeat (go_quiet (fail); try go_wp2)
    go_loopg [5] k (fun kq v5 w' => ∃ (x5_1 : Int), v5 = .int .i64 x5_1 ∧ Aside0 (thalwegref04_Same.l0 kq l0 l1 x5_1 = some r) ∧ Aside0 (kq ≤ k) ∧ Drawn0 w w')
    case atStart => exact ⟨(0), (by first | rfl | (simp; done) | (simp [*]; done)), H', ⟨Nat.le_refl _⟩, by repeat (first | exact Drawn0.refl _ | apply Drawn0.step)⟩
    case round =>
      clear H'
      try clear c1
      try clear p2
      try clear c3
      try clear c3b0
      try clear c3b1
      try clear c3b2
      obtain ⟨x5_1, rfl, HA, HK1, ⟨m1, rfl⟩⟩ := hrel
      cases gk with
      | zero => exact absurd HA.out (by simp [thalwegref04_Same.l0])
      | succ k1 =>
        have H := HA.out
        clear HA
        simp only [thalwegref04_Same.l0] at H
        by_cases c4 : x5_1 < (l0.length : Int)
        · rw [if_pos c4] at H
          have c4b0 : decide (x5_1 < (l0.length : Int)) = true := decide_eq_true c4
          clear c4
          by_cases c5 : 0 ≤ x5_1
          rotate_left
          · rw [if_neg c5] at H
            exact absurd H (by simp)
          rw [if_pos c5] at H; have c5b0 : decide (0 ≤ x5_1) = true := decide_eq_true c5; clear c5
          by_cases c6 : x5_1 < (l1.length : Int)
          rotate_left
          · rw [if_neg c6] at H
            exact absurd H (by simp)
          rw [if_pos c6] at H
          have c6b0 : decide (x5_1 < (l1.length : Int)) = true := decide_eq_true c6
          clear c6
          by_cases c7 : (!(((rd_T45 l0 x5_1).f0) == ((rd_T45 l1 x5_1).f0)) || (!(((rd_T45 l0 x5_1).f1) == ((rd_T45 l1 x5_1).f1)) || ((!(((rd_T45 l0 x5_1).f2.f0) == ((rd_T45 l1 x5_1).f2.f0)) || (!(((rd_T45 l0 x5_1).f2.f1) == ((rd_T45 l1 x5_1).f2.f1)) || (!(((rd_T45 l0 x5_1).f2.f2) == ((rd_T45 l1 x5_1).f2.f2)) || (!(((rd_T45 l0 x5_1).f2.f3) == ((rd_T45 l1 x5_1).f2.f3)) || (!(((rd_T45 l0 x5_1).f2.f4) == ((rd_T45 l1 x5_1).f2.f4)) || (!(((rd_T45 l0 x5_1).f2.f5) == ((rd_T45 l1 x5_1).f2.f5)))))))) || ((!(((rd_T45 l0 x5_1).f3.f0) == ((rd_T45 l1 x5_1).f3.f0)) || (!(((rd_T45 l0 x5_1).f3.f1) == ((rd_T45 l1 x5_1).f3.f1)) || (!(((rd_T45 l0 x5_1).f3.f2) == ((rd_T45 l1 x5_1).f3.f2))))) || (!(((rd_T45 l0 x5_1).f4) == ((rd_T45 l1 x5_1).f4))))))) = true
          · rw [if_pos c7] at H
            have c7b0 : (!(((rd_T45 l0 x5_1).f0) == ((rd_T45 l1 x5_1).f0)) || (!(((rd_T45 l0 x5_1).f1) == ((rd_T45 l1 x5_1).f1)) || ((!(((rd_T45 l0 x5_1).f2.f0) == ((rd_T45 l1 x5_1).f2.f0)) || (!(((rd_T45 l0 x5_1).f2.f1) == ((rd_T45 l1 x5_1).f2.f1)) || (!(((rd_T45 l0 x5_1).f2.f2) == ((rd_T45 l1 x5_1).f2.f2)) || (!(((rd_T45 l0 x5_1).f2.f3) == ((rd_T45 l1 x5_1).f2.f3)) || (!(((rd_T45 l0 x5_1).f2.f4) == ((rd_T45 l1 x5_1).f2.f4)) || (!(((rd_T45 l0 x5_1).f2.f5) == ((rd_T45 l1 x5_1).f2.f5)))))))) || ((!(((rd_T45 l0 x5_1).f3.f0) == ((rd_T45 l1 x5_1).f3.f0)) || (!(((rd_T45 l0 x5_1).f3.f1) == ((rd_T45 l1 x5_1).f3.f1)) || (!(((rd_T45 l0 x5_1).f3.f2) == ((rd_T45 l1 x5_1).f3.f2))))) || (!(((rd_T45 l0 x5_1).f4) == ((rd_T45 l1 x5_1).f4))))))) = true := c7
            clear c7
            obtain rfl := Option.some.inj H
            have p333 : 0 ≤ (x5_1 : Int) := of_decide_eq_true (by first | (with_reducible assumption) | assumption)
            have q333 : x5_1 < (l0.length : Int) := of_decide_eq_true (by first | (with_reducible assumption) | assumption)
            obtain ⟨ad333, e333, hx333_0, hx333_1, hx333_2, hx333_3, hx333_4, hx333_5, hx333_6, hx333_7, hx333_8, hx333_9, hx333_10, hx333_11⟩ := at_T45 HR0.out x5_1 p333 q333
            cases e333
            replace p333 := eq_true p333
            replace q333 := eq_true q333
            have p334 : 0 ≤ (x5_1 : Int) := of_decide_eq_true (by first | (with_reducible assumption) | assumption)
            have q334 : x5_1 < (l1.length : Int) := of_decide_eq_true (by first | (with_reducible assumption) | assumption)
            obtain ⟨ad334, e334, hx334_0, hx334_1, hx334_2, hx334_3, hx334_4, hx334_5, hx334_6, hx334_7, hx334_8, hx334_9, hx334_10, hx334_11⟩ := at_T45 HR1.out x5_1 p334 q334
            cases e334
            replace p334 := eq_true p334
            replace q334 := eq_true q334
            go_wp2
            repeat (go_quiet (fail); try go_wp2)
            go_ret
            exact ⟨by first | rfl | (simp; done) | (simp [*]; done), by repeat (first | exact Drawn0.refl _ | apply Drawn0.step)⟩
          rw [if_neg c7] at H
          have c7b0 : (!(((rd_T45 l0 x5_1).f0) == ((rd_T45 l1 x5_1).f0)) || (!(((rd_T45 l0 x5_1).f1) == ((rd_T45 l1 x5_1).f1)) || ((!(((rd_T45 l0 x5_1).f2.f0) == ((rd_T45 l1 x5_1).f2.f0)) || (!(((rd_T45 l0 x5_1).f2.f1) == ((rd_T45 l1 x5_1).f2.f1)) || (!(((rd_T45 l0 x5_1).f2.f2) == ((rd_T45 l1 x5_1).f2.f2)) || (!(((rd_T45 l0 x5_1).f2.f3) == ((rd_T45 l1 x5_1).f2.f3)) || (!(((rd_T45 l0 x5_1).f2.f4) == ((rd_T45 l1 x5_1).f2.f4)) || (!(((rd_T45 l0 x5_1).f2.f5) == ((rd_T45 l1 x5_1).f2.f5)))))))) || ((!(((rd_T45 l0 x5_1).f3.f0) == ((rd_T45 l1 x5_1).f3.f0)) || (!(((rd_T45 l0 x5_1).f3.f1) == ((rd_T45 l1 x5_1).f3.f1)) || (!(((rd_T45 l0 x5_1).f3.f2) == ((rd_T45 l1 x5_1).f3.f2))))) || (!(((rd_T45 l0 x5_1).f4) == ((rd_T45 l1 x5_1).f4))))))) = false := by simpa using c7
          clear c7
          have H' := YA H
          clear H
          have p333 : 0 ≤ (x5_1 : Int) := of_decide_eq_true (by first | (with_reducible assumption) | assumption)
          have q333 : x5_1 < (l0.length : Int) := of_decide_eq_true (by first | (with_reducible assumption) | assumption)
          obtain ⟨ad333, e333, hx333_0, hx333_1, hx333_2, hx333_3, hx333_4, hx333_5, hx333_6, hx333_7, hx333_8, hx333_9, hx333_10, hx333_11⟩ := at_T45 HR0.out x5_1 p333 q333
          cases e333
          replace p333 := eq_true p333
          replace q333 := eq_true q333
          have p334 : 0 ≤ (x5_1 : Int) := of_decide_eq_true (by first | (with_reducible assumption) | assumption)
          have q334 : x5_1 < (l1.length : Int) := of_decide_eq_true (by first | (with_reducible assumption) | assumption)
          obtain ⟨ad334, e334, hx334_0, hx334_1, hx334_2, hx334_3, hx334_4, hx334_5, hx334_6, hx334_7, hx334_8, hx334_9, hx334_10, hx334_11⟩ := at_T45 HR1.out x5_1 p334 q334
          cases e334
          replace p334 := eq_true p334
          replace q334 := eq_true q334
          go_wp2
          repeat (go_quiet (fail); try go_wp2)
          go_roundg k1
          case measure => have := HK1.out; omega
          case rel => exact ⟨(wrap64 (x5_1 + 1)), (by first | rfl | (simp; done) | (simp [*]; done)), H', ⟨by have := HK1.out; omega⟩, by repeat (first | exact Drawn0.refl _ | apply Drawn0.step)⟩
        rw [if_neg c4] at H
        have c4b0 : decide (x5_1 < (l0.length : Int)) = false := decide_eq_false c4
        clear c4
        obtain rfl := Option.some.inj H
        go_wp2
        repeat (go_quiet (fail); try go_wp2)
        go_ret
        exact ⟨by first | rfl | (simp; done) | (simp [*]; done), by repeat (first | exact Drawn0.refl _ | apply Drawn0.step)⟩
  rw [if_neg c3] at H
  have c3b0 : ((l0.length : Int) == (l1.length : Int)) = false := beq_eq_false_iff_ne.mpr c3
  have c3b1 : ((l0.length : Int) != (l1.length : Int)) = true := bne_iff_ne.mpr c3
  have c3b2 : (l0.length == l1.length) = false := by first | simpa using c3 | (simp at c3 ⊢; omega)
  obtain rfl := Option.some.inj H
  go_enter Try.func14, Try.ntmps14
  go_wp2
  repeat (go_quiet (fail); try go_wp2)
  go_ret
  exact ⟨by first | rfl | (simp; done) | (simp [*]; done), by repeat (first | exact Drawn0.refl _ | apply Drawn0.step)⟩
end Go.Proofs.Ytfigbjjaffkidaa.P
namespace Go.Proofs.Ytfigbjjaffkidaa.P
open Go.RowKit Go.Proofs.YtfigbjjaffkidaaW.PrintWords Go.Proofs.YtfigbjjaffkidaaW.PrintLast Go.Proofs.YtfigbjjaffkidaaW.PrintMore
attribute [local go_sem] max2_int min2_int max_two min_two max_three min_three max_four min_four   -- for this text's walks alone
def serial_Next.f (a0 : Int) : Option (Int) := some (wrap64 (IntKind.u16.wrap ((IntKind.u16.wrap (a0)) + 1)))
set_option maxHeartbeats 8000000 in
set_option maxRecDepth 100000 in
theorem serial_Next.calls (a0 : Int) (r : Int) (w : World) (h : serial_Next.f a0 = some r) :
    Calls Try.prog 20 #[.int .i64 a0] w fun e w' => e = .returned (.int .i64 r) ∧ Drawn0 w w' := by
  have H : (some (wrap64 (IntKind.u16.wrap ((IntKind.u16.wrap (a0)) + 1)))) = some r := h
  clear h
  obtain rfl := Option.some.inj H
  go_enter Try.func20, Try.ntmps20
  go_wp2
  go_ret
  exact ⟨by first | rfl | (simp; done) | (simp [*]; done), by repeat (first | exact Drawn0.refl _ | apply Drawn0.step)⟩
end Go.Proofs.Ytfigbjjaffkidaa.P
