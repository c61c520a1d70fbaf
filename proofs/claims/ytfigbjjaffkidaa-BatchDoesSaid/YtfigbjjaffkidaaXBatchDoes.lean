/- The statement BatchDoes, proved of the given program; it has no conditions. (Laid together out of many texts: part 4 of 4.) -/
import Derived.Test.YtfigbjjaffkidaaXBatchDoesWWords
import Derived.Test.YtfigbjjaffkidaaXBatchDoesWMore
import Derived.ProofKit
import Derived.OpenShut
import Derived.ChangeSame
import Derived.ChangeOld
import Derived.Deep.Slices
import Derived.Deep.Fields
import Derived.Test.YtfigbjjaffkidaaRows
import Derived.WalkKit
import Derived.ShutString
import Derived.Below
import Derived.SizedLaws
import Derived.Test.YtfigbjjaffkidaaXBatchDoesa
import Derived.Test.YtfigbjjaffkidaaXBatchDoesb
import Derived.Test.YtfigbjjaffkidaaXBatchDoesc
set_option linter.unusedVariables false
set_option linter.unusedSimpArgs false
namespace Go.Proofs.Ytfigbjjaffkidaa.P
open Go.RowKit Go.Proofs.YtfigbjjaffkidaaW.PrintWords Go.Proofs.YtfigbjjaffkidaaW.PrintLast Go.Proofs.YtfigbjjaffkidaaW.PrintMore
open Go.Proofs.YtfigbjjaffkidaaW.PrintWords renaming below_alloc → YA, pw_below_drewN → YB, below_drew1 → YC, below_step → YD, below_size → YE, blk_drewN → YF, blk_drew → YG, blk_alloc → YH, blk_cell → YI, blk_frozen → YJ, blk_below → YK
open Go.Proofs.YtfigbjjaffkidaaW.PrintWords.Aside0 renaming mk → YL
open List renaming map_toArray → YM, length_take → YN, length_drop → YO
open Go.Proofs.YtfigbjjaffkidaaW.PrintWords.Kd renaming R_alloc → YP, R_drewN → YQ, R_drew → YR
attribute [local go_sem] max2_int min2_int max_two min_two max_three min_three max_four min_four   -- for this text's walks alone
mutual
def thalwegref04_Bytes.j0 : Nat → List Int → Bool → Int → Int → Bool → Int → Int → Int → Int → Int → Int → Int → Int → Int → Option (List Int × Int)
  | 0, _, _, _, _, _, _, _, _, _, _, _, _, _, _ => none
  | k + 1, x4, x24, x277000, x277001, x277002, x277003, x277004, x277005, x277006, x277007, x277008, x277009, x277010, x277011 => if x24 = true then ((thalwegref02_Bytes.f k x277002 x277003 x277004 x277005 x277006 x277007).bind fun bt281 => (if x4.length + bt281.1.length < 140737488355328 then (thalwegref04_Bytes.j1 k (x4 ++ bt281.1) x277000 x277001 x277002 x277003 x277004 x277005 x277006 x277007 x277008 x277009 x277010 x277011) else (none))) else (thalwegref04_Bytes.j1 k x4 x277000 x277001 x277002 x277003 x277004 x277005 x277006 x277007 x277008 x277009 x277010 x277011)
def thalwegref04_Bytes.j1 : Nat → List Int → Int → Int → Bool → Int → Int → Int → Int → Int → Int → Int → Int → Int → Option (List Int × Int)
  | 0, _, _, _, _, _, _, _, _, _, _, _, _, _ => none
  | k + 1, x4, x277000, x277001, x277002, x277003, x277004, x277005, x277006, x277007, x277008, x277009, x277010, x277011 => if x277000 = 3 then ((thalwegref01_Int.f k x277008).bind fun t288 => (if x4.length + t288.length < 140737488355328 then ((some (x4 ++ t288 : List Int)).bind fun y291 => ((some (([(x277009) % 256, (x277010) % 256] : List Int) : List Int)).bind fun y294 => (if y291.length + y294.length < 140737488355328 then (if x277000 = 4 then (none) else (some ((y291 ++ y294), 0))) else (none)))) else (none))) else (if x277000 = 4 then ((some (([(wrap64 (Int.tdiv x277011 256)) % 256, (Int.tmod x277011 256) % 256] : List Int) : List Int)).bind fun y300 => (if x4.length + y300.length < 140737488355328 then (some ((x4 ++ y300), 0)) else (none))) else (some (x4, 0)))
end
def thalwegref04_Bytes.f (k : Nat) (a0_0 : Int) (a0_1 : Int) (a0_2 : Bool) (a0_3 : Int) (a0_4 : Int) (a0_5 : Int) (a0_6 : Int) (a0_7 : Int) (a0_8 : Int) (a0_9 : Int) (a0_10 : Int) (a0_11 : Int) : Option (List Int × Int) := (thalwegref04_Right.f k a0_0 a0_1 a0_2 a0_3 a0_4 a0_5 a0_6 a0_7 a0_8 a0_9 a0_10 a0_11).bind fun t277 => (if t277 = true then ((some (([(a0_0) % 256, (a0_1) % 256] : List Int) : List Int)).bind fun y278 => (if a0_0 = 2 then (thalwegref04_Bytes.j0 k y278 true a0_0 a0_1 a0_2 a0_3 a0_4 a0_5 a0_6 a0_7 a0_8 a0_9 a0_10 a0_11) else (thalwegref04_Bytes.j0 k y278 (a0_0 == 4) a0_0 a0_1 a0_2 a0_3 a0_4 a0_5 a0_6 a0_7 a0_8 a0_9 a0_10 a0_11))) else (some (([] : List Int), 1)))
theorem thalwegref04_Bytes.mono_l : ∀ k, (∀ y0 y1 y2 y3 y4 y5 y6 y7 y8 y9 y10 y11 y12 y13, LeO (thalwegref04_Bytes.j0 k y0 y1 y2 y3 y4 y5 y6 y7 y8 y9 y10 y11 y12 y13) (thalwegref04_Bytes.j0 (k + 1) y0 y1 y2 y3 y4 y5 y6 y7 y8 y9 y10 y11 y12 y13)) ∧ (∀ y0 y1 y2 y3 y4 y5 y6 y7 y8 y9 y10 y11 y12, LeO (thalwegref04_Bytes.j1 k y0 y1 y2 y3 y4 y5 y6 y7 y8 y9 y10 y11 y12) (thalwegref04_Bytes.j1 (k + 1) y0 y1 y2 y3 y4 y5 y6 y7 y8 y9 y10 y11 y12))
  | 0 => ⟨fun _ _ _ _ _ _ _ _ _ _ _ _ _ _ r h => by simp [thalwegref04_Bytes.j0] at h, fun _ _ _ _ _ _ _ _ _ _ _ _ _ r h => by simp [thalwegref04_Bytes.j1] at h⟩
  | k + 1 => by
    obtain ⟨ih0, ih1⟩ := thalwegref04_Bytes.mono_l k
    refine ⟨?_, ?_⟩
    · intro y0 y1 y2 y3 y4 y5 y6 y7 y8 y9 y10 y11 y12 y13
      unfold thalwegref04_Bytes.j0
      repeat' first
      | (with_reducible exact ih0 _ _ _ _ _ _ _ _ _ _ _ _ _ _)
      | (with_reducible exact ih1 _ _ _ _ _ _ _ _ _ _ _ _ _)
      | (with_reducible exact thalwegref01_Int.mono _ _)
      | (with_reducible exact thalwegref02_Bytes.mono _ _ _ _ _ _ _)
      | (with_reducible exact thalwegref04_Right.mono _ _ _ _ _ _ _ _ _ _ _ _ _)
      | (with_reducible exact LeO.refl _)
      | (with_reducible exact LeO.none _)
      | (with_reducible refine LeO.ite ?_ ?_)
      | (with_reducible refine LeO.bind ?_ (fun _ => ?_))
      | exact ih0 _ _ _ _ _ _ _ _ _ _ _ _ _ _
      | exact ih1 _ _ _ _ _ _ _ _ _ _ _ _ _
      | exact thalwegref01_Int.mono _ _
      | exact thalwegref02_Bytes.mono _ _ _ _ _ _ _
      | exact thalwegref04_Right.mono _ _ _ _ _ _ _ _ _ _ _ _ _
      | exact LeO.none _
      | refine LeO.ite ?_ ?_
      | refine LeO.bind ?_ (fun _ => ?_)
    intro y0 y1 y2 y3 y4 y5 y6 y7 y8 y9 y10 y11 y12
    unfold thalwegref04_Bytes.j1
    repeat' first
    | (with_reducible exact ih0 _ _ _ _ _ _ _ _ _ _ _ _ _ _)
    | (with_reducible exact ih1 _ _ _ _ _ _ _ _ _ _ _ _ _)
    | (with_reducible exact thalwegref01_Int.mono _ _)
    | (with_reducible exact thalwegref02_Bytes.mono _ _ _ _ _ _ _)
    | (with_reducible exact thalwegref04_Right.mono _ _ _ _ _ _ _ _ _ _ _ _ _)
    | (with_reducible exact LeO.refl _)
    | (with_reducible exact LeO.none _)
    | (with_reducible refine LeO.ite ?_ ?_)
    | (with_reducible refine LeO.bind ?_ (fun _ => ?_))
    | exact ih0 _ _ _ _ _ _ _ _ _ _ _ _ _ _
    | exact ih1 _ _ _ _ _ _ _ _ _ _ _ _ _
    | exact thalwegref01_Int.mono _ _
    | exact thalwegref02_Bytes.mono _ _ _ _ _ _ _
    | exact thalwegref04_Right.mono _ _ _ _ _ _ _ _ _ _ _ _ _
    | exact LeO.none _
    | refine LeO.ite ?_ ?_
    | refine LeO.bind ?_ (fun _ => ?_)
theorem thalwegref04_Bytes.mono : ∀ a0 a1 a2 a3 a4 a5 a6 a7 a8 a9 a10 a11 k, LeO (thalwegref04_Bytes.f k a0 a1 a2 a3 a4 a5 a6 a7 a8 a9 a10 a11) (thalwegref04_Bytes.f (k + 1) a0 a1 a2 a3 a4 a5 a6 a7 a8 a9 a10 a11) := by
  intro a0 a1 a2 a3 a4 a5 a6 a7 a8 a9 a10 a11 k
  obtain ⟨ih0, ih1⟩ := thalwegref04_Bytes.mono_l k
  unfold thalwegref04_Bytes.f
  repeat' first
      | (with_reducible exact ih0 _ _ _ _ _ _ _ _ _ _ _ _ _ _)
      | (with_reducible exact ih1 _ _ _ _ _ _ _ _ _ _ _ _ _)
      | (with_reducible exact thalwegref01_Int.mono _ _)
      | (with_reducible exact thalwegref02_Bytes.mono _ _ _ _ _ _ _)
      | (with_reducible exact thalwegref04_Right.mono _ _ _ _ _ _ _ _ _ _ _ _ _)
      | (with_reducible exact LeO.refl _)
      | (with_reducible exact LeO.none _)
      | (with_reducible refine LeO.ite ?_ ?_)
      | (with_reducible refine LeO.bind ?_ (fun _ => ?_))
      | exact ih0 _ _ _ _ _ _ _ _ _ _ _ _ _ _
      | exact ih1 _ _ _ _ _ _ _ _ _ _ _ _ _
      | exact thalwegref01_Int.mono _ _
      | exact thalwegref02_Bytes.mono _ _ _ _ _ _ _
      | exact thalwegref04_Right.mono _ _ _ _ _ _ _ _ _ _ _ _ _
      | exact LeO.none _
      | refine LeO.ite ?_ ?_
      | refine LeO.bind ?_ (fun _ => ?_)
set_option maxHeartbeats 8000000 in
set_option maxRecDepth 100000 in
theorem thalwegref04_Bytes.calls (k : Nat) (a0_0 : Int) (a0_1 : Int) (a0_2 : Bool) (a0_3 : Int) (a0_4 : Int) (a0_5 : Int) (a0_6 : Int) (a0_7 : Int) (a0_8 : Int) (a0_9 : Int) (a0_10 : Int) (a0_11 : Int) (r1 : List Int) (r2 : Int) (w : World) (h : thalwegref04_Bytes.f k a0_0 a0_1 a0_2 a0_3 a0_4 a0_5 a0_6 a0_7 a0_8 a0_9 a0_10 a0_11 = some (r1, r2)) :
    Calls Try.prog 24 #[.agg #[.int .i64 a0_0, .int .i64 a0_1, .bool a0_2, .int .i64 a0_3, .int .i64 a0_4, .int .i64 a0_5, .int .i64 a0_6, .int .i64 a0_7, .int .i64 a0_8, .int .i64 a0_9, .int .i64 a0_10, .int .i64 a0_11]] w fun e w' => ∃ v0_ : Value, e = .returned (.tuple #[v0_, .int .i64 r2]) ∧ Kd.R (Kd.int .u8) 5 w' w.heap.size (fun _ => True) v0_ r1 ∧ Below w.heap.size w w' := by
  have hu45 := Try.underlying45
  have hu41 := Try.underlying41
  have HB := YL (Below.refl w.heap.size w)
  have H : ((thalwegref04_Right.f k a0_0 a0_1 a0_2 a0_3 a0_4 a0_5 a0_6 a0_7 a0_8 a0_9 a0_10 a0_11).bind fun t277 => (if t277 = true then ((some (([(a0_0) % 256, (a0_1) % 256] : List Int) : List Int)).bind fun y278 => (if a0_0 = 2 then (thalwegref04_Bytes.j0 k y278 true a0_0 a0_1 a0_2 a0_3 a0_4 a0_5 a0_6 a0_7 a0_8 a0_9 a0_10 a0_11) else (thalwegref04_Bytes.j0 k y278 (a0_0 == 4) a0_0 a0_1 a0_2 a0_3 a0_4 a0_5 a0_6 a0_7 a0_8 a0_9 a0_10 a0_11))) else (some (([] : List Int), 1)))) = some (r1, r2) := h
  clear h; replace H := Option.bind_eq_some_iff.mp H; obtain ⟨t277, A20, H⟩ := H
  replace H : (if t277 = true then ((some (([(a0_0) % 256, (a0_1) % 256] : List Int) : List Int)).bind fun y278 => (if a0_0 = 2 then (thalwegref04_Bytes.j0 k y278 true a0_0 a0_1 a0_2 a0_3 a0_4 a0_5 a0_6 a0_7 a0_8 a0_9 a0_10 a0_11) else (thalwegref04_Bytes.j0 k y278 (a0_0 == 4) a0_0 a0_1 a0_2 a0_3 a0_4 a0_5 a0_6 a0_7 a0_8 a0_9 a0_10 a0_11))) else (some (([] : List Int), 1))) = some (r1, r2) := H
  have A2 := YL A20; clear A20
  by_cases c3 : t277 = true
  · subst c3
    have H1 : ((some (([(a0_0) % 256, (a0_1) % 256] : List Int) : List Int)).bind fun y278 => (if a0_0 = 2 then (thalwegref04_Bytes.j0 k y278 true a0_0 a0_1 a0_2 a0_3 a0_4 a0_5 a0_6 a0_7 a0_8 a0_9 a0_10 a0_11) else (thalwegref04_Bytes.j0 k y278 (a0_0 == 4) a0_0 a0_1 a0_2 a0_3 a0_4 a0_5 a0_6 a0_7 a0_8 a0_9 a0_10 a0_11))) = some (r1, r2) := by rw [if_pos rfl] at H; exact H
    clear H
    have H := H1
    clear H1
    obtain ⟨y278, hy278⟩ : ∃ y_ : List Int, y_ = (([(a0_0) % 256, (a0_1) % 256] : List Int)) := ⟨_, rfl⟩
    replace H : (if a0_0 = 2 then (thalwegref04_Bytes.j0 k y278 true a0_0 a0_1 a0_2 a0_3 a0_4 a0_5 a0_6 a0_7 a0_8 a0_9 a0_10 a0_11) else (thalwegref04_Bytes.j0 k y278 (a0_0 == 4) a0_0 a0_1 a0_2 a0_3 a0_4 a0_5 a0_6 a0_7 a0_8 a0_9 a0_10 a0_11)) = some (r1, r2) := by first | (rw [hy278]; with_reducible exact H) | (have H2_ := (Option.bind_some _ _).symm.trans H; rw [hy278]; with_reducible exact H2_) | (have H2_ := (Option.bind_some _ _).symm.trans H; with_reducible exact H2_) | with_reducible exact H | (rw [hy278]; exact H) | exact H
    have Ny278 := YL hy278; clear hy278; have HC4 := YL H; clear H
    go_enter Try.func24, Try.ntmps24
    go_upto_region 4 with (first | ((with_reducible refine gate_dst (N := 1) rfl ?_); refine box_event ?hg (N := 1) ?hd (cs := #[.int .i64 a0_0, .int .i64 a0_1, .bool a0_2, .int .i64 a0_3, .int .i64 a0_4, .int .i64 a0_5, .int .i64 a0_6, .int .i64 a0_7, .int .i64 a0_8, .int .i64 a0_9, .int .i64 a0_10, .int .i64 a0_11]) (t := 45) ?hr ?_; (case hd => rfl); (case hg => rfl); (case hr => first | (go_simp; done) | (go_simp; rfl)); intro gb276 hg w5 hbox hb; have n0_ := YL (YD (by repeat (first | (with_reducible first | exact HB.out | apply YA | apply YB | apply YC) | exact HB.out)) hb); have n1_ := YL (hbox); have n2_ := YL ((by rw [hg]; exact (YE (by repeat (first | (with_reducible first | exact HB.out | apply YA | apply YB | apply YC) | exact HB.out))) : w.heap.size ≤ gb276)); have n3_ := YL ((by rw [hg]; exact (YE (by repeat (first | (with_reducible first | exact HB.out | apply YA | apply YB | apply YC) | exact HB.out))) : w.heap.size ≤ gb276)); clear HB; have HB := n0_; have BK276 := n1_; have GW276 := n2_; have GE276 := n3_; clear n0_ n1_ n2_ n3_; clear hb hbox hg; have hcz6_0 : w5.cell? ⟨gb276, 0, none⟩ = some (.int .i64 a0_0) := (YI BK276.out 0).trans rfl; have hcz6_1 : w5.cell? ⟨gb276, 1, none⟩ = some (.int .i64 a0_1) := (YI BK276.out 1).trans rfl; have hcz6_2 : w5.cell? ⟨gb276, 2, none⟩ = some (.bool a0_2) := (YI BK276.out 2).trans rfl; have hcz6_3 : w5.cell? ⟨gb276, 3, none⟩ = some (.int .i64 a0_3) := (YI BK276.out 3).trans rfl; have hcz6_4 : w5.cell? ⟨gb276, 4, none⟩ = some (.int .i64 a0_4) := (YI BK276.out 4).trans rfl; have hcz6_5 : w5.cell? ⟨gb276, 5, none⟩ = some (.int .i64 a0_5) := (YI BK276.out 5).trans rfl; have hcz6_6 : w5.cell? ⟨gb276, 6, none⟩ = some (.int .i64 a0_6) := (YI BK276.out 6).trans rfl; have hcz6_7 : w5.cell? ⟨gb276, 7, none⟩ = some (.int .i64 a0_7) := (YI BK276.out 7).trans rfl; have hcz6_8 : w5.cell? ⟨gb276, 8, none⟩ = some (.int .i64 a0_8) := (YI BK276.out 8).trans rfl; have hcz6_9 : w5.cell? ⟨gb276, 9, none⟩ = some (.int .i64 a0_9) := (YI BK276.out 9).trans rfl; have hcz6_10 : w5.cell? ⟨gb276, 10, none⟩ = some (.int .i64 a0_10) := (YI BK276.out 10).trans rfl; have hcz6_11 : w5.cell? ⟨gb276, 11, none⟩ = some (.int .i64 a0_11) := (YI BK276.out 11).trans rfl; have hfz6_0 := YJ BK276.out 0; have hfz6_1 := YJ BK276.out 1; have hfz6_2 := YJ BK276.out 2; have hfz6_3 := YJ BK276.out 3; have hfz6_4 := YJ BK276.out 4; have hfz6_5 := YJ BK276.out 5; have hfz6_6 := YJ BK276.out 6; have hfz6_7 := YJ BK276.out 7; have hfz6_8 := YJ BK276.out 8; have hfz6_9 := YJ BK276.out 9; have hfz6_10 := YJ BK276.out 10; have hfz6_11 := YJ BK276.out 11) | ((with_reducible refine gate_callee (f := 37) rfl ?_); refine goesL_ (some 8) rfl rfl Try.func37 (by kernel_rfl) rfl #[.agg #[.int .i64 a0_0, .int .i64 a0_1, .bool a0_2, .int .i64 a0_3, .int .i64 a0_4, .int .i64 a0_5, .int .i64 a0_6, .int .i64 a0_7, .int .i64 a0_8, .int .i64 a0_9, .int .i64 a0_10, .int .i64 a0_11]] rfl (by (try simp only [YM, List.map_cons, List.map_nil]); first | done | rfl | (simp only [YO, YN]; rfl)) ?_; (with_reducible refine (thalwegref04_Right.calls k a0_0 a0_1 a0_2 a0_3 a0_4 a0_5 a0_6 a0_7 a0_8 a0_9 a0_10 a0_11 true _ A2.out).mono ?_); rintro e w7 ⟨rfl, hb⟩; refine ⟨_, rfl, ?_⟩; have n0_ := YL (YK (g := gb276) (o := .cells #[.int .i64 a0_0, .int .i64 a0_1, .bool a0_2, .int .i64 a0_3, .int .i64 a0_4, .int .i64 a0_5, .int .i64 a0_6, .int .i64 a0_7, .int .i64 a0_8, .int .i64 a0_9, .int .i64 a0_10, .int .i64 a0_11] 45 (0, 0)) (by (with_reducible repeat (first | refine YF ?_ _ | refine YG ?_ | refine YH ?_ _)); exact BK276.out) hb); have n1_ := YL (YD (by repeat (first | (with_reducible first | exact HB.out | apply YA | apply YB | apply YC | refine below_set ?_ GE276.out) | exact HB.out)) hb); clear BK276; clear HB; have BK276 := n0_; have HB := n1_; clear n0_ n1_; (try clear hb); (try clear hb2); (try clear hk); (try clear hi); have hcz8_0 : w7.cell? ⟨gb276, 0, none⟩ = some (.int .i64 a0_0) := (YI BK276.out 0).trans rfl; have hcz8_1 : w7.cell? ⟨gb276, 1, none⟩ = some (.int .i64 a0_1) := (YI BK276.out 1).trans rfl; have hcz8_2 : w7.cell? ⟨gb276, 2, none⟩ = some (.bool a0_2) := (YI BK276.out 2).trans rfl; have hcz8_3 : w7.cell? ⟨gb276, 3, none⟩ = some (.int .i64 a0_3) := (YI BK276.out 3).trans rfl; have hcz8_4 : w7.cell? ⟨gb276, 4, none⟩ = some (.int .i64 a0_4) := (YI BK276.out 4).trans rfl; have hcz8_5 : w7.cell? ⟨gb276, 5, none⟩ = some (.int .i64 a0_5) := (YI BK276.out 5).trans rfl; have hcz8_6 : w7.cell? ⟨gb276, 6, none⟩ = some (.int .i64 a0_6) := (YI BK276.out 6).trans rfl; have hcz8_7 : w7.cell? ⟨gb276, 7, none⟩ = some (.int .i64 a0_7) := (YI BK276.out 7).trans rfl; have hcz8_8 : w7.cell? ⟨gb276, 8, none⟩ = some (.int .i64 a0_8) := (YI BK276.out 8).trans rfl; have hcz8_9 : w7.cell? ⟨gb276, 9, none⟩ = some (.int .i64 a0_9) := (YI BK276.out 9).trans rfl; have hcz8_10 : w7.cell? ⟨gb276, 10, none⟩ = some (.int .i64 a0_10) := (YI BK276.out 10).trans rfl; have hcz8_11 : w7.cell? ⟨gb276, 11, none⟩ = some (.int .i64 a0_11) := (YI BK276.out 11).trans rfl; have hfz8_0 := YJ BK276.out 0; have hfz8_1 := YJ BK276.out 1; have hfz8_2 := YJ BK276.out 2; have hfz8_3 := YJ BK276.out 3; have hfz8_4 := YJ BK276.out 4; have hfz8_5 := YJ BK276.out 5; have hfz8_6 := YJ BK276.out 6; have hfz8_7 := YJ BK276.out 7; have hfz8_8 := YJ BK276.out 8; have hfz8_9 := YJ BK276.out 9; have hfz8_10 := YJ BK276.out 10; have hfz8_11 := YJ BK276.out 11) | ((with_reducible refine gate_dst (N := 16) rfl ?_); refine Kd.R_lit (Kd.int .u8) _ 5 ?hg (N := 16) ?hd (xs := ([(a0_0) % 256, (a0_1) % 256] : List Int)) (inner := [.int .u8 ((a0_0) % 256), .int .u8 ((a0_1) % 256)]) (ok := fun _ => True) (okp := fun _ => True) ?hr ?hp (fun _ hk => hk) trivial (Below.refl _ _) (Nat.le_refl _) (by simp) ?_; (case hd => rfl); (case hg => rfl); (case hr => first | (go_simp; done) | (go_simp; rfl)); (case hp => exact (Reps.one (show Kd.M (Kd.int .u8) _ _ _ ((a0_0) % 256) [.int .u8 ((a0_0) % 256)] from rfl) (Reps.one (show Kd.M (Kd.int .u8) _ _ _ ((a0_1) % 256) [.int .u8 ((a0_1) % 256)] from rfl) (Reps.none _ _)))); intro v279 w9 ho10 hb hg_ hnew_; clear hg_ hnew_; (first | rw [← Ny278.out] at ho10 | (simp only [Int.reduceToNat] at ho10; rw [← Ny278.out] at ho10)); have n0_ := YL (Kd.R_lower ho10 (YE (by repeat (first | (with_reducible first | exact HB.out | apply YA | apply YB | apply YC | refine below_set ?_ GE276.out) | exact HB.out)))); have n1_ := YL (YK (g := gb276) (o := .cells #[.int .i64 a0_0, .int .i64 a0_1, .bool a0_2, .int .i64 a0_3, .int .i64 a0_4, .int .i64 a0_5, .int .i64 a0_6, .int .i64 a0_7, .int .i64 a0_8, .int .i64 a0_9, .int .i64 a0_10, .int .i64 a0_11] 45 (0, 0)) (by (with_reducible repeat (first | refine YF ?_ _ | refine YG ?_ | refine YH ?_ _)); exact BK276.out) hb); have n2_ := YL (YD (by repeat (first | (with_reducible first | exact HB.out | apply YA | apply YB | apply YC | refine below_set ?_ GE276.out) | exact HB.out)) hb); clear BK276; clear HB; have HO280 := n0_; have BK276 := n1_; have HB := n2_; clear n0_ n1_ n2_; clear hb ho10))
    (try simp only [Act.put, List.setIfInBounds_toArray, List.set_cons_zero, List.set_cons_succ])
    go_cut [24] (fun v24 wc => ∃ (kq : Nat) (x24_3 : Bool), v24 = .bool x24_3 ∧ Aside0 (thalwegref04_Bytes.j0 kq y278 x24_3 a0_0 a0_1 a0_2 a0_3 a0_4 a0_5 a0_6 a0_7 a0_8 a0_9 a0_10 a0_11 = some (r1, r2)) ∧ Aside0 (kq ≤ k) ∧ Aside0 (Kd.R (Kd.int .u8) 5 wc w.heap.size (fun _ => True) v279 y278) ∧ Aside0 (wc.heap[gb276]? = some (.cells #[.int .i64 a0_0, .int .i64 a0_1, .bool a0_2, .int .i64 a0_3, .int .i64 a0_4, .int .i64 a0_5, .int .i64 a0_6, .int .i64 a0_7, .int .i64 a0_8, .int .i64 a0_9, .int .i64 a0_10, .int .i64 a0_11] 45 (0, 0))) ∧ Aside0 (Below w.heap.size w wc))
    case first =>
      have H := HC4.out
      clear HC4
      by_cases c11 : a0_0 = 2
      · rw [if_pos c11] at H
        have c11b0 : (a0_0 == 2) = true := beq_iff_eq.mpr c11
        have c11b1 : (a0_0 != 2) = false := bne_eq_false_iff_eq.mpr c11
        clear c11
        (first | rw [c11b0] | (simp only [i64_w, i32_w]; rw [c11b0]) | skip)
        have H' := YL H
        clear H
        have hcz12_0 : w9.cell? ⟨gb276, 0, none⟩ = some (.int .i64 a0_0) := (YI BK276.out 0).trans rfl
        have hcz12_1 : w9.cell? ⟨gb276, 1, none⟩ = some (.int .i64 a0_1) := (YI BK276.out 1).trans rfl
        have hcz12_2 : w9.cell? ⟨gb276, 2, none⟩ = some (.bool a0_2) := (YI BK276.out 2).trans rfl
        have hcz12_3 : w9.cell? ⟨gb276, 3, none⟩ = some (.int .i64 a0_3) := (YI BK276.out 3).trans rfl
        have hcz12_4 : w9.cell? ⟨gb276, 4, none⟩ = some (.int .i64 a0_4) := (YI BK276.out 4).trans rfl
        have hcz12_5 : w9.cell? ⟨gb276, 5, none⟩ = some (.int .i64 a0_5) := (YI BK276.out 5).trans rfl
        have hcz12_6 : w9.cell? ⟨gb276, 6, none⟩ = some (.int .i64 a0_6) := (YI BK276.out 6).trans rfl
        have hcz12_7 : w9.cell? ⟨gb276, 7, none⟩ = some (.int .i64 a0_7) := (YI BK276.out 7).trans rfl
        have hcz12_8 : w9.cell? ⟨gb276, 8, none⟩ = some (.int .i64 a0_8) := (YI BK276.out 8).trans rfl
        have hcz12_9 : w9.cell? ⟨gb276, 9, none⟩ = some (.int .i64 a0_9) := (YI BK276.out 9).trans rfl
        have hcz12_10 : w9.cell? ⟨gb276, 10, none⟩ = some (.int .i64 a0_10) := (YI BK276.out 10).trans rfl
        have hcz12_11 : w9.cell? ⟨gb276, 11, none⟩ = some (.int .i64 a0_11) := (YI BK276.out 11).trans rfl
        have hfz12_0 := YJ BK276.out 0
        have hfz12_1 := YJ BK276.out 1
        have hfz12_2 := YJ BK276.out 2
        have hfz12_3 := YJ BK276.out 3
        have hfz12_4 := YJ BK276.out 4
        have hfz12_5 := YJ BK276.out 5
        have hfz12_6 := YJ BK276.out 6
        have hfz12_7 := YJ BK276.out 7
        have hfz12_8 := YJ BK276.out 8
        have hfz12_9 := YJ BK276.out 9
        have hfz12_10 := YJ BK276.out 10
        have hfz12_11 := YJ BK276.out 11
        go_wp2
        go_meet
        case rel => exact ⟨_, (true), (by first | rfl | (simp; done) | (simp [*]; done)), H', ⟨by first | omega | exact Nat.le_refl _⟩, ⟨by (with_reducible repeat (first | apply YP | apply YQ | apply YR)); exact HO280.out⟩, ⟨by (with_reducible repeat (first | refine YF ?_ _ | refine YG ?_ | refine YH ?_ _)); exact BK276.out⟩, ⟨by repeat (first | (with_reducible first | exact HB.out | apply YA | apply YB | apply YC | refine below_set ?_ GE276.out) | exact HB.out)⟩⟩
      rw [if_neg c11] at H
      have c11b0 : (a0_0 == 2) = false := beq_eq_false_iff_ne.mpr c11
      have c11b1 : (a0_0 != 2) = true := bne_iff_ne.mpr c11
      (first | rw [c11b0] | (simp only [i64_w, i32_w]; rw [c11b0]) | skip)
      have H' := YL H
      clear H
      have hcz13_0 : w9.cell? ⟨gb276, 0, none⟩ = some (.int .i64 a0_0) := (YI BK276.out 0).trans rfl
      have hcz13_1 : w9.cell? ⟨gb276, 1, none⟩ = some (.int .i64 a0_1) := (YI BK276.out 1).trans rfl
      have hcz13_2 : w9.cell? ⟨gb276, 2, none⟩ = some (.bool a0_2) := (YI BK276.out 2).trans rfl
      have hcz13_3 : w9.cell? ⟨gb276, 3, none⟩ = some (.int .i64 a0_3) := (YI BK276.out 3).trans rfl
      have hcz13_4 : w9.cell? ⟨gb276, 4, none⟩ = some (.int .i64 a0_4) := (YI BK276.out 4).trans rfl
      have hcz13_5 : w9.cell? ⟨gb276, 5, none⟩ = some (.int .i64 a0_5) := (YI BK276.out 5).trans rfl
      have hcz13_6 : w9.cell? ⟨gb276, 6, none⟩ = some (.int .i64 a0_6) := (YI BK276.out 6).trans rfl
      have hcz13_7 : w9.cell? ⟨gb276, 7, none⟩ = some (.int .i64 a0_7) := (YI BK276.out 7).trans rfl
      have hcz13_8 : w9.cell? ⟨gb276, 8, none⟩ = some (.int .i64 a0_8) := (YI BK276.out 8).trans rfl
      have hcz13_9 : w9.cell? ⟨gb276, 9, none⟩ = some (.int .i64 a0_9) := (YI BK276.out 9).trans rfl
      have hcz13_10 : w9.cell? ⟨gb276, 10, none⟩ = some (.int .i64 a0_10) := (YI BK276.out 10).trans rfl
      have hcz13_11 : w9.cell? ⟨gb276, 11, none⟩ = some (.int .i64 a0_11) := (YI BK276.out 11).trans rfl
      have hfz13_0 := YJ BK276.out 0
      have hfz13_1 := YJ BK276.out 1
      have hfz13_2 := YJ BK276.out 2
      have hfz13_3 := YJ BK276.out 3
      have hfz13_4 := YJ BK276.out 4
      have hfz13_5 := YJ BK276.out 5
      have hfz13_6 := YJ BK276.out 6
      have hfz13_7 := YJ BK276.out 7
      have hfz13_8 := YJ BK276.out 8
      have hfz13_9 := YJ BK276.out 9
      have hfz13_10 := YJ BK276.out 10
      have hfz13_11 := YJ BK276.out 11
      go_wp2
      go_meet
      case rel => exact ⟨_, ((a0_0 == 4)), (by first | rfl | (simp; done) | (simp [*]; done)), H', ⟨by first | omega | exact Nat.le_refl _⟩, ⟨by (with_reducible repeat (first | apply YP | apply YQ | apply YR)); exact HO280.out⟩, ⟨by (with_reducible repeat (first | refine YF ?_ _ | refine YG ?_ | refine YH ?_ _)); exact BK276.out⟩, ⟨by repeat (first | (with_reducible first | exact HB.out | apply YA | apply YB | apply YC | refine below_set ?_ GE276.out) | exact HB.out)⟩⟩
    case rest =>
      clear HC4
      try clear c1
      try clear c2
      try clear p2
      try clear c3
      try clear c11
      try clear c11b0
      try clear c11b1
      try clear hcz12_0
      try clear hcz12_1
      try clear hcz12_10
      try clear hcz12_11
      try clear hcz12_2
      try clear hcz12_3
      try clear hcz12_4
      try clear hcz12_5
      try clear hcz12_6
      try clear hcz12_7
      try clear hcz12_8
      try clear hcz12_9
      try clear hcz13_0
      try clear hcz13_1
      try clear hcz13_10
      try clear hcz13_11
      try clear hcz13_2
      try clear hcz13_3
      try clear hcz13_4
      try clear hcz13_5
      try clear hcz13_6
      try clear hcz13_7
      try clear hcz13_8
      try clear hcz13_9
      try clear hcz6_0
      try clear hcz6_1
      try clear hcz6_10
      try clear hcz6_11
      try clear hcz6_2
      try clear hcz6_3
      try clear hcz6_4
      try clear hcz6_5
      try clear hcz6_6
      try clear hcz6_7
      try clear hcz6_8
      try clear hcz6_9
      try clear hcz8_0
      try clear hcz8_1
      try clear hcz8_10
      try clear hcz8_11
      try clear hcz8_2
      try clear hcz8_3
      try clear hcz8_4
      try clear hcz8_5
      try clear hcz8_6
      try clear hcz8_7
      try clear hcz8_8
      try clear hcz8_9
      try clear hfz12_0
      try clear hfz12_1
      try clear hfz12_10
      try clear hfz12_11
      try clear hfz12_2
      try clear hfz12_3
      try clear hfz12_4
      try clear hfz12_5
      try clear hfz12_6
      try clear hfz12_7
      try clear hfz12_8
      try clear hfz12_9
      try clear hfz13_0
      try clear hfz13_1
      try clear hfz13_10
      try clear hfz13_11
      try clear hfz13_2
      try clear hfz13_3
      try clear hfz13_4
      try clear hfz13_5
      try clear hfz13_6
      try clear hfz13_7
      try clear hfz13_8
      try clear hfz13_9
      try clear hfz6_0
      try clear hfz6_1
      try clear hfz6_10
      try clear hfz6_11
      try clear hfz6_2
      try clear hfz6_3
      try clear hfz6_4
      try clear hfz6_5
      try clear hfz6_6
      try clear hfz6_7
      try clear hfz6_8
      try clear hfz6_9
      try clear hfz8_0
      try clear hfz8_1
      try clear hfz8_10
      try clear hfz8_11
      try clear hfz8_2
      try clear hfz8_3
      try clear hfz8_4
      try clear hfz8_5
      try clear hfz8_6
      try clear hfz8_7
      try clear hfz8_8
      try clear hfz8_9
      obtain ⟨kq, x24_3, rfl, HA, HJ3, HO_4, BK276, HB⟩ := hcut
      cases kq with
      | zero => exact absurd HA.out (by simp [thalwegref04_Bytes.j0])
      | succ kj3 =>
        have H := HA.out
        clear HA
        simp only [thalwegref04_Bytes.j0] at H
        have HC14 := YL H; clear H
        go_upto_if 24 with (fail)
        go_cut [4] (fun v4 wc => ∃ (kq : Nat) (x4_13 : List Int), Aside0 (thalwegref04_Bytes.j1 kq x4_13 a0_0 a0_1 a0_2 a0_3 a0_4 a0_5 a0_6 a0_7 a0_8 a0_9 a0_10 a0_11 = some (r1, r2)) ∧ Aside0 (kq ≤ kj3) ∧ Aside0 (Kd.R (Kd.int .u8) 5 wc w.heap.size (fun _ => True) v4 x4_13) ∧ Aside0 (wc.heap[gb276]? = some (.cells #[.int .i64 a0_0, .int .i64 a0_1, .bool a0_2, .int .i64 a0_3, .int .i64 a0_4, .int .i64 a0_5, .int .i64 a0_6, .int .i64 a0_7, .int .i64 a0_8, .int .i64 a0_9, .int .i64 a0_10, .int .i64 a0_11] 45 (0, 0))) ∧ Aside0 (Below w.heap.size w wc))
        case first =>
          have H := HC14.out
          clear HC14
          by_cases c15 : x24_3 = true
          · subst c15
            have H1 : ((thalwegref02_Bytes.f kj3 a0_2 a0_3 a0_4 a0_5 a0_6 a0_7).bind fun bt281 => (if y278.length + bt281.1.length < 140737488355328 then (thalwegref04_Bytes.j1 kj3 (y278 ++ bt281.1) a0_0 a0_1 a0_2 a0_3 a0_4 a0_5 a0_6 a0_7 a0_8 a0_9 a0_10 a0_11) else (none))) = some (r1, r2) := by rw [if_pos rfl] at H; exact H
            clear H
            have H := H1
            clear H1; replace H := Option.bind_eq_some_iff.mp H
            obtain ⟨⟨t281, t284⟩, A160, H⟩ := H
            replace H : (if y278.length + t281.length < 140737488355328 then (thalwegref04_Bytes.j1 kj3 (y278 ++ t281) a0_0 a0_1 a0_2 a0_3 a0_4 a0_5 a0_6 a0_7 a0_8 a0_9 a0_10 a0_11) else (none)) = some (r1, r2) := H
            have A16 := YL A160; clear A160
            by_cases c17 : y278.length + t281.length < 140737488355328
            rotate_left
            · rw [if_neg c17] at H
              exact absurd H (by simp)
            rw [if_pos c17] at H; have LMc17 := YL c17; clear c17
            obtain ⟨y285, hy285⟩ : ∃ y_ : List Int, y_ = (y278 ++ t281) := ⟨_, rfl⟩
            replace H : (thalwegref04_Bytes.j1 kj3 y285 a0_0 a0_1 a0_2 a0_3 a0_4 a0_5 a0_6 a0_7 a0_8 a0_9 a0_10 a0_11) = some (r1, r2) := by first | (rw [hy285]; with_reducible exact H) | (have H2_ := (Option.bind_some _ _).symm.trans H; rw [hy285]; with_reducible exact H2_) | (have H2_ := (Option.bind_some _ _).symm.trans H; with_reducible exact H2_) | with_reducible exact H | (rw [hy285]; exact H) | exact H
            have Ny285 := YL hy285; clear hy285
            have H' := YL H
            clear H
            have hcz18_0 : wc.cell? ⟨gb276, 0, none⟩ = some (.int .i64 a0_0) := (YI BK276.out 0).trans rfl
            have hcz18_1 : wc.cell? ⟨gb276, 1, none⟩ = some (.int .i64 a0_1) := (YI BK276.out 1).trans rfl
            have hcz18_2 : wc.cell? ⟨gb276, 2, none⟩ = some (.bool a0_2) := (YI BK276.out 2).trans rfl
            have hcz18_3 : wc.cell? ⟨gb276, 3, none⟩ = some (.int .i64 a0_3) := (YI BK276.out 3).trans rfl
            have hcz18_4 : wc.cell? ⟨gb276, 4, none⟩ = some (.int .i64 a0_4) := (YI BK276.out 4).trans rfl
            have hcz18_5 : wc.cell? ⟨gb276, 5, none⟩ = some (.int .i64 a0_5) := (YI BK276.out 5).trans rfl
            have hcz18_6 : wc.cell? ⟨gb276, 6, none⟩ = some (.int .i64 a0_6) := (YI BK276.out 6).trans rfl
            have hcz18_7 : wc.cell? ⟨gb276, 7, none⟩ = some (.int .i64 a0_7) := (YI BK276.out 7).trans rfl
            have hcz18_8 : wc.cell? ⟨gb276, 8, none⟩ = some (.int .i64 a0_8) := (YI BK276.out 8).trans rfl
            have hcz18_9 : wc.cell? ⟨gb276, 9, none⟩ = some (.int .i64 a0_9) := (YI BK276.out 9).trans rfl
            have hcz18_10 : wc.cell? ⟨gb276, 10, none⟩ = some (.int .i64 a0_10) := (YI BK276.out 10).trans rfl
            have hcz18_11 : wc.cell? ⟨gb276, 11, none⟩ = some (.int .i64 a0_11) := (YI BK276.out 11).trans rfl
            have hfz18_0 := YJ BK276.out 0
            have hfz18_1 := YJ BK276.out 1
            have hfz18_2 := YJ BK276.out 2
            have hfz18_3 := YJ BK276.out 3
            have hfz18_4 := YJ BK276.out 4
            have hfz18_5 := YJ BK276.out 5
            have hfz18_6 := YJ BK276.out 6
            have hfz18_7 := YJ BK276.out 7
            have hfz18_8 := YJ BK276.out 8
            have hfz18_9 := YJ BK276.out 9
            have hfz18_10 := YJ BK276.out 10
            have hfz18_11 := YJ BK276.out 11
            go_wp2_with (first | ((with_reducible refine gate_callee (f := 38) rfl ?_); refine goesL_ (some 28) rfl rfl Try.func38 (by kernel_rfl) rfl #[.agg #[.bool a0_2, .int .i64 a0_3, .int .i64 a0_4, .int .i64 a0_5, .int .i64 a0_6, .int .i64 a0_7]] rfl (by (try simp only [YM, List.map_cons, List.map_nil]); first | done | rfl | (simp only [YO, YN]; rfl)) ?_; (with_reducible refine (thalwegref02_Bytes.calls kj3 a0_2 a0_3 a0_4 a0_5 a0_6 a0_7 t281 t284 _ A16.out).mono ?_); rintro e w19 ⟨v282, rfl, ho0, hb⟩; refine ⟨_, rfl, ?_⟩; have n0_ := YL (Kd.R_elder' (by (with_reducible repeat (first | apply YP | apply YQ | apply YR)); exact HO_4.out) (Kd.R_base ho0) hb); have n1_ := YL (Kd.R_lower (Kd.R_new' ho0 (Kd.R_lt (by (with_reducible repeat (first | apply YP | apply YQ | apply YR)); exact HO_4.out))) (YE (by repeat (first | (with_reducible first | exact HB.out | apply YA | apply YB | apply YC | refine below_set ?_ GE276.out) | exact HB.out)))); have n2_ := YL (YK (g := gb276) (o := .cells #[.int .i64 a0_0, .int .i64 a0_1, .bool a0_2, .int .i64 a0_3, .int .i64 a0_4, .int .i64 a0_5, .int .i64 a0_6, .int .i64 a0_7, .int .i64 a0_8, .int .i64 a0_9, .int .i64 a0_10, .int .i64 a0_11] 45 (0, 0)) (by (with_reducible repeat (first | refine YF ?_ _ | refine YG ?_ | refine YH ?_ _)); exact BK276.out) hb); have n3_ := YL (YD (by repeat (first | (with_reducible first | exact HB.out | apply YA | apply YB | apply YC | refine below_set ?_ GE276.out) | exact HB.out)) hb); clear HO_4; clear BK276; clear HB; have HO_4 := n0_; have HO283 := n1_; have BK276 := n2_; have HB := n3_; clear n0_ n1_ n2_ n3_; (try clear hb); (try clear hb2); (try clear hk); (try clear hi); (try clear ho0); obtain ⟨Ao21, co21, eo21⟩ := Kd.R_slice HO283.out; subst eo21) | ((with_reducible refine gate_builtin (b := .append) (xs := #[.tmp 31, .tmp 32]) rfl ?_); at_builtin; refine Kd.R_append_rows (Kd.int .u8) (w0 := w) w.heap.size rfl (.tmp 31) (.tmp 32) 26 5 (.int .u8 0) 1 rfl Try.underlying26 info5 rfl (by decide) (by omega) v279 y278 t281 _ _ _ (fun k_ => some k_ ≠ (.slice Ao21 t281.length co21 : Value).ownBlock) (fun _ => False) rfl rfl ?aO ?aR (fun _ _ h => h) (fun _ h => h.elim) ?aF ?aB ?aS ?aL ?_; (case aR => repeat (first | exact (Kd.R_reads' HO283.out).2.2 | (with_reducible refine Kd.C_alloc ?_ _) | (with_reducible refine Kd.C_drewN ?_ _) | (with_reducible refine Kd.C_drew ?_))); (case aB => exact (by repeat (first | (with_reducible first | exact HB.out | apply YA | apply YB | apply YC | refine below_set ?_ GE276.out) | exact HB.out))); (case aF => exact (fun k_ hk => Kd.fresh' (Kd.R_lt (by (with_reducible repeat (first | apply YP | apply YQ | apply YR)); exact HO283.out)) k_ hk)); (case aO => exact (by (with_reducible repeat (first | apply YP | apply YQ | apply YR)); exact Kd.R_mono HO_4.out (fun _ hk => by first | exact hk.2 | exact trivial | (simp [hk]; done) | simp_all))); (case aS => exact (YE (by repeat (first | (with_reducible first | exact HB.out | apply YA | apply YB | apply YC | refine below_set ?_ GE276.out) | exact HB.out)))); (case aL => have := LMc17.out; omega); intro v286 w20 ho hb hg hat; rw [← Ny285.out] at ho; have n0_ := YL (blk_grown (g := gb276) (o := .cells #[.int .i64 a0_0, .int .i64 a0_1, .bool a0_2, .int .i64 a0_3, .int .i64 a0_4, .int .i64 a0_5, .int .i64 a0_6, .int .i64 a0_7, .int .i64 a0_8, .int .i64 a0_9, .int .i64 a0_10, .int .i64 a0_11] 45 (0, 0)) (by (with_reducible repeat (first | refine YF ?_ _ | refine YG ?_ | refine YH ?_ _)); exact BK276.out) hg (Kd.R_ne HO_4.out BK276.out (by decide))); have n1_ := YL (Kd.R_after (ok := (fun _ => True)) (by (with_reducible repeat (first | apply YP | apply YQ | apply YR)); exact HO283.out) hg hat); have n2_ := YL (hb); have n3_ := YL (ho); clear BK276; clear HO283; clear HB; clear HO_4; have BK276 := n0_; have HO283 := n1_; have HB := n2_; have HO287 := n3_; clear n0_ n1_ n2_ n3_; clear ho hb hg hat))
            go_meet
            case rel => exact ⟨_, (y285), H', ⟨by have := HJ3.out; first | omega | exact Nat.le_refl _⟩, ⟨by (with_reducible repeat (first | apply YP | apply YQ | apply YR)); exact Kd.R_mono HO287.out (fun _ hk => trivial)⟩, ⟨by (with_reducible repeat (first | refine YF ?_ _ | refine YG ?_ | refine YH ?_ _)); exact BK276.out⟩, ⟨by repeat (first | (with_reducible first | exact HB.out | apply YA | apply YB | apply YC | refine below_set ?_ GE276.out) | exact HB.out)⟩⟩
          replace c15 := Bool.eq_false_iff.mpr c15
          subst c15
          have H1 : (thalwegref04_Bytes.j1 kj3 y278 a0_0 a0_1 a0_2 a0_3 a0_4 a0_5 a0_6 a0_7 a0_8 a0_9 a0_10 a0_11) = some (r1, r2) := by rw [if_neg (show ¬ (false = true) by decide)] at H; exact H
          clear H
          have H := H1
          clear H1
          have H' := YL H
          clear H
          go_wp2
          go_meet
          case rel => exact ⟨_, (y278), H', ⟨by have := HJ3.out; first | omega | exact Nat.le_refl _⟩, ⟨by (with_reducible repeat (first | apply YP | apply YQ | apply YR)); exact HO_4.out⟩, ⟨by (with_reducible repeat (first | refine YF ?_ _ | refine YG ?_ | refine YH ?_ _)); exact BK276.out⟩, ⟨by repeat (first | (with_reducible first | exact HB.out | apply YA | apply YB | apply YC | refine below_set ?_ GE276.out) | exact HB.out)⟩⟩
        case rest =>
          clear HC14
          try clear c1
          try clear c2
          try clear p2
          try clear c3
          try clear c11
          try clear c11b0
          try clear c11b1
          try clear c15
          try clear c17
          try clear hcz12_0
          try clear hcz12_1
          try clear hcz12_10
          try clear hcz12_11
          try clear hcz12_2
          try clear hcz12_3
          try clear hcz12_4
          try clear hcz12_5
          try clear hcz12_6
          try clear hcz12_7
          try clear hcz12_8
          try clear hcz12_9
          try clear hcz13_0
          try clear hcz13_1
          try clear hcz13_10
          try clear hcz13_11
          try clear hcz13_2
          try clear hcz13_3
          try clear hcz13_4
          try clear hcz13_5
          try clear hcz13_6
          try clear hcz13_7
          try clear hcz13_8
          try clear hcz13_9
          try clear hcz18_0
          try clear hcz18_1
          try clear hcz18_10
          try clear hcz18_11
          try clear hcz18_2
          try clear hcz18_3
          try clear hcz18_4
          try clear hcz18_5
          try clear hcz18_6
          try clear hcz18_7
          try clear hcz18_8
          try clear hcz18_9
          try clear hcz6_0
          try clear hcz6_1
          try clear hcz6_10
          try clear hcz6_11
          try clear hcz6_2
          try clear hcz6_3
          try clear hcz6_4
          try clear hcz6_5
          try clear hcz6_6
          try clear hcz6_7
          try clear hcz6_8
          try clear hcz6_9
          try clear hcz8_0
          try clear hcz8_1
          try clear hcz8_10
          try clear hcz8_11
          try clear hcz8_2
          try clear hcz8_3
          try clear hcz8_4
          try clear hcz8_5
          try clear hcz8_6
          try clear hcz8_7
          try clear hcz8_8
          try clear hcz8_9
          try clear hfz12_0
          try clear hfz12_1
          try clear hfz12_10
          try clear hfz12_11
          try clear hfz12_2
          try clear hfz12_3
          try clear hfz12_4
          try clear hfz12_5
          try clear hfz12_6
          try clear hfz12_7
          try clear hfz12_8
          try clear hfz12_9
          try clear hfz13_0
          try clear hfz13_1
          try clear hfz13_10
          try clear hfz13_11
          try clear hfz13_2
          try clear hfz13_3
          try clear hfz13_4
          try clear hfz13_5
          try clear hfz13_6
          try clear hfz13_7
          try clear hfz13_8
          try clear hfz13_9
          try clear hfz18_0
          try clear hfz18_1
          try clear hfz18_10
          try clear hfz18_11
          try clear hfz18_2
          try clear hfz18_3
          try clear hfz18_4
          try clear hfz18_5
          try clear hfz18_6
          try clear hfz18_7
          try clear hfz18_8
          try clear hfz18_9
          try clear hfz6_0
          try clear hfz6_1
          try clear hfz6_10
          try clear hfz6_11
          try clear hfz6_2
          try clear hfz6_3
          try clear hfz6_4
          try clear hfz6_5
          try clear hfz6_6
          try clear hfz6_7
          try clear hfz6_8
          try clear hfz6_9
          try clear hfz8_0
          try clear hfz8_1
          try clear hfz8_10
          try clear hfz8_11
          try clear hfz8_2
          try clear hfz8_3
          try clear hfz8_4
          try clear hfz8_5
          try clear hfz8_6
          try clear hfz8_7
          try clear hfz8_8
          try clear hfz8_9
          try clear p2
          obtain ⟨kq, x4_13, HA, HJ13, HO_4, BK276, HB⟩ := hcut
          cases kq with
          | zero => exact absurd HA.out (by simp [thalwegref04_Bytes.j1])
          | succ kj13 =>
            have H := HA.out
            clear HA
            simp only [thalwegref04_Bytes.j1] at H
            by_cases c22 : a0_0 = 3
            · rw [if_pos c22] at H
              have c22b0 : (a0_0 == 3) = true := beq_iff_eq.mpr c22
              have c22b1 : (a0_0 != 3) = false := bne_eq_false_iff_eq.mpr c22
              clear c22; replace H := Option.bind_eq_some_iff.mp H; obtain ⟨t288, A230, H⟩ := H
              replace H : (if x4_13.length + t288.length < 140737488355328 then ((some (x4_13 ++ t288 : List Int)).bind fun y291 => ((some (([(a0_9) % 256, (a0_10) % 256] : List Int) : List Int)).bind fun y294 => (if y291.length + y294.length < 140737488355328 then (if a0_0 = 4 then (none) else (some ((y291 ++ y294), 0))) else (none)))) else (none)) = some (r1, r2) := H
              have A23 := YL A230; clear A230
              by_cases c24 : x4_13.length + t288.length < 140737488355328
              rotate_left
              · rw [if_neg c24] at H
                exact absurd H (by simp)
              rw [if_pos c24] at H; have LMc24 := YL c24; clear c24
              obtain ⟨y291, hy291⟩ : ∃ y_ : List Int, y_ = (x4_13 ++ t288) := ⟨_, rfl⟩
              replace H : ((some (([(a0_9) % 256, (a0_10) % 256] : List Int) : List Int)).bind fun y294 => (if y291.length + y294.length < 140737488355328 then (if a0_0 = 4 then (none) else (some ((y291 ++ y294), 0))) else (none))) = some (r1, r2) := by first | (rw [hy291]; with_reducible exact H) | (have H2_ := (Option.bind_some _ _).symm.trans H; rw [hy291]; with_reducible exact H2_) | (have H2_ := (Option.bind_some _ _).symm.trans H; with_reducible exact H2_) | with_reducible exact H | (rw [hy291]; exact H) | exact H
              have Ny291 := YL hy291; clear hy291
              obtain ⟨y294, hy294⟩ : ∃ y_ : List Int, y_ = (([(a0_9) % 256, (a0_10) % 256] : List Int)) := ⟨_, rfl⟩
              replace H : (if y291.length + y294.length < 140737488355328 then (if a0_0 = 4 then (none) else (some ((y291 ++ y294), 0))) else (none)) = some (r1, r2) := by first | (rw [hy294]; with_reducible exact H) | (have H2_ := (Option.bind_some _ _).symm.trans H; rw [hy294]; with_reducible exact H2_) | (have H2_ := (Option.bind_some _ _).symm.trans H; with_reducible exact H2_) | with_reducible exact H | (rw [hy294]; exact H) | exact H
              have Ny294 := YL hy294; clear hy294
              by_cases c25 : y291.length + y294.length < 140737488355328
              rotate_left
              · rw [if_neg c25] at H
                exact absurd H (by simp)
              rw [if_pos c25] at H; have LMc25 := YL c25; clear c25
              obtain ⟨y297, hy297⟩ : ∃ y_ : List Int, y_ = (y291 ++ y294) := ⟨_, rfl⟩
              replace H : (if a0_0 = 4 then (none) else (some (y297, 0))) = some (r1, r2) := by first | (rw [hy297]; with_reducible exact H) | (have H2_ := (Option.bind_some _ _).symm.trans H; rw [hy297]; with_reducible exact H2_) | (have H2_ := (Option.bind_some _ _).symm.trans H; with_reducible exact H2_) | with_reducible exact H | (rw [hy297]; exact H) | exact H
              have Ny297 := YL hy297; clear hy297
              by_cases c26 : a0_0 = 4
              · rw [if_pos c26] at H
                exact absurd H (by simp)
              rw [if_neg c26] at H
              have c26b0 : (a0_0 == 4) = false := beq_eq_false_iff_ne.mpr c26
              have c26b1 : (a0_0 != 4) = true := bne_iff_ne.mpr c26
              simp only [Option.some.injEq, Prod.mk.injEq] at H
              obtain ⟨rfl, rfl⟩ := H
              have hcz27_0 : wc.cell? ⟨gb276, 0, none⟩ = some (.int .i64 a0_0) := (YI BK276.out 0).trans rfl
              have hcz27_1 : wc.cell? ⟨gb276, 1, none⟩ = some (.int .i64 a0_1) := (YI BK276.out 1).trans rfl
              have hcz27_2 : wc.cell? ⟨gb276, 2, none⟩ = some (.bool a0_2) := (YI BK276.out 2).trans rfl
              have hcz27_3 : wc.cell? ⟨gb276, 3, none⟩ = some (.int .i64 a0_3) := (YI BK276.out 3).trans rfl
              have hcz27_4 : wc.cell? ⟨gb276, 4, none⟩ = some (.int .i64 a0_4) := (YI BK276.out 4).trans rfl
              have hcz27_5 : wc.cell? ⟨gb276, 5, none⟩ = some (.int .i64 a0_5) := (YI BK276.out 5).trans rfl
              have hcz27_6 : wc.cell? ⟨gb276, 6, none⟩ = some (.int .i64 a0_6) := (YI BK276.out 6).trans rfl
              have hcz27_7 : wc.cell? ⟨gb276, 7, none⟩ = some (.int .i64 a0_7) := (YI BK276.out 7).trans rfl
              have hcz27_8 : wc.cell? ⟨gb276, 8, none⟩ = some (.int .i64 a0_8) := (YI BK276.out 8).trans rfl
              have hcz27_9 : wc.cell? ⟨gb276, 9, none⟩ = some (.int .i64 a0_9) := (YI BK276.out 9).trans rfl
              have hcz27_10 : wc.cell? ⟨gb276, 10, none⟩ = some (.int .i64 a0_10) := (YI BK276.out 10).trans rfl
              have hcz27_11 : wc.cell? ⟨gb276, 11, none⟩ = some (.int .i64 a0_11) := (YI BK276.out 11).trans rfl
              have hfz27_0 := YJ BK276.out 0
              have hfz27_1 := YJ BK276.out 1
              have hfz27_2 := YJ BK276.out 2
              have hfz27_3 := YJ BK276.out 3
              have hfz27_4 := YJ BK276.out 4
              have hfz27_5 := YJ BK276.out 5
              have hfz27_6 := YJ BK276.out 6
              have hfz27_7 := YJ BK276.out 7
              have hfz27_8 := YJ BK276.out 8
              have hfz27_9 := YJ BK276.out 9
              have hfz27_10 := YJ BK276.out 10
              have hfz27_11 := YJ BK276.out 11
              go_wp2_with (first | ((with_reducible refine gate_callee (f := 39) rfl ?_); refine goesL_ (some 41) rfl rfl Try.func39 (by kernel_rfl) rfl #[.int .i64 a0_8] rfl (by (try simp only [YM, List.map_cons, List.map_nil]); first | done | rfl | (simp only [YO, YN]; rfl)) ?_; (with_reducible refine (thalwegref01_Int.calls kj13 a0_8 t288 _ A23.out).mono ?_); rintro e w28 ⟨v289, rfl, ho0, hb⟩; refine ⟨_, rfl, ?_⟩; have n0_ := YL (Kd.R_elder' (by (with_reducible repeat (first | apply YP | apply YQ | apply YR)); exact HO_4.out) (Kd.R_base ho0) hb); have n1_ := YL (Kd.R_lower (Kd.R_new' ho0 (Kd.R_lt (by (with_reducible repeat (first | apply YP | apply YQ | apply YR)); exact HO_4.out))) (YE (by repeat (first | (with_reducible first | exact HB.out | apply YA | apply YB | apply YC | refine below_set ?_ GE276.out) | exact HB.out)))); have n2_ := YL (YK (g := gb276) (o := .cells #[.int .i64 a0_0, .int .i64 a0_1, .bool a0_2, .int .i64 a0_3, .int .i64 a0_4, .int .i64 a0_5, .int .i64 a0_6, .int .i64 a0_7, .int .i64 a0_8, .int .i64 a0_9, .int .i64 a0_10, .int .i64 a0_11] 45 (0, 0)) (by (with_reducible repeat (first | refine YF ?_ _ | refine YG ?_ | refine YH ?_ _)); exact BK276.out) hb); have n3_ := YL (YD (by repeat (first | (with_reducible first | exact HB.out | apply YA | apply YB | apply YC | refine below_set ?_ GE276.out) | exact HB.out)) hb); clear HO_4; clear BK276; clear HB; have HO_4 := n0_; have HO290 := n1_; have BK276 := n2_; have HB := n3_; clear n0_ n1_ n2_ n3_; (try clear hb); (try clear hb2); (try clear hk); (try clear hi); (try clear ho0); obtain ⟨Ao30, co30, eo30⟩ := Kd.R_slice HO290.out; subst eo30) | ((with_reducible refine gate_builtin (b := .append) (xs := #[.tmp 37, .tmp 41]) rfl ?_); at_builtin; refine Kd.R_append_rows (Kd.int .u8) (w0 := w) w.heap.size rfl (.tmp 37) (.tmp 41) 26 5 (.int .u8 0) 1 rfl Try.underlying26 info5 rfl (by decide) (by omega) u4 x4_13 t288 _ _ _ (fun k_ => some k_ ≠ (.slice Ao30 t288.length co30 : Value).ownBlock) (fun _ => False) rfl rfl ?aO ?aR (fun _ _ h => h) (fun _ h => h.elim) ?aF ?aB ?aS ?aL ?_; (case aR => repeat (first | exact (Kd.R_reads' HO290.out).2.2 | (with_reducible refine Kd.C_alloc ?_ _) | (with_reducible refine Kd.C_drewN ?_ _) | (with_reducible refine Kd.C_drew ?_))); (case aB => exact (by repeat (first | (with_reducible first | exact HB.out | apply YA | apply YB | apply YC | refine below_set ?_ GE276.out) | exact HB.out))); (case aF => exact (fun k_ hk => Kd.fresh' (Kd.R_lt (by (with_reducible repeat (first | apply YP | apply YQ | apply YR)); exact HO290.out)) k_ hk)); (case aO => exact (by (with_reducible repeat (first | apply YP | apply YQ | apply YR)); exact Kd.R_mono HO_4.out (fun _ hk => by first | exact hk.2 | exact trivial | (simp [hk]; done) | simp_all))); (case aS => exact (YE (by repeat (first | (with_reducible first | exact HB.out | apply YA | apply YB | apply YC | refine below_set ?_ GE276.out) | exact HB.out)))); (case aL => have := LMc24.out; omega); intro v292 w29 ho hb hg hat; rw [← Ny291.out] at ho; have n0_ := YL (blk_grown (g := gb276) (o := .cells #[.int .i64 a0_0, .int .i64 a0_1, .bool a0_2, .int .i64 a0_3, .int .i64 a0_4, .int .i64 a0_5, .int .i64 a0_6, .int .i64 a0_7, .int .i64 a0_8, .int .i64 a0_9, .int .i64 a0_10, .int .i64 a0_11] 45 (0, 0)) (by (with_reducible repeat (first | refine YF ?_ _ | refine YG ?_ | refine YH ?_ _)); exact BK276.out) hg (Kd.R_ne HO_4.out BK276.out (by decide))); have n1_ := YL (Kd.R_after (ok := (fun _ => True)) (by (with_reducible repeat (first | apply YP | apply YQ | apply YR)); exact HO290.out) hg hat); have n2_ := YL (hb); have n3_ := YL (ho); clear BK276; clear HO290; clear HB; clear HO_4; have BK276 := n0_; have HO290 := n1_; have HB := n2_; have HO293 := n3_; clear n0_ n1_ n2_ n3_; clear ho hb hg hat; have hcz31_0 : w29.cell? ⟨gb276, 0, none⟩ = some (.int .i64 a0_0) := (YI BK276.out 0).trans rfl; have hcz31_1 : w29.cell? ⟨gb276, 1, none⟩ = some (.int .i64 a0_1) := (YI BK276.out 1).trans rfl; have hcz31_2 : w29.cell? ⟨gb276, 2, none⟩ = some (.bool a0_2) := (YI BK276.out 2).trans rfl; have hcz31_3 : w29.cell? ⟨gb276, 3, none⟩ = some (.int .i64 a0_3) := (YI BK276.out 3).trans rfl; have hcz31_4 : w29.cell? ⟨gb276, 4, none⟩ = some (.int .i64 a0_4) := (YI BK276.out 4).trans rfl; have hcz31_5 : w29.cell? ⟨gb276, 5, none⟩ = some (.int .i64 a0_5) := (YI BK276.out 5).trans rfl; have hcz31_6 : w29.cell? ⟨gb276, 6, none⟩ = some (.int .i64 a0_6) := (YI BK276.out 6).trans rfl; have hcz31_7 : w29.cell? ⟨gb276, 7, none⟩ = some (.int .i64 a0_7) := (YI BK276.out 7).trans rfl; have hcz31_8 : w29.cell? ⟨gb276, 8, none⟩ = some (.int .i64 a0_8) := (YI BK276.out 8).trans rfl; have hcz31_9 : w29.cell? ⟨gb276, 9, none⟩ = some (.int .i64 a0_9) := (YI BK276.out 9).trans rfl; have hcz31_10 : w29.cell? ⟨gb276, 10, none⟩ = some (.int .i64 a0_10) := (YI BK276.out 10).trans rfl; have hcz31_11 : w29.cell? ⟨gb276, 11, none⟩ = some (.int .i64 a0_11) := (YI BK276.out 11).trans rfl; have hfz31_0 := YJ BK276.out 0; have hfz31_1 := YJ BK276.out 1; have hfz31_2 := YJ BK276.out 2; have hfz31_3 := YJ BK276.out 3; have hfz31_4 := YJ BK276.out 4; have hfz31_5 := YJ BK276.out 5; have hfz31_6 := YJ BK276.out 6; have hfz31_7 := YJ BK276.out 7; have hfz31_8 := YJ BK276.out 8; have hfz31_9 := YJ BK276.out 9; have hfz31_10 := YJ BK276.out 10; have hfz31_11 := YJ BK276.out 11) | ((with_reducible refine gate_dst (N := 52) rfl ?_); refine Kd.R_lit (Kd.int .u8) _ 5 ?hg (N := 52) ?hd (xs := ([(a0_9) % 256, (a0_10) % 256] : List Int)) (inner := [.int .u8 ((a0_9) % 256), .int .u8 ((a0_10) % 256)]) (ok := fun _ => True) (okp := fun _ => True) ?hr ?hp (fun _ hk => hk) trivial (Below.refl _ _) (Nat.le_refl _) (by simp) ?_; (case hd => rfl); (case hg => rfl); (case hr => first | (go_simp; done) | (go_simp; rfl)); (case hp => exact (Reps.one (show Kd.M (Kd.int .u8) _ _ _ ((a0_9) % 256) [.int .u8 ((a0_9) % 256)] from rfl) (Reps.one (show Kd.M (Kd.int .u8) _ _ _ ((a0_10) % 256) [.int .u8 ((a0_10) % 256)] from rfl) (Reps.none _ _)))); intro v295 w32 ho33 hb hg_ hnew_; clear hg_ hnew_; (first | rw [← Ny294.out] at ho33 | (simp only [Int.reduceToNat] at ho33; rw [← Ny294.out] at ho33)); have n0_ := YL (Kd.R_elder' (by (with_reducible repeat (first | apply YP | apply YQ | apply YR)); exact HO290.out) (Kd.R_base ho33) hb); have n1_ := YL (Kd.R_elder' (by (with_reducible repeat (first | apply YP | apply YQ | apply YR)); exact HO293.out) (Kd.R_base ho33) hb); have n2_ := YL (Kd.R_lower (Kd.R_new' (Kd.R_new' ho33 (Kd.R_lt (by (with_reducible repeat (first | apply YP | apply YQ | apply YR)); exact HO290.out))) (Kd.R_lt (by (with_reducible repeat (first | apply YP | apply YQ | apply YR)); exact HO293.out))) (YE (by repeat (first | (with_reducible first | exact HB.out | apply YA | apply YB | apply YC | refine below_set ?_ GE276.out) | exact HB.out)))); have n3_ := YL (YK (g := gb276) (o := .cells #[.int .i64 a0_0, .int .i64 a0_1, .bool a0_2, .int .i64 a0_3, .int .i64 a0_4, .int .i64 a0_5, .int .i64 a0_6, .int .i64 a0_7, .int .i64 a0_8, .int .i64 a0_9, .int .i64 a0_10, .int .i64 a0_11] 45 (0, 0)) (by (with_reducible repeat (first | refine YF ?_ _ | refine YG ?_ | refine YH ?_ _)); exact BK276.out) hb); have n4_ := YL (YD (by repeat (first | (with_reducible first | exact HB.out | apply YA | apply YB | apply YC | refine below_set ?_ GE276.out) | exact HB.out)) hb); clear HO290; clear HO293; clear BK276; clear HB; have HO290 := n0_; have HO293 := n1_; have HO296 := n2_; have BK276 := n3_; have HB := n4_; clear n0_ n1_ n2_ n3_ n4_; clear hb ho33; obtain ⟨Ao35, co35, eo35⟩ := Kd.R_slice HO296.out; subst eo35) | ((with_reducible refine gate_builtin (b := .append) (xs := #[.tmp 43, .tmp 52]) rfl ?_); at_builtin; refine Kd.R_append_rows (Kd.int .u8) (w0 := w) w.heap.size rfl (.tmp 43) (.tmp 52) 26 5 (.int .u8 0) 1 rfl Try.underlying26 info5 rfl (by decide) (by omega) v292 y291 y294 _ _ _ (fun k_ => some k_ ≠ (.slice Ao30 t288.length co30 : Value).ownBlock ∧ some k_ ≠ (.slice Ao35 y294.length co35 : Value).ownBlock) (fun _ => False) rfl rfl ?aO ?aR (fun _ _ h => h) (fun _ h => h.elim) ?aF ?aB ?aS ?aL ?_; (case aR => repeat (first | exact (Kd.R_reads' HO296.out).2.2 | (with_reducible refine Kd.C_alloc ?_ _) | (with_reducible refine Kd.C_drewN ?_ _) | (with_reducible refine Kd.C_drew ?_))); (case aB => exact (by repeat (first | (with_reducible first | exact HB.out | apply YA | apply YB | apply YC | refine below_set ?_ GE276.out) | exact HB.out))); (case aF => exact (fun k_ hk => ⟨Kd.fresh' (Kd.R_lt (by (with_reducible repeat (first | apply YP | apply YQ | apply YR)); exact HO290.out)) k_ hk, Kd.fresh' (Kd.R_lt (by (with_reducible repeat (first | apply YP | apply YQ | apply YR)); exact HO296.out)) k_ hk⟩)); (case aO => exact (by (with_reducible repeat (first | apply YP | apply YQ | apply YR)); exact HO293.out)); (case aS => exact (YE (by repeat (first | (with_reducible first | exact HB.out | apply YA | apply YB | apply YC | refine below_set ?_ GE276.out) | exact HB.out)))); (case aL => have := LMc25.out; omega); intro v298 w34 ho hb hg hat; rw [← Ny297.out] at ho; have n0_ := YL (blk_grown (g := gb276) (o := .cells #[.int .i64 a0_0, .int .i64 a0_1, .bool a0_2, .int .i64 a0_3, .int .i64 a0_4, .int .i64 a0_5, .int .i64 a0_6, .int .i64 a0_7, .int .i64 a0_8, .int .i64 a0_9, .int .i64 a0_10, .int .i64 a0_11] 45 (0, 0)) (by (with_reducible repeat (first | refine YF ?_ _ | refine YG ?_ | refine YH ?_ _)); exact BK276.out) hg (Kd.R_ne HO293.out BK276.out (by decide))); have n1_ := YL (Kd.R_after (ok := (fun k_ => some k_ ≠ (.slice Ao35 y294.length co35 : Value).ownBlock)) (by (with_reducible repeat (first | apply YP | apply YQ | apply YR)); exact Kd.R_mono HO290.out (fun _ hk => by first | exact ⟨hk.2, hk.1.2⟩ | exact trivial | (simp [hk]; done) | simp_all)) hg hat); have n2_ := YL (Kd.R_after (ok := (fun k_ => some k_ ≠ (.slice Ao30 t288.length co30 : Value).ownBlock)) (by (with_reducible repeat (first | apply YP | apply YQ | apply YR)); exact Kd.R_mono HO296.out (fun _ hk => by first | exact ⟨hk.1.2, hk.2⟩ | exact trivial | (simp [hk]; done) | simp_all)) hg hat); have n3_ := YL (hb); have n4_ := YL (ho); clear BK276; clear HO290; clear HO296; clear HB; clear HO293; have BK276 := n0_; have HO290 := n1_; have HO296 := n2_; have HB := n3_; have HO299 := n4_; clear n0_ n1_ n2_ n3_ n4_; clear ho hb hg hat; have hcz36_0 : w34.cell? ⟨gb276, 0, none⟩ = some (.int .i64 a0_0) := (YI BK276.out 0).trans rfl; have hcz36_1 : w34.cell? ⟨gb276, 1, none⟩ = some (.int .i64 a0_1) := (YI BK276.out 1).trans rfl; have hcz36_2 : w34.cell? ⟨gb276, 2, none⟩ = some (.bool a0_2) := (YI BK276.out 2).trans rfl; have hcz36_3 : w34.cell? ⟨gb276, 3, none⟩ = some (.int .i64 a0_3) := (YI BK276.out 3).trans rfl; have hcz36_4 : w34.cell? ⟨gb276, 4, none⟩ = some (.int .i64 a0_4) := (YI BK276.out 4).trans rfl; have hcz36_5 : w34.cell? ⟨gb276, 5, none⟩ = some (.int .i64 a0_5) := (YI BK276.out 5).trans rfl; have hcz36_6 : w34.cell? ⟨gb276, 6, none⟩ = some (.int .i64 a0_6) := (YI BK276.out 6).trans rfl; have hcz36_7 : w34.cell? ⟨gb276, 7, none⟩ = some (.int .i64 a0_7) := (YI BK276.out 7).trans rfl; have hcz36_8 : w34.cell? ⟨gb276, 8, none⟩ = some (.int .i64 a0_8) := (YI BK276.out 8).trans rfl; have hcz36_9 : w34.cell? ⟨gb276, 9, none⟩ = some (.int .i64 a0_9) := (YI BK276.out 9).trans rfl; have hcz36_10 : w34.cell? ⟨gb276, 10, none⟩ = some (.int .i64 a0_10) := (YI BK276.out 10).trans rfl; have hcz36_11 : w34.cell? ⟨gb276, 11, none⟩ = some (.int .i64 a0_11) := (YI BK276.out 11).trans rfl; have hfz36_0 := YJ BK276.out 0; have hfz36_1 := YJ BK276.out 1; have hfz36_2 := YJ BK276.out 2; have hfz36_3 := YJ BK276.out 3; have hfz36_4 := YJ BK276.out 4; have hfz36_5 := YJ BK276.out 5; have hfz36_6 := YJ BK276.out 6; have hfz36_7 := YJ BK276.out 7; have hfz36_8 := YJ BK276.out 8; have hfz36_9 := YJ BK276.out 9; have hfz36_10 := YJ BK276.out 10; have hfz36_11 := YJ BK276.out 11))
              go_ret2
              exact ⟨_, by first | rfl | (simp [errW_none, errW_some] <;> rfl) | (simp [*, errW_none, errW_some] <;> rfl), by (with_reducible repeat (first | apply YP | apply YQ | apply YR)); exact Kd.R_mono HO299.out (fun _ hk => trivial), by repeat (first | (with_reducible first | exact HB.out | apply YA | apply YB | apply YC | refine below_set ?_ GE276.out) | exact HB.out)⟩
            rw [if_neg c22] at H
            have c22b0 : (a0_0 == 3) = false := beq_eq_false_iff_ne.mpr c22
            have c22b1 : (a0_0 != 3) = true := bne_iff_ne.mpr c22
            by_cases c37 : a0_0 = 4
            · rw [if_pos c37] at H
              have c37b0 : (a0_0 == 4) = true := beq_iff_eq.mpr c37
              have c37b1 : (a0_0 != 4) = false := bne_eq_false_iff_eq.mpr c37
              clear c37
              obtain ⟨y300, hy300⟩ : ∃ y_ : List Int, y_ = (([(wrap64 (Int.tdiv a0_11 256)) % 256, (Int.tmod a0_11 256) % 256] : List Int)) := ⟨_, rfl⟩
              replace H : (if x4_13.length + y300.length < 140737488355328 then (some ((x4_13 ++ y300), 0)) else (none)) = some (r1, r2) := by first | (rw [hy300]; with_reducible exact H) | (have H2_ := (Option.bind_some _ _).symm.trans H; rw [hy300]; with_reducible exact H2_) | (have H2_ := (Option.bind_some _ _).symm.trans H; with_reducible exact H2_) | with_reducible exact H | (rw [hy300]; exact H) | exact H
              have Ny300 := YL hy300; clear hy300
              by_cases c38 : x4_13.length + y300.length < 140737488355328
              rotate_left
              · rw [if_neg c38] at H
                exact absurd H (by simp)
              rw [if_pos c38] at H; have LMc38 := YL c38; clear c38
              obtain ⟨y303, hy303⟩ : ∃ y_ : List Int, y_ = (x4_13 ++ y300) := ⟨_, rfl⟩
              replace H : (some (y303, 0)) = some (r1, r2) := by first | (rw [hy303]; with_reducible exact H) | (have H2_ := (Option.bind_some _ _).symm.trans H; rw [hy303]; with_reducible exact H2_) | (have H2_ := (Option.bind_some _ _).symm.trans H; with_reducible exact H2_) | with_reducible exact H | (rw [hy303]; exact H) | exact H
              have Ny303 := YL hy303; clear hy303
              simp only [Option.some.injEq, Prod.mk.injEq] at H
              obtain ⟨rfl, rfl⟩ := H
              have hcz39_0 : wc.cell? ⟨gb276, 0, none⟩ = some (.int .i64 a0_0) := (YI BK276.out 0).trans rfl
              have hcz39_1 : wc.cell? ⟨gb276, 1, none⟩ = some (.int .i64 a0_1) := (YI BK276.out 1).trans rfl
              have hcz39_2 : wc.cell? ⟨gb276, 2, none⟩ = some (.bool a0_2) := (YI BK276.out 2).trans rfl
              have hcz39_3 : wc.cell? ⟨gb276, 3, none⟩ = some (.int .i64 a0_3) := (YI BK276.out 3).trans rfl
              have hcz39_4 : wc.cell? ⟨gb276, 4, none⟩ = some (.int .i64 a0_4) := (YI BK276.out 4).trans rfl
              have hcz39_5 : wc.cell? ⟨gb276, 5, none⟩ = some (.int .i64 a0_5) := (YI BK276.out 5).trans rfl
              have hcz39_6 : wc.cell? ⟨gb276, 6, none⟩ = some (.int .i64 a0_6) := (YI BK276.out 6).trans rfl
              have hcz39_7 : wc.cell? ⟨gb276, 7, none⟩ = some (.int .i64 a0_7) := (YI BK276.out 7).trans rfl
              have hcz39_8 : wc.cell? ⟨gb276, 8, none⟩ = some (.int .i64 a0_8) := (YI BK276.out 8).trans rfl
              have hcz39_9 : wc.cell? ⟨gb276, 9, none⟩ = some (.int .i64 a0_9) := (YI BK276.out 9).trans rfl
              have hcz39_10 : wc.cell? ⟨gb276, 10, none⟩ = some (.int .i64 a0_10) := (YI BK276.out 10).trans rfl
              have hcz39_11 : wc.cell? ⟨gb276, 11, none⟩ = some (.int .i64 a0_11) := (YI BK276.out 11).trans rfl
              have hfz39_0 := YJ BK276.out 0
              have hfz39_1 := YJ BK276.out 1
              have hfz39_2 := YJ BK276.out 2
              have hfz39_3 := YJ BK276.out 3
              have hfz39_4 := YJ BK276.out 4
              have hfz39_5 := YJ BK276.out 5
              have hfz39_6 := YJ BK276.out 6
              have hfz39_7 := YJ BK276.out 7
              have hfz39_8 := YJ BK276.out 8
              have hfz39_9 := YJ BK276.out 9
              have hfz39_10 := YJ BK276.out 10
              have hfz39_11 := YJ BK276.out 11
              go_wp2_with (first | ((with_reducible refine gate_dst (N := 66) rfl ?_); refine Kd.R_lit (Kd.int .u8) _ 5 ?hg (N := 66) ?hd (xs := ([(wrap64 (Int.tdiv a0_11 256)) % 256, (Int.tmod a0_11 256) % 256] : List Int)) (inner := [.int .u8 ((wrap64 (Int.tdiv a0_11 256)) % 256), .int .u8 ((Int.tmod a0_11 256) % 256)]) (ok := fun _ => True) (okp := fun _ => True) ?hr ?hp (fun _ hk => hk) trivial (Below.refl _ _) (Nat.le_refl _) (by simp) ?_; (case hd => rfl); (case hg => rfl); (case hr => first | (go_simp; done) | (go_simp; rfl)); (case hp => exact (Reps.one (show Kd.M (Kd.int .u8) _ _ _ ((wrap64 (Int.tdiv a0_11 256)) % 256) [.int .u8 ((wrap64 (Int.tdiv a0_11 256)) % 256)] from rfl) (Reps.one (show Kd.M (Kd.int .u8) _ _ _ ((Int.tmod a0_11 256) % 256) [.int .u8 ((Int.tmod a0_11 256) % 256)] from rfl) (Reps.none _ _)))); intro v301 w40 ho41 hb hg_ hnew_; clear hg_ hnew_; (first | rw [← Ny300.out] at ho41 | (simp only [Int.reduceToNat] at ho41; rw [← Ny300.out] at ho41)); have n0_ := YL (Kd.R_elder' (by (with_reducible repeat (first | apply YP | apply YQ | apply YR)); exact HO_4.out) (Kd.R_base ho41) hb); have n1_ := YL (Kd.R_lower (Kd.R_new' ho41 (Kd.R_lt (by (with_reducible repeat (first | apply YP | apply YQ | apply YR)); exact HO_4.out))) (YE (by repeat (first | (with_reducible first | exact HB.out | apply YA | apply YB | apply YC | refine below_set ?_ GE276.out) | exact HB.out)))); have n2_ := YL (YK (g := gb276) (o := .cells #[.int .i64 a0_0, .int .i64 a0_1, .bool a0_2, .int .i64 a0_3, .int .i64 a0_4, .int .i64 a0_5, .int .i64 a0_6, .int .i64 a0_7, .int .i64 a0_8, .int .i64 a0_9, .int .i64 a0_10, .int .i64 a0_11] 45 (0, 0)) (by (with_reducible repeat (first | refine YF ?_ _ | refine YG ?_ | refine YH ?_ _)); exact BK276.out) hb); have n3_ := YL (YD (by repeat (first | (with_reducible first | exact HB.out | apply YA | apply YB | apply YC | refine below_set ?_ GE276.out) | exact HB.out)) hb); clear HO_4; clear BK276; clear HB; have HO_4 := n0_; have HO302 := n1_; have BK276 := n2_; have HB := n3_; clear n0_ n1_ n2_ n3_; clear hb ho41; obtain ⟨Ao43, co43, eo43⟩ := Kd.R_slice HO302.out; subst eo43) | ((with_reducible refine gate_builtin (b := .append) (xs := #[.tmp 57, .tmp 66]) rfl ?_); at_builtin; refine Kd.R_append_rows (Kd.int .u8) (w0 := w) w.heap.size rfl (.tmp 57) (.tmp 66) 26 5 (.int .u8 0) 1 rfl Try.underlying26 info5 rfl (by decide) (by omega) u4 x4_13 y300 _ _ _ (fun k_ => some k_ ≠ (.slice Ao43 y300.length co43 : Value).ownBlock) (fun _ => False) rfl rfl ?aO ?aR (fun _ _ h => h) (fun _ h => h.elim) ?aF ?aB ?aS ?aL ?_; (case aR => repeat (first | exact (Kd.R_reads' HO302.out).2.2 | (with_reducible refine Kd.C_alloc ?_ _) | (with_reducible refine Kd.C_drewN ?_ _) | (with_reducible refine Kd.C_drew ?_))); (case aB => exact (by repeat (first | (with_reducible first | exact HB.out | apply YA | apply YB | apply YC | refine below_set ?_ GE276.out) | exact HB.out))); (case aF => exact (fun k_ hk => Kd.fresh' (Kd.R_lt (by (with_reducible repeat (first | apply YP | apply YQ | apply YR)); exact HO302.out)) k_ hk)); (case aO => exact (by (with_reducible repeat (first | apply YP | apply YQ | apply YR)); exact Kd.R_mono HO_4.out (fun _ hk => by first | exact hk.2 | exact trivial | (simp [hk]; done) | simp_all))); (case aS => exact (YE (by repeat (first | (with_reducible first | exact HB.out | apply YA | apply YB | apply YC | refine below_set ?_ GE276.out) | exact HB.out)))); (case aL => have := LMc38.out; omega); intro v304 w42 ho hb hg hat; rw [← Ny303.out] at ho; have n0_ := YL (blk_grown (g := gb276) (o := .cells #[.int .i64 a0_0, .int .i64 a0_1, .bool a0_2, .int .i64 a0_3, .int .i64 a0_4, .int .i64 a0_5, .int .i64 a0_6, .int .i64 a0_7, .int .i64 a0_8, .int .i64 a0_9, .int .i64 a0_10, .int .i64 a0_11] 45 (0, 0)) (by (with_reducible repeat (first | refine YF ?_ _ | refine YG ?_ | refine YH ?_ _)); exact BK276.out) hg (Kd.R_ne HO_4.out BK276.out (by decide))); have n1_ := YL (Kd.R_after (ok := (fun _ => True)) (by (with_reducible repeat (first | apply YP | apply YQ | apply YR)); exact HO302.out) hg hat); have n2_ := YL (hb); have n3_ := YL (ho); clear BK276; clear HO302; clear HB; clear HO_4; have BK276 := n0_; have HO302 := n1_; have HB := n2_; have HO305 := n3_; clear n0_ n1_ n2_ n3_; clear ho hb hg hat))
              go_ret2
              exact ⟨_, by first | rfl | (simp [errW_none, errW_some] <;> rfl) | (simp [*, errW_none, errW_some] <;> rfl), by (with_reducible repeat (first | apply YP | apply YQ | apply YR)); exact Kd.R_mono HO305.out (fun _ hk => trivial), by repeat (first | (with_reducible first | exact HB.out | apply YA | apply YB | apply YC | refine below_set ?_ GE276.out) | exact HB.out)⟩
            rw [if_neg c37] at H
            have c37b0 : (a0_0 == 4) = false := beq_eq_false_iff_ne.mpr c37
            have c37b1 : (a0_0 != 4) = true := bne_iff_ne.mpr c37
            simp only [Option.some.injEq, Prod.mk.injEq] at H
            obtain ⟨rfl, rfl⟩ := H
            have hcz44_0 : wc.cell? ⟨gb276, 0, none⟩ = some (.int .i64 a0_0) := (YI BK276.out 0).trans rfl
            have hcz44_1 : wc.cell? ⟨gb276, 1, none⟩ = some (.int .i64 a0_1) := (YI BK276.out 1).trans rfl
            have hcz44_2 : wc.cell? ⟨gb276, 2, none⟩ = some (.bool a0_2) := (YI BK276.out 2).trans rfl
            have hcz44_3 : wc.cell? ⟨gb276, 3, none⟩ = some (.int .i64 a0_3) := (YI BK276.out 3).trans rfl
            have hcz44_4 : wc.cell? ⟨gb276, 4, none⟩ = some (.int .i64 a0_4) := (YI BK276.out 4).trans rfl
            have hcz44_5 : wc.cell? ⟨gb276, 5, none⟩ = some (.int .i64 a0_5) := (YI BK276.out 5).trans rfl
            have hcz44_6 : wc.cell? ⟨gb276, 6, none⟩ = some (.int .i64 a0_6) := (YI BK276.out 6).trans rfl
            have hcz44_7 : wc.cell? ⟨gb276, 7, none⟩ = some (.int .i64 a0_7) := (YI BK276.out 7).trans rfl
            have hcz44_8 : wc.cell? ⟨gb276, 8, none⟩ = some (.int .i64 a0_8) := (YI BK276.out 8).trans rfl
            have hcz44_9 : wc.cell? ⟨gb276, 9, none⟩ = some (.int .i64 a0_9) := (YI BK276.out 9).trans rfl
            have hcz44_10 : wc.cell? ⟨gb276, 10, none⟩ = some (.int .i64 a0_10) := (YI BK276.out 10).trans rfl
            have hcz44_11 : wc.cell? ⟨gb276, 11, none⟩ = some (.int .i64 a0_11) := (YI BK276.out 11).trans rfl
            have hfz44_0 := YJ BK276.out 0
            have hfz44_1 := YJ BK276.out 1
            have hfz44_2 := YJ BK276.out 2
            have hfz44_3 := YJ BK276.out 3
            have hfz44_4 := YJ BK276.out 4
            have hfz44_5 := YJ BK276.out 5
            have hfz44_6 := YJ BK276.out 6
            have hfz44_7 := YJ BK276.out 7
            have hfz44_8 := YJ BK276.out 8
            have hfz44_9 := YJ BK276.out 9
            have hfz44_10 := YJ BK276.out 10
            have hfz44_11 := YJ BK276.out 11
            go_wp2
            go_ret2
            exact ⟨_, by first | rfl | (simp [errW_none, errW_some] <;> rfl) | (simp [*, errW_none, errW_some] <;> rfl), by (with_reducible repeat (first | apply YP | apply YQ | apply YR)); exact HO_4.out, by repeat (first | (with_reducible first | exact HB.out | apply YA | apply YB | apply YC | refine below_set ?_ GE276.out) | exact HB.out)⟩
  replace c3 := Bool.eq_false_iff.mpr c3
  subst c3
  have H1 : (some (([] : List Int), 1)) = some (r1, r2) := by rw [if_neg (show ¬ (false = true) by decide)] at H; exact H
  clear H
  have H := H1
  clear H1
  simp only [Option.some.injEq, Prod.mk.injEq] at H
  obtain ⟨rfl, rfl⟩ := H
  go_enter Try.func24, Try.ntmps24
  go_wp2_with (first | ((with_reducible refine gate_dst (N := 1) rfl ?_); refine box_event ?hg (N := 1) ?hd (cs := #[.int .i64 a0_0, .int .i64 a0_1, .bool a0_2, .int .i64 a0_3, .int .i64 a0_4, .int .i64 a0_5, .int .i64 a0_6, .int .i64 a0_7, .int .i64 a0_8, .int .i64 a0_9, .int .i64 a0_10, .int .i64 a0_11]) (t := 45) ?hr ?_; (case hd => rfl); (case hg => rfl); (case hr => first | (go_simp; done) | (go_simp; rfl)); intro gb276 hg w45 hbox hb; have n0_ := YL (YD (by repeat (first | (with_reducible first | exact HB.out | apply YA | apply YB | apply YC) | exact HB.out)) hb); have n1_ := YL (hbox); have n2_ := YL ((by rw [hg]; exact (YE (by repeat (first | (with_reducible first | exact HB.out | apply YA | apply YB | apply YC) | exact HB.out))) : w.heap.size ≤ gb276)); have n3_ := YL ((by rw [hg]; exact (YE (by repeat (first | (with_reducible first | exact HB.out | apply YA | apply YB | apply YC) | exact HB.out))) : w.heap.size ≤ gb276)); clear HB; have HB := n0_; have BK276 := n1_; have GW276 := n2_; have GE276 := n3_; clear n0_ n1_ n2_ n3_; clear hb hbox hg; have hcz46_0 : w45.cell? ⟨gb276, 0, none⟩ = some (.int .i64 a0_0) := (YI BK276.out 0).trans rfl; have hcz46_1 : w45.cell? ⟨gb276, 1, none⟩ = some (.int .i64 a0_1) := (YI BK276.out 1).trans rfl; have hcz46_2 : w45.cell? ⟨gb276, 2, none⟩ = some (.bool a0_2) := (YI BK276.out 2).trans rfl; have hcz46_3 : w45.cell? ⟨gb276, 3, none⟩ = some (.int .i64 a0_3) := (YI BK276.out 3).trans rfl; have hcz46_4 : w45.cell? ⟨gb276, 4, none⟩ = some (.int .i64 a0_4) := (YI BK276.out 4).trans rfl; have hcz46_5 : w45.cell? ⟨gb276, 5, none⟩ = some (.int .i64 a0_5) := (YI BK276.out 5).trans rfl; have hcz46_6 : w45.cell? ⟨gb276, 6, none⟩ = some (.int .i64 a0_6) := (YI BK276.out 6).trans rfl; have hcz46_7 : w45.cell? ⟨gb276, 7, none⟩ = some (.int .i64 a0_7) := (YI BK276.out 7).trans rfl; have hcz46_8 : w45.cell? ⟨gb276, 8, none⟩ = some (.int .i64 a0_8) := (YI BK276.out 8).trans rfl; have hcz46_9 : w45.cell? ⟨gb276, 9, none⟩ = some (.int .i64 a0_9) := (YI BK276.out 9).trans rfl; have hcz46_10 : w45.cell? ⟨gb276, 10, none⟩ = some (.int .i64 a0_10) := (YI BK276.out 10).trans rfl; have hcz46_11 : w45.cell? ⟨gb276, 11, none⟩ = some (.int .i64 a0_11) := (YI BK276.out 11).trans rfl; have hfz46_0 := YJ BK276.out 0; have hfz46_1 := YJ BK276.out 1; have hfz46_2 := YJ BK276.out 2; have hfz46_3 := YJ BK276.out 3; have hfz46_4 := YJ BK276.out 4; have hfz46_5 := YJ BK276.out 5; have hfz46_6 := YJ BK276.out 6; have hfz46_7 := YJ BK276.out 7; have hfz46_8 := YJ BK276.out 8; have hfz46_9 := YJ BK276.out 9; have hfz46_10 := YJ BK276.out 10; have hfz46_11 := YJ BK276.out 11) | ((with_reducible refine gate_callee (f := 37) rfl ?_); refine goesL_ (some 8) rfl rfl Try.func37 (by kernel_rfl) rfl #[.agg #[.int .i64 a0_0, .int .i64 a0_1, .bool a0_2, .int .i64 a0_3, .int .i64 a0_4, .int .i64 a0_5, .int .i64 a0_6, .int .i64 a0_7, .int .i64 a0_8, .int .i64 a0_9, .int .i64 a0_10, .int .i64 a0_11]] rfl (by (try simp only [YM, List.map_cons, List.map_nil]); first | done | rfl | (simp only [YO, YN]; rfl)) ?_; (with_reducible refine (thalwegref04_Right.calls k a0_0 a0_1 a0_2 a0_3 a0_4 a0_5 a0_6 a0_7 a0_8 a0_9 a0_10 a0_11 false _ A2.out).mono ?_); rintro e w47 ⟨rfl, hb⟩; refine ⟨_, rfl, ?_⟩; have n0_ := YL (YK (g := gb276) (o := .cells #[.int .i64 a0_0, .int .i64 a0_1, .bool a0_2, .int .i64 a0_3, .int .i64 a0_4, .int .i64 a0_5, .int .i64 a0_6, .int .i64 a0_7, .int .i64 a0_8, .int .i64 a0_9, .int .i64 a0_10, .int .i64 a0_11] 45 (0, 0)) (by (with_reducible repeat (first | refine YF ?_ _ | refine YG ?_ | refine YH ?_ _)); exact BK276.out) hb); have n1_ := YL (YD (by repeat (first | (with_reducible first | exact HB.out | apply YA | apply YB | apply YC | refine below_set ?_ GE276.out) | exact HB.out)) hb); clear BK276; clear HB; have BK276 := n0_; have HB := n1_; clear n0_ n1_; (try clear hb); (try clear hb2); (try clear hk); (try clear hi)))
  go_ret2
  exact ⟨_, by first | rfl | (simp [errW_none, errW_some] <;> rfl) | (simp [*, errW_none, errW_some] <;> rfl), by first | exact Kd.R_nil _ _ _ _ _ | exact Kd.N_nil _ _ _ _ _ | exact Kd.V_nil _ _ _ _ _ | exact Kd.Q_nil _ _ _ _ _ | exact Kd.S_nil _ _ _ _ _, by repeat (first | (with_reducible first | exact HB.out | apply YA | apply YB | apply YC | refine below_set ?_ GE276.out) | exact HB.out)⟩
end Go.Proofs.Ytfigbjjaffkidaa.P
namespace Go.Proofs.Ytfigbjjaffkidaa.P
open Go.RowKit Go.Proofs.YtfigbjjaffkidaaW.PrintWords Go.Proofs.YtfigbjjaffkidaaW.PrintLast Go.Proofs.YtfigbjjaffkidaaW.PrintMore
open Go.Proofs.YtfigbjjaffkidaaW.PrintWords renaming below_alloc → YA, pw_below_drewN → YB, below_drew1 → YC, below_step → YD, below_size → YE, blk_cell → YF, blk_frozen → YG
open Go.Proofs.YtfigbjjaffkidaaW.PrintWords.Aside0 renaming mk → YH
open List renaming map_toArray → YI, length_take → YJ, length_drop → YK
attribute [local go_sem] max2_int min2_int max_two min_two max_three min_three max_four min_four   -- for this text's walks alone
def thalwegref05_size.l0 : Nat → List (S45) → Int → Int → Option (Int)
  | 0, _, _, _ => none
  | k + 1, x0, x3, x4 => if x4 < (x0.length : Int) then (if 0 ≤ x4 then ((thalwegref04_Bytes.f k ((rd_T45 x0 x4).f0) ((rd_T45 x0 x4).f1) ((rd_T45 x0 x4).f2.f0) ((rd_T45 x0 x4).f2.f1) ((rd_T45 x0 x4).f2.f2) ((rd_T45 x0 x4).f2.f3) ((rd_T45 x0 x4).f2.f4) ((rd_T45 x0 x4).f2.f5) ((rd_T45 x0 x4).f3.f0) ((rd_T45 x0 x4).f3.f1) ((rd_T45 x0 x4).f3.f2) ((rd_T45 x0 x4).f4)).bind fun bt307 => (if bt307.2 = 0 then (thalwegref05_size.l0 k x0 (wrap64 (x3 + (bt307.1.length : Int))) (wrap64 (x4 + 1))) else (some (-1)))) else (none)) else (some x3)
def thalwegref05_size.f (k : Nat) (l0 : List (S45)) : Option (Int) := thalwegref05_size.l0 k l0 3 0
theorem thalwegref05_size.mono_l : ∀ k, (∀ y0 y1 y2, LeO (thalwegref05_size.l0 k y0 y1 y2) (thalwegref05_size.l0 (k + 1) y0 y1 y2))
  | 0 => fun _ _ _ r h => by simp [thalwegref05_size.l0] at h
  | k + 1 => by
    have ih0 := thalwegref05_size.mono_l k
    · intro y0 y1 y2
      unfold thalwegref05_size.l0
      repeat' first
      | (with_reducible exact ih0 _ _ _)
      | (with_reducible exact thalwegref04_Bytes.mono _ _ _ _ _ _ _ _ _ _ _ _ _)
      | (with_reducible exact LeO.refl _)
      | (with_reducible exact LeO.none _)
      | (with_reducible refine LeO.ite ?_ ?_)
      | (with_reducible refine LeO.bind ?_ (fun _ => ?_))
      | exact ih0 _ _ _
      | exact thalwegref04_Bytes.mono _ _ _ _ _ _ _ _ _ _ _ _ _
      | exact LeO.none _
      | refine LeO.ite ?_ ?_
      | refine LeO.bind ?_ (fun _ => ?_)
theorem thalwegref05_size.mono : ∀ a0 k, LeO (thalwegref05_size.f k a0) (thalwegref05_size.f (k + 1) a0) := by
  intro a0 k
  have ih0 := thalwegref05_size.mono_l k
  unfold thalwegref05_size.f
  repeat' first
      | (with_reducible exact ih0 _ _ _)
      | (with_reducible exact thalwegref04_Bytes.mono _ _ _ _ _ _ _ _ _ _ _ _ _)
      | (with_reducible exact LeO.refl _)
      | (with_reducible exact LeO.none _)
      | (with_reducible refine LeO.ite ?_ ?_)
      | (with_reducible refine LeO.bind ?_ (fun _ => ?_))
      | exact ih0 _ _ _
      | exact thalwegref04_Bytes.mono _ _ _ _ _ _ _ _ _ _ _ _ _
      | exact LeO.none _
      | refine LeO.ite ?_ ?_
      | refine LeO.bind ?_ (fun _ => ?_)
set_option maxHeartbeats 8000000 in
set_option maxRecDepth 100000 in
theorem thalwegref05_size.calls (k : Nat) (A0 : Option Addr) (c0 : Nat) (l0 : List (S45)) (r : Int) (w : World) (hr0 : Kd.C k45 w A0 l0.length l0) (hc0 : l0.length ≤ c0) (h : thalwegref05_size.f k l0 = some r) :
    Calls Try.prog 28 #[.slice A0 l0.length c0] w fun e w' => e = .returned (.int .i64 r) ∧ Below w.heap.size w w' := by
  have hu45 := Try.underlying45
  have HR0 := YH hr0; have HC0 := YH hc0; clear hr0 hc0
  have HB := YH (Below.refl w.heap.size w)
  have H : (thalwegref05_size.l0 k l0 3 0) = some r := h
  clear h
  have H' := YH H
  clear H
  go_enter Try.func28, Try.ntmps28
  go_wp2
  go_loopg [3, 4] k (fun kq v3 v4 w' => ∃ (x3_1 : Int) (x4_1 : Int), v3 = .int .i64 x3_1 ∧ v4 = .int .i64 x4_1 ∧ Aside0 (thalwegref05_size.l0 kq l0 x3_1 x4_1 = some r) ∧ Aside0 (kq ≤ k) ∧ Aside0 (Below w.heap.size w w'))
  case atStart => exact ⟨(3), (0), (by first | rfl | (simp; done) | (simp [*]; done)), (by first | rfl | (simp; done) | (simp [*]; done)), H', ⟨Nat.le_refl _⟩, ⟨by repeat (first | (with_reducible first | exact HB.out | apply YA | apply YB | apply YC) | exact HB.out)⟩⟩
  case round =>
    clear H'
    obtain ⟨x3_1, x4_1, rfl, rfl, HA, HK1, HB⟩ := hrel
    cases gk with
    | zero => exact absurd HA.out (by simp [thalwegref05_size.l0])
    | succ k1 =>
      have H := HA.out
      clear HA
      simp only [thalwegref05_size.l0] at H
      by_cases c2 : x4_1 < (l0.length : Int)
      · rw [if_pos c2] at H
        have c2b0 : decide (x4_1 < (l0.length : Int)) = true := decide_eq_true c2
        clear c2
        by_cases c3 : 0 ≤ x4_1
        rotate_left
        · rw [if_neg c3] at H
          exact absurd H (by simp)
        rw [if_pos c3] at H; have c3b0 : decide (0 ≤ x4_1) = true := decide_eq_true c3; clear c3; replace H := Option.bind_eq_some_iff.mp H
        obtain ⟨⟨t307, t310⟩, A40, H⟩ := H
        replace H : (if t310 = 0 then (thalwegref05_size.l0 k1 l0 (wrap64 (x3_1 + (t307.length : Int))) (wrap64 (x4_1 + 1))) else (some (-1))) = some r := H
        have A4 := YH A40; clear A40
        by_cases c5 : t310 = 0
        · rw [if_pos c5] at H
          have c5b0 : (t310 == 0) = true := beq_iff_eq.mpr c5
          have c5b1 : (t310 != 0) = false := bne_eq_false_iff_eq.mpr c5
          clear c5
          have H' := YH H
          clear H
          have p306 : 0 ≤ (x4_1 : Int) := of_decide_eq_true (by first | (with_reducible assumption) | assumption)
          have q306 : x4_1 < (l0.length : Int) := of_decide_eq_true (by first | (with_reducible assumption) | assumption)
          obtain ⟨ad306, e306, hx306_0, hx306_1, hx306_2, hx306_3, hx306_4, hx306_5, hx306_6, hx306_7, hx306_8, hx306_9, hx306_10, hx306_11⟩ := at_T45 HR0.out x4_1 p306 q306
          cases e306
          replace hx306_0 := (HB.out.cell (World.block_lt_of_cell? w _ hx306_0)).trans hx306_0
          replace hx306_1 := (HB.out.cell (World.block_lt_of_cell? w _ hx306_1)).trans hx306_1
          replace hx306_2 := (HB.out.cell (World.block_lt_of_cell? w _ hx306_2)).trans hx306_2
          replace hx306_3 := (HB.out.cell (World.block_lt_of_cell? w _ hx306_3)).trans hx306_3
          replace hx306_4 := (HB.out.cell (World.block_lt_of_cell? w _ hx306_4)).trans hx306_4
          replace hx306_5 := (HB.out.cell (World.block_lt_of_cell? w _ hx306_5)).trans hx306_5
          replace hx306_6 := (HB.out.cell (World.block_lt_of_cell? w _ hx306_6)).trans hx306_6
          replace hx306_7 := (HB.out.cell (World.block_lt_of_cell? w _ hx306_7)).trans hx306_7
          replace hx306_8 := (HB.out.cell (World.block_lt_of_cell? w _ hx306_8)).trans hx306_8
          replace hx306_9 := (HB.out.cell (World.block_lt_of_cell? w _ hx306_9)).trans hx306_9
          replace hx306_10 := (HB.out.cell (World.block_lt_of_cell? w _ hx306_10)).trans hx306_10
          replace hx306_11 := (HB.out.cell (World.block_lt_of_cell? w _ hx306_11)).trans hx306_11
          replace p306 := eq_true p306
          replace q306 := eq_true q306
          go_wp2_with (first | ((with_reducible refine gate_callee (f := 24) rfl ?_); refine goesL_ (some 18) rfl rfl Try.func24 (by kernel_rfl) rfl #[.agg #[.int .i64 ((rd_T45 l0 x4_1).f0), .int .i64 ((rd_T45 l0 x4_1).f1), .bool ((rd_T45 l0 x4_1).f2.f0), .int .i64 ((rd_T45 l0 x4_1).f2.f1), .int .i64 ((rd_T45 l0 x4_1).f2.f2), .int .i64 ((rd_T45 l0 x4_1).f2.f3), .int .i64 ((rd_T45 l0 x4_1).f2.f4), .int .i64 ((rd_T45 l0 x4_1).f2.f5), .int .i64 ((rd_T45 l0 x4_1).f3.f0), .int .i64 ((rd_T45 l0 x4_1).f3.f1), .int .i64 ((rd_T45 l0 x4_1).f3.f2), .int .i64 ((rd_T45 l0 x4_1).f4)]] rfl (by (try simp only [YI, List.map_cons, List.map_nil]); first | done | rfl | (simp only [YK, YJ]; rfl)) ?_; (with_reducible refine (thalwegref04_Bytes.calls k1 ((rd_T45 l0 x4_1).f0) ((rd_T45 l0 x4_1).f1) ((rd_T45 l0 x4_1).f2.f0) ((rd_T45 l0 x4_1).f2.f1) ((rd_T45 l0 x4_1).f2.f2) ((rd_T45 l0 x4_1).f2.f3) ((rd_T45 l0 x4_1).f2.f4) ((rd_T45 l0 x4_1).f2.f5) ((rd_T45 l0 x4_1).f3.f0) ((rd_T45 l0 x4_1).f3.f1) ((rd_T45 l0 x4_1).f3.f2) ((rd_T45 l0 x4_1).f4) t307 t310 _ A4.out).mono ?_); rintro e w6 ⟨v308, rfl, ho0, hb⟩; refine ⟨_, rfl, ?_⟩; have n0_ := YH (Kd.R_lower ho0 (YE (by repeat (first | (with_reducible first | exact HB.out | apply YA | apply YB | apply YC) | exact HB.out)))); have n1_ := YH (YD (by repeat (first | (with_reducible first | exact HB.out | apply YA | apply YB | apply YC) | exact HB.out)) hb); clear HB; have HO309 := n0_; have HB := n1_; clear n0_ n1_; (try clear hb); (try clear hb2); (try clear hk); (try clear hi); (try clear ho0); obtain ⟨Ao7, co7, eo7⟩ := Kd.R_slice HO309.out; subst eo7))
          go_roundg k1
          case measure => have := HK1.out; omega
          case rel => exact ⟨(wrap64 (x3_1 + (t307.length : Int))), (wrap64 (x4_1 + 1)), (by first | rfl | (simp; done) | (simp [*]; done)), (by first | rfl | (simp; done) | (simp [*]; done)), H', ⟨by have := HK1.out; omega⟩, ⟨by repeat (first | (with_reducible first | exact HB.out | apply YA | apply YB | apply YC) | exact HB.out)⟩⟩
        rw [if_neg c5] at H
        have c5b0 : (t310 == 0) = false := beq_eq_false_iff_ne.mpr c5
        have c5b1 : (t310 != 0) = true := bne_iff_ne.mpr c5
        obtain rfl := Option.some.inj H
        have p306 : 0 ≤ (x4_1 : Int) := of_decide_eq_true (by first | (with_reducible assumption) | assumption)
        have q306 : x4_1 < (l0.length : Int) := of_decide_eq_true (by first | (with_reducible assumption) | assumption)
        obtain ⟨ad306, e306, hx306_0, hx306_1, hx306_2, hx306_3, hx306_4, hx306_5, hx306_6, hx306_7, hx306_8, hx306_9, hx306_10, hx306_11⟩ := at_T45 HR0.out x4_1 p306 q306
        cases e306
        replace hx306_0 := (HB.out.cell (World.block_lt_of_cell? w _ hx306_0)).trans hx306_0
        replace hx306_1 := (HB.out.cell (World.block_lt_of_cell? w _ hx306_1)).trans hx306_1
        replace hx306_2 := (HB.out.cell (World.block_lt_of_cell? w _ hx306_2)).trans hx306_2
        replace hx306_3 := (HB.out.cell (World.block_lt_of_cell? w _ hx306_3)).trans hx306_3
        replace hx306_4 := (HB.out.cell (World.block_lt_of_cell? w _ hx306_4)).trans hx306_4
        replace hx306_5 := (HB.out.cell (World.block_lt_of_cell? w _ hx306_5)).trans hx306_5
        replace hx306_6 := (HB.out.cell (World.block_lt_of_cell? w _ hx306_6)).trans hx306_6
        replace hx306_7 := (HB.out.cell (World.block_lt_of_cell? w _ hx306_7)).trans hx306_7
        replace hx306_8 := (HB.out.cell (World.block_lt_of_cell? w _ hx306_8)).trans hx306_8
        replace hx306_9 := (HB.out.cell (World.block_lt_of_cell? w _ hx306_9)).trans hx306_9
        replace hx306_10 := (HB.out.cell (World.block_lt_of_cell? w _ hx306_10)).trans hx306_10
        replace hx306_11 := (HB.out.cell (World.block_lt_of_cell? w _ hx306_11)).trans hx306_11
        replace p306 := eq_true p306
        replace q306 := eq_true q306
        go_wp2_with (first | ((with_reducible refine gate_callee (f := 24) rfl ?_); refine goesL_ (some 18) rfl rfl Try.func24 (by kernel_rfl) rfl #[.agg #[.int .i64 ((rd_T45 l0 x4_1).f0), .int .i64 ((rd_T45 l0 x4_1).f1), .bool ((rd_T45 l0 x4_1).f2.f0), .int .i64 ((rd_T45 l0 x4_1).f2.f1), .int .i64 ((rd_T45 l0 x4_1).f2.f2), .int .i64 ((rd_T45 l0 x4_1).f2.f3), .int .i64 ((rd_T45 l0 x4_1).f2.f4), .int .i64 ((rd_T45 l0 x4_1).f2.f5), .int .i64 ((rd_T45 l0 x4_1).f3.f0), .int .i64 ((rd_T45 l0 x4_1).f3.f1), .int .i64 ((rd_T45 l0 x4_1).f3.f2), .int .i64 ((rd_T45 l0 x4_1).f4)]] rfl (by (try simp only [YI, List.map_cons, List.map_nil]); first | done | rfl | (simp only [YK, YJ]; rfl)) ?_; (with_reducible refine (thalwegref04_Bytes.calls k1 ((rd_T45 l0 x4_1).f0) ((rd_T45 l0 x4_1).f1) ((rd_T45 l0 x4_1).f2.f0) ((rd_T45 l0 x4_1).f2.f1) ((rd_T45 l0 x4_1).f2.f2) ((rd_T45 l0 x4_1).f2.f3) ((rd_T45 l0 x4_1).f2.f4) ((rd_T45 l0 x4_1).f2.f5) ((rd_T45 l0 x4_1).f3.f0) ((rd_T45 l0 x4_1).f3.f1) ((rd_T45 l0 x4_1).f3.f2) ((rd_T45 l0 x4_1).f4) t307 t310 _ A4.out).mono ?_); rintro e w8 ⟨v308, rfl, ho0, hb⟩; refine ⟨_, rfl, ?_⟩; have n0_ := YH (Kd.R_lower ho0 (YE (by repeat (first | (with_reducible first | exact HB.out | apply YA | apply YB | apply YC) | exact HB.out)))); have n1_ := YH (YD (by repeat (first | (with_reducible first | exact HB.out | apply YA | apply YB | apply YC) | exact HB.out)) hb); clear HB; have HO309 := n0_; have HB := n1_; clear n0_ n1_; (try clear hb); (try clear hb2); (try clear hk); (try clear hi); (try clear ho0)))
        go_ret
        exact ⟨by first | rfl | (simp [errW_none, errW_some] <;> rfl) | (simp [*, errW_none, errW_some] <;> rfl), by repeat (first | (with_reducible first | exact HB.out | apply YA | apply YB | apply YC) | exact HB.out)⟩
      rw [if_neg c2] at H
      have c2b0 : decide (x4_1 < (l0.length : Int)) = false := decide_eq_false c2
      clear c2
      obtain rfl := Option.some.inj H
      go_wp2
      go_ret
      exact ⟨by first | rfl | (simp [errW_none, errW_some] <;> rfl) | (simp [*, errW_none, errW_some] <;> rfl), by repeat (first | (with_reducible first | exact HB.out | apply YA | apply YB | apply YC) | exact HB.out)⟩
def thalwegref05_Right.f (k : Nat) (a0_0 : Int) (l0_1 : List (S45)) : Option (Bool) := if a0_0 < 0 then (some false) else (if a0_0 > 65535 then (some false) else (if (l0_1.length : Int) < 1 then (some false) else (if (l0_1.length : Int) > 32 then (some false) else ((thalwegref05_size.f k l0_1).bind fun t312 => (if t312 ≥ 0 then (some (decide (t312 ≤ 512))) else (some false))))))
theorem thalwegref05_Right.mono : ∀ a0 a1 k, LeO (thalwegref05_Right.f k a0 a1) (thalwegref05_Right.f (k + 1) a0 a1) := by
  intro a0 a1 k
  unfold thalwegref05_Right.f
  repeat' first
      | (with_reducible exact thalwegref05_size.mono _ _)
      | (with_reducible exact LeO.refl _)
      | (with_reducible exact LeO.none _)
      | (with_reducible refine LeO.ite ?_ ?_)
      | (with_reducible refine LeO.bind ?_ (fun _ => ?_))
      | exact thalwegref05_size.mono _ _
      | exact LeO.none _
      | refine LeO.ite ?_ ?_
      | refine LeO.bind ?_ (fun _ => ?_)
set_option maxHeartbeats 8000000 in
set_option maxRecDepth 100000 in
theorem thalwegref05_Right.calls (k : Nat) (a0_0 : Int) (A0_1 : Option Addr) (c0_1 : Nat) (l0_1 : List (S45)) (r : Bool) (w : World) (hr0_1 : Kd.C k45 w A0_1 l0_1.length l0_1) (hc0_1 : l0_1.length ≤ c0_1) (h : thalwegref05_Right.f k a0_0 l0_1 = some r) :
    Calls Try.prog 13 #[.agg #[.int .i64 a0_0, .slice A0_1 l0_1.length c0_1]] w fun e w' => e = .returned (.bool r) ∧ Below w.heap.size w w' := by
  have hu24 := Try.underlying24
  have HR0_1 := YH hr0_1; have HC0_1 := YH hc0_1; clear hr0_1 hc0_1
  have HB := YH (Below.refl w.heap.size w)
  have H : (if a0_0 < 0 then (some false) else (if a0_0 > 65535 then (some false) else (if (l0_1.length : Int) < 1 then (some false) else (if (l0_1.length : Int) > 32 then (some false) else ((thalwegref05_size.f k l0_1).bind fun t312 => (if t312 ≥ 0 then (some (decide (t312 ≤ 512))) else (some false))))))) = some r := h
  clear h
  by_cases c2 : a0_0 < 0
  · rw [if_pos c2] at H
    have c2b0 : decide (a0_0 < 0) = true := decide_eq_true c2; clear c2
    obtain rfl := Option.some.inj H
    go_enter Try.func13, Try.ntmps13
    go_wp2_with (first | ((with_reducible refine gate_dst (N := 1) rfl ?_); (try (refine gate_guard (by rfl) ?_; dsimp only)); refine box_event ?hg (N := 1) ?hd (cs := #[.int .i64 a0_0, .slice A0_1 l0_1.length c0_1]) (t := 24) ?hr ?_; (case hd => rfl); (case hg => rfl); (case hr => first | (go_simp; done) | (go_simp; rfl)); intro gb311 hg w3 hbox hb; have n0_ := YH (YD (by repeat (first | (with_reducible first | exact HB.out | apply YA | apply YB | apply YC) | exact HB.out)) hb); have n1_ := YH (hbox); have n2_ := YH ((by rw [hg]; exact (YE (by repeat (first | (with_reducible first | exact HB.out | apply YA | apply YB | apply YC) | exact HB.out))) : w.heap.size ≤ gb311)); have n3_ := YH ((by rw [hg]; exact (YE (by repeat (first | (with_reducible first | exact HB.out | apply YA | apply YB | apply YC) | exact HB.out))) : w.heap.size ≤ gb311)); clear HB; have HB := n0_; have BK311 := n1_; have GW311 := n2_; have GE311 := n3_; clear n0_ n1_ n2_ n3_; clear hb hbox hg; have hcz4_0 : w3.cell? ⟨gb311, 0, none⟩ = some (.int .i64 a0_0) := (YF BK311.out 0).trans rfl; have hcz4_1 : w3.cell? ⟨gb311, 1, none⟩ = some (.slice A0_1 l0_1.length c0_1) := (YF BK311.out 1).trans rfl; have hfz4_0 := YG BK311.out 0; have hfz4_1 := YG BK311.out 1))
    go_ret
    exact ⟨by first | rfl | (simp [errW_none, errW_some] <;> rfl) | (simp [*, errW_none, errW_some] <;> rfl), by repeat (first | (with_reducible first | exact HB.out | apply YA | apply YB | apply YC | refine below_set ?_ GE311.out) | exact HB.out)⟩
  rw [if_neg c2] at H; have c2b0 : decide (a0_0 < 0) = false := decide_eq_false c2; clear c2
  by_cases c5 : a0_0 > 65535
  · rw [if_pos c5] at H
    have c5b0 : decide (65535 < a0_0) = true := decide_eq_true c5; clear c5
    obtain rfl := Option.some.inj H
    go_enter Try.func13, Try.ntmps13
    go_wp2_with (first | ((with_reducible refine gate_dst (N := 1) rfl ?_); (try (refine gate_guard (by rfl) ?_; dsimp only)); refine box_event ?hg (N := 1) ?hd (cs := #[.int .i64 a0_0, .slice A0_1 l0_1.length c0_1]) (t := 24) ?hr ?_; (case hd => rfl); (case hg => rfl); (case hr => first | (go_simp; done) | (go_simp; rfl)); intro gb311 hg w6 hbox hb; have n0_ := YH (YD (by repeat (first | (with_reducible first | exact HB.out | apply YA | apply YB | apply YC) | exact HB.out)) hb); have n1_ := YH (hbox); have n2_ := YH ((by rw [hg]; exact (YE (by repeat (first | (with_reducible first | exact HB.out | apply YA | apply YB | apply YC) | exact HB.out))) : w.heap.size ≤ gb311)); have n3_ := YH ((by rw [hg]; exact (YE (by repeat (first | (with_reducible first | exact HB.out | apply YA | apply YB | apply YC) | exact HB.out))) : w.heap.size ≤ gb311)); clear HB; have HB := n0_; have BK311 := n1_; have GW311 := n2_; have GE311 := n3_; clear n0_ n1_ n2_ n3_; clear hb hbox hg; have hcz7_0 : w6.cell? ⟨gb311, 0, none⟩ = some (.int .i64 a0_0) := (YF BK311.out 0).trans rfl; have hcz7_1 : w6.cell? ⟨gb311, 1, none⟩ = some (.slice A0_1 l0_1.length c0_1) := (YF BK311.out 1).trans rfl; have hfz7_0 := YG BK311.out 0; have hfz7_1 := YG BK311.out 1))
    go_ret
    exact ⟨by first | rfl | (simp [errW_none, errW_some] <;> rfl) | (simp [*, errW_none, errW_some] <;> rfl), by repeat (first | (with_reducible first | exact HB.out | apply YA | apply YB | apply YC | refine below_set ?_ GE311.out) | exact HB.out)⟩
  rw [if_neg c5] at H; have c5b0 : decide (65535 < a0_0) = false := decide_eq_false c5; clear c5
  by_cases c8 : (l0_1.length : Int) < 1
  · rw [if_pos c8] at H
    have c8b0 : decide ((l0_1.length : Int) < 1) = true := decide_eq_true c8
    have c8b1 : decide (l0_1.length < 1) = true := decide_eq_true (by omega)
    clear c8
    obtain rfl := Option.some.inj H
    go_enter Try.func13, Try.ntmps13
    go_wp2_with (first | ((with_reducible refine gate_dst (N := 1) rfl ?_); (try (refine gate_guard (by rfl) ?_; dsimp only)); refine box_event ?hg (N := 1) ?hd (cs := #[.int .i64 a0_0, .slice A0_1 l0_1.length c0_1]) (t := 24) ?hr ?_; (case hd => rfl); (case hg => rfl); (case hr => first | (go_simp; done) | (go_simp; rfl)); intro gb311 hg w9 hbox hb; have n0_ := YH (YD (by repeat (first | (with_reducible first | exact HB.out | apply YA | apply YB | apply YC) | exact HB.out)) hb); have n1_ := YH (hbox); have n2_ := YH ((by rw [hg]; exact (YE (by repeat (first | (with_reducible first | exact HB.out | apply YA | apply YB | apply YC) | exact HB.out))) : w.heap.size ≤ gb311)); have n3_ := YH ((by rw [hg]; exact (YE (by repeat (first | (with_reducible first | exact HB.out | apply YA | apply YB | apply YC) | exact HB.out))) : w.heap.size ≤ gb311)); clear HB; have HB := n0_; have BK311 := n1_; have GW311 := n2_; have GE311 := n3_; clear n0_ n1_ n2_ n3_; clear hb hbox hg; have hcz10_0 : w9.cell? ⟨gb311, 0, none⟩ = some (.int .i64 a0_0) := (YF BK311.out 0).trans rfl; have hcz10_1 : w9.cell? ⟨gb311, 1, none⟩ = some (.slice A0_1 l0_1.length c0_1) := (YF BK311.out 1).trans rfl; have hfz10_0 := YG BK311.out 0; have hfz10_1 := YG BK311.out 1))
    go_ret
    exact ⟨by first | rfl | (simp [errW_none, errW_some] <;> rfl) | (simp [*, errW_none, errW_some] <;> rfl), by repeat (first | (with_reducible first | exact HB.out | apply YA | apply YB | apply YC | refine below_set ?_ GE311.out) | exact HB.out)⟩
  rw [if_neg c8] at H
  have c8b0 : decide ((l0_1.length : Int) < 1) = false := decide_eq_false c8
  have c8b1 : decide (l0_1.length < 1) = false := decide_eq_false (by omega)
  clear c8
  by_cases c11 : (l0_1.length : Int) > 32
  · rw [if_pos c11] at H
    have c11b0 : decide (32 < (l0_1.length : Int)) = true := decide_eq_true c11
    have c11b1 : decide (32 < l0_1.length) = true := decide_eq_true (by omega)
    clear c11
    obtain rfl := Option.some.inj H
    go_enter Try.func13, Try.ntmps13
    go_wp2_with (first | ((with_reducible refine gate_dst (N := 1) rfl ?_); (try (refine gate_guard (by rfl) ?_; dsimp only)); refine box_event ?hg (N := 1) ?hd (cs := #[.int .i64 a0_0, .slice A0_1 l0_1.length c0_1]) (t := 24) ?hr ?_; (case hd => rfl); (case hg => rfl); (case hr => first | (go_simp; done) | (go_simp; rfl)); intro gb311 hg w12 hbox hb; have n0_ := YH (YD (by repeat (first | (with_reducible first | exact HB.out | apply YA | apply YB | apply YC) | exact HB.out)) hb); have n1_ := YH (hbox); have n2_ := YH ((by rw [hg]; exact (YE (by repeat (first | (with_reducible first | exact HB.out | apply YA | apply YB | apply YC) | exact HB.out))) : w.heap.size ≤ gb311)); have n3_ := YH ((by rw [hg]; exact (YE (by repeat (first | (with_reducible first | exact HB.out | apply YA | apply YB | apply YC) | exact HB.out))) : w.heap.size ≤ gb311)); clear HB; have HB := n0_; have BK311 := n1_; have GW311 := n2_; have GE311 := n3_; clear n0_ n1_ n2_ n3_; clear hb hbox hg; have hcz13_0 : w12.cell? ⟨gb311, 0, none⟩ = some (.int .i64 a0_0) := (YF BK311.out 0).trans rfl; have hcz13_1 : w12.cell? ⟨gb311, 1, none⟩ = some (.slice A0_1 l0_1.length c0_1) := (YF BK311.out 1).trans rfl; have hfz13_0 := YG BK311.out 0; have hfz13_1 := YG BK311.out 1))
    go_ret
    exact ⟨by first | rfl | (simp [errW_none, errW_some] <;> rfl) | (simp [*, errW_none, errW_some] <;> rfl), by repeat (first | (with_reducible first | exact HB.out | apply YA | apply YB | apply YC | refine below_set ?_ GE311.out) | exact HB.out)⟩
  rw [if_neg c11] at H
  have c11b0 : decide (32 < (l0_1.length : Int)) = false := decide_eq_false c11
  have c11b1 : decide (32 < l0_1.length) = false := decide_eq_false (by omega)
  clear c11; replace H := Option.bind_eq_some_iff.mp H; obtain ⟨t312, A140, H⟩ := H
  replace H : (if t312 ≥ 0 then (some (decide (t312 ≤ 512))) else (some false)) = some r := H
  have A14 := YH A140; clear A140
  by_cases c15 : t312 ≥ 0
  · rw [if_pos c15] at H
    have c15b0 : decide (0 ≤ t312) = true := decide_eq_true c15; clear c15
    obtain rfl := Option.some.inj H
    go_enter Try.func13, Try.ntmps13
    go_wp2_with (first | ((with_reducible refine gate_dst (N := 1) rfl ?_); (try (refine gate_guard (by rfl) ?_; dsimp only)); refine box_event ?hg (N := 1) ?hd (cs := #[.int .i64 a0_0, .slice A0_1 l0_1.length c0_1]) (t := 24) ?hr ?_; (case hd => rfl); (case hg => rfl); (case hr => first | (go_simp; done) | (go_simp; rfl)); intro gb311 hg w16 hbox hb; have n0_ := YH (YD (by repeat (first | (with_reducible first | exact HB.out | apply YA | apply YB | apply YC) | exact HB.out)) hb); have n1_ := YH (hbox); have n2_ := YH ((by rw [hg]; exact (YE (by repeat (first | (with_reducible first | exact HB.out | apply YA | apply YB | apply YC) | exact HB.out))) : w.heap.size ≤ gb311)); have n3_ := YH ((by rw [hg]; exact (YE (by repeat (first | (with_reducible first | exact HB.out | apply YA | apply YB | apply YC) | exact HB.out))) : w.heap.size ≤ gb311)); clear HB; have HB := n0_; have BK311 := n1_; have GW311 := n2_; have GE311 := n3_; clear n0_ n1_ n2_ n3_; clear hb hbox hg; have hcz17_0 : w16.cell? ⟨gb311, 0, none⟩ = some (.int .i64 a0_0) := (YF BK311.out 0).trans rfl; have hcz17_1 : w16.cell? ⟨gb311, 1, none⟩ = some (.slice A0_1 l0_1.length c0_1) := (YF BK311.out 1).trans rfl; have hfz17_0 := YG BK311.out 0; have hfz17_1 := YG BK311.out 1) | ((with_reducible refine gate_callee (f := 28) rfl ?_); refine goesL_ (some 26) rfl rfl Try.func28 (by kernel_rfl) rfl #[.slice A0_1 l0_1.length c0_1] rfl (by (try simp only [YI, List.map_cons, List.map_nil]); first | done | rfl | (simp only [YK, YJ]; rfl)) ?_; (with_reducible refine (thalwegref05_size.calls k _ _ l0_1 t312 _ ?side1 ?side2 A14.out).mono ?_); (case side1 => repeat (first | exact (Kd.C_below HR0_1.out HB.out) | (with_reducible refine Kd.C_alloc ?_ _) | (with_reducible refine Kd.C_drewN ?_ _) | (with_reducible refine Kd.C_drew ?_))); (case side2 => exact HC0_1.out); rintro e w18 ⟨rfl, hb⟩; refine ⟨_, rfl, ?_⟩; have n0_ := YH (blk_below (g := gb311) (o := .cells #[.int .i64 a0_0, .slice A0_1 l0_1.length c0_1] 24 (0, 0)) (by (with_reducible repeat (first | refine blk_drewN ?_ _ | refine blk_drew ?_ | refine blk_alloc ?_ _)); exact BK311.out) hb); have n1_ := YH (YD (by repeat (first | (with_reducible first | exact HB.out | apply YA | apply YB | apply YC | refine below_set ?_ GE311.out) | exact HB.out)) hb); clear BK311; clear HB; have BK311 := n0_; have HB := n1_; clear n0_ n1_; (try clear hb); (try clear hb2); (try clear hk); (try clear hi)))
    go_ret
    exact ⟨by first | rfl | (simp [errW_none, errW_some] <;> rfl) | (simp [*, errW_none, errW_some] <;> rfl), by repeat (first | (with_reducible first | exact HB.out | apply YA | apply YB | apply YC | refine below_set ?_ GE311.out) | exact HB.out)⟩
  rw [if_neg c15] at H; have c15b0 : decide (0 ≤ t312) = false := decide_eq_false c15; clear c15
  obtain rfl := Option.some.inj H
  go_enter Try.func13, Try.ntmps13
  go_wp2_with (first | ((with_reducible refine gate_dst (N := 1) rfl ?_); (try (refine gate_guard (by rfl) ?_; dsimp only)); refine box_event ?hg (N := 1) ?hd (cs := #[.int .i64 a0_0, .slice A0_1 l0_1.length c0_1]) (t := 24) ?hr ?_; (case hd => rfl); (case hg => rfl); (case hr => first | (go_simp; done) | (go_simp; rfl)); intro gb311 hg w19 hbox hb; have n0_ := YH (YD (by repeat (first | (with_reducible first | exact HB.out | apply YA | apply YB | apply YC) | exact HB.out)) hb); have n1_ := YH (hbox); have n2_ := YH ((by rw [hg]; exact (YE (by repeat (first | (with_reducible first | exact HB.out | apply YA | apply YB | apply YC) | exact HB.out))) : w.heap.size ≤ gb311)); have n3_ := YH ((by rw [hg]; exact (YE (by repeat (first | (with_reducible first | exact HB.out | apply YA | apply YB | apply YC) | exact HB.out))) : w.heap.size ≤ gb311)); clear HB; have HB := n0_; have BK311 := n1_; have GW311 := n2_; have GE311 := n3_; clear n0_ n1_ n2_ n3_; clear hb hbox hg; have hcz20_0 : w19.cell? ⟨gb311, 0, none⟩ = some (.int .i64 a0_0) := (YF BK311.out 0).trans rfl; have hcz20_1 : w19.cell? ⟨gb311, 1, none⟩ = some (.slice A0_1 l0_1.length c0_1) := (YF BK311.out 1).trans rfl; have hfz20_0 := YG BK311.out 0; have hfz20_1 := YG BK311.out 1) | ((with_reducible refine gate_callee (f := 28) rfl ?_); refine goesL_ (some 26) rfl rfl Try.func28 (by kernel_rfl) rfl #[.slice A0_1 l0_1.length c0_1] rfl (by (try simp only [YI, List.map_cons, List.map_nil]); first | done | rfl | (simp only [YK, YJ]; rfl)) ?_; (with_reducible refine (thalwegref05_size.calls k _ _ l0_1 t312 _ ?side1 ?side2 A14.out).mono ?_); (case side1 => repeat (first | exact (Kd.C_below HR0_1.out HB.out) | (with_reducible refine Kd.C_alloc ?_ _) | (with_reducible refine Kd.C_drewN ?_ _) | (with_reducible refine Kd.C_drew ?_))); (case side2 => exact HC0_1.out); rintro e w21 ⟨rfl, hb⟩; refine ⟨_, rfl, ?_⟩; have n0_ := YH (blk_below (g := gb311) (o := .cells #[.int .i64 a0_0, .slice A0_1 l0_1.length c0_1] 24 (0, 0)) (by (with_reducible repeat (first | refine blk_drewN ?_ _ | refine blk_drew ?_ | refine blk_alloc ?_ _)); exact BK311.out) hb); have n1_ := YH (YD (by repeat (first | (with_reducible first | exact HB.out | apply YA | apply YB | apply YC | refine below_set ?_ GE311.out) | exact HB.out)) hb); clear BK311; clear HB; have BK311 := n0_; have HB := n1_; clear n0_ n1_; (try clear hb); (try clear hb2); (try clear hk); (try clear hi)))
  go_ret
  exact ⟨by first | rfl | (simp [errW_none, errW_some] <;> rfl) | (simp [*, errW_none, errW_some] <;> rfl), by repeat (first | (with_reducible first | exact HB.out | apply YA | apply YB | apply YC | refine below_set ?_ GE311.out) | exact HB.out)⟩
end Go.Proofs.Ytfigbjjaffkidaa.P
namespace Go.Proofs.Ytfigbjjaffkidaa.P
open Go.RowKit Go.Proofs.YtfigbjjaffkidaaW.PrintWords Go.Proofs.YtfigbjjaffkidaaW.PrintLast Go.Proofs.YtfigbjjaffkidaaW.PrintMore
open Go.Proofs.YtfigbjjaffkidaaW.PrintWords renaming below_alloc → YA, pw_below_drewN → YB, below_drew1 → YC, below_step → YD, below_size → YE, blk_drewN → YF, blk_drew → YG, blk_alloc → YH, blk_cell → YI, blk_frozen → YJ, blk_below → YK
open Go.Proofs.YtfigbjjaffkidaaW.PrintWords.Aside0 renaming mk → YL
open List renaming map_toArray → YM, length_take → YN, length_drop → YO
open Go.Proofs.YtfigbjjaffkidaaW.PrintWords.Kd renaming R_alloc → YP, R_drewN → YQ, R_drew → YR
attribute [local go_sem] max2_int min2_int max_two min_two max_three min_three max_four min_four   -- for this text's walks alone
def thalwegref05_Bytes.l0 : Nat → List Int → Int → Int → List (S45) → Option (List Int × Int)
  | 0, _, _, _, _ => none
  | k + 1, x4, x5, x314000, x314001 => if x5 < (x314001.length : Int) then (if 0 ≤ x5 then ((thalwegref04_Bytes.f k ((rd_T45 x314001 x5).f0) ((rd_T45 x314001 x5).f1) ((rd_T45 x314001 x5).f2.f0) ((rd_T45 x314001 x5).f2.f1) ((rd_T45 x314001 x5).f2.f2) ((rd_T45 x314001 x5).f2.f3) ((rd_T45 x314001 x5).f2.f4) ((rd_T45 x314001 x5).f2.f5) ((rd_T45 x314001 x5).f3.f0) ((rd_T45 x314001 x5).f3.f1) ((rd_T45 x314001 x5).f3.f2) ((rd_T45 x314001 x5).f4)).bind fun bt319 => (if x4.length + bt319.1.length < 140737488355328 then (thalwegref05_Bytes.l0 k (x4 ++ bt319.1) (wrap64 (x5 + 1)) x314000 x314001) else (none))) else (none)) else (some (x4, 0))
def thalwegref05_Bytes.f (k : Nat) (a0_0 : Int) (l0_1 : List (S45)) : Option (List Int × Int) := (thalwegref05_Right.f k a0_0 l0_1).bind fun t314 => (if t314 = true then (thalwegref05_Bytes.l0 k (([(wrap64 (Int.tdiv a0_0 256)) % 256, (Int.tmod a0_0 256) % 256, ((l0_1.length : Int)) % 256] : List Int)) 0 a0_0 l0_1) else (some (([] : List Int), 1)))
theorem thalwegref05_Bytes.mono_l : ∀ k, (∀ y0 y1 y2 y3, LeO (thalwegref05_Bytes.l0 k y0 y1 y2 y3) (thalwegref05_Bytes.l0 (k + 1) y0 y1 y2 y3))
  | 0 => fun _ _ _ _ r h => by simp [thalwegref05_Bytes.l0] at h
  | k + 1 => by
    have ih0 := thalwegref05_Bytes.mono_l k
    · intro y0 y1 y2 y3
      unfold thalwegref05_Bytes.l0
      repeat' first
      | (with_reducible exact ih0 _ _ _ _)
      | (with_reducible exact thalwegref04_Bytes.mono _ _ _ _ _ _ _ _ _ _ _ _ _)
      | (with_reducible exact thalwegref05_Right.mono _ _ _)
      | (with_reducible exact LeO.refl _)
      | (with_reducible exact LeO.none _)
      | (with_reducible refine LeO.ite ?_ ?_)
      | (with_reducible refine LeO.bind ?_ (fun _ => ?_))
      | exact ih0 _ _ _ _
      | exact thalwegref04_Bytes.mono _ _ _ _ _ _ _ _ _ _ _ _ _
      | exact thalwegref05_Right.mono _ _ _
      | exact LeO.none _
      | refine LeO.ite ?_ ?_
      | refine LeO.bind ?_ (fun _ => ?_)
theorem thalwegref05_Bytes.mono : ∀ a0 a1 k, LeO (thalwegref05_Bytes.f k a0 a1) (thalwegref05_Bytes.f (k + 1) a0 a1) := by
  intro a0 a1 k
  have ih0 := thalwegref05_Bytes.mono_l k
  unfold thalwegref05_Bytes.f
  repeat' first
      | (with_reducible exact ih0 _ _ _ _)
      | (with_reducible exact thalwegref04_Bytes.mono _ _ _ _ _ _ _ _ _ _ _ _ _)
      | (with_reducible exact thalwegref05_Right.mono _ _ _)
      | (with_reducible exact LeO.refl _)
      | (with_reducible exact LeO.none _)
      | (with_reducible refine LeO.ite ?_ ?_)
      | (with_reducible refine LeO.bind ?_ (fun _ => ?_))
      | exact ih0 _ _ _ _
      | exact thalwegref04_Bytes.mono _ _ _ _ _ _ _ _ _ _ _ _ _
      | exact thalwegref05_Right.mono _ _ _
      | exact LeO.none _
      | refine LeO.ite ?_ ?_
      | refine LeO.bind ?_ (fun _ => ?_)
set_option maxHeartbeats 8000000 in
set_option maxRecDepth 100000 in
theorem thalwegref05_Bytes.calls (k : Nat) (a0_0 : Int) (A0_1 : Option Addr) (c0_1 : Nat) (l0_1 : List (S45)) (r1 : List Int) (r2 : Int) (w : World) (hr0_1 : Kd.C k45 w A0_1 l0_1.length l0_1) (hc0_1 : l0_1.length ≤ c0_1) (h : thalwegref05_Bytes.f k a0_0 l0_1 = some (r1, r2)) :
    Calls Try.prog 10 #[.agg #[.int .i64 a0_0, .slice A0_1 l0_1.length c0_1]] w fun e w' => ∃ v0_ : Value, e = .returned (.tuple #[v0_, .int .i64 r2]) ∧ Kd.R (Kd.int .u8) 5 w' w.heap.size (fun _ => True) v0_ r1 ∧ Below w.heap.size w w' := by
  have hu24 := Try.underlying24
  have hu45 := Try.underlying45
  have HR0_1 := YL hr0_1; have HC0_1 := YL hc0_1; clear hr0_1 hc0_1
  have HB := YL (Below.refl w.heap.size w)
  have H : ((thalwegref05_Right.f k a0_0 l0_1).bind fun t314 => (if t314 = true then (thalwegref05_Bytes.l0 k (([(wrap64 (Int.tdiv a0_0 256)) % 256, (Int.tmod a0_0 256) % 256, ((l0_1.length : Int)) % 256] : List Int)) 0 a0_0 l0_1) else (some (([] : List Int), 1)))) = some (r1, r2) := h
  clear h; replace H := Option.bind_eq_some_iff.mp H; obtain ⟨t314, A20, H⟩ := H
  replace H : (if t314 = true then (thalwegref05_Bytes.l0 k (([(wrap64 (Int.tdiv a0_0 256)) % 256, (Int.tmod a0_0 256) % 256, ((l0_1.length : Int)) % 256] : List Int)) 0 a0_0 l0_1) else (some (([] : List Int), 1))) = some (r1, r2) := H
  have A2 := YL A20; clear A20
  by_cases c3 : t314 = true
  · subst c3
    have H1 : (thalwegref05_Bytes.l0 k (([(wrap64 (Int.tdiv a0_0 256)) % 256, (Int.tmod a0_0 256) % 256, ((l0_1.length : Int)) % 256] : List Int)) 0 a0_0 l0_1) = some (r1, r2) := by rw [if_pos rfl] at H; exact H
    clear H
    have H := H1
    clear H1
    obtain ⟨y315, hy315⟩ : ∃ y_ : List Int, y_ = (([(wrap64 (Int.tdiv a0_0 256)) % 256, (Int.tmod a0_0 256) % 256, ((l0_1.length : Int)) % 256] : List Int)) := ⟨_, rfl⟩
    replace H : (thalwegref05_Bytes.l0 k y315 0 a0_0 l0_1) = some (r1, r2) := by first | (rw [hy315]; with_reducible exact H) | (have H2_ := (Option.bind_some _ _).symm.trans H; rw [hy315]; with_reducible exact H2_) | (have H2_ := (Option.bind_some _ _).symm.trans H; with_reducible exact H2_) | with_reducible exact H | (rw [hy315]; exact H) | exact H
    have Ny315 := YL hy315; clear hy315
    have H' := YL H
    clear H
    go_enter Try.func10, Try.ntmps10
    go_wp2_with (first | ((with_reducible refine gate_dst (N := 1) rfl ?_); refine box_event ?hg (N := 1) ?hd (cs := #[.int .i64 a0_0, .slice A0_1 l0_1.length c0_1]) (t := 24) ?hr ?_; (case hd => rfl); (case hg => rfl); (case hr => first | (go_simp; done) | (go_simp; rfl)); intro gb313 hg w4 hbox hb; have n0_ := YL (YD (by repeat (first | (with_reducible first | exact HB.out | apply YA | apply YB | apply YC) | exact HB.out)) hb); have n1_ := YL (hbox); have n2_ := YL ((by rw [hg]; exact (YE (by repeat (first | (with_reducible first | exact HB.out | apply YA | apply YB | apply YC) | exact HB.out))) : w.heap.size ≤ gb313)); have n3_ := YL ((by rw [hg]; exact (YE (by repeat (first | (with_reducible first | exact HB.out | apply YA | apply YB | apply YC) | exact HB.out))) : w.heap.size ≤ gb313)); clear HB; have HB := n0_; have BK313 := n1_; have GW313 := n2_; have GE313 := n3_; clear n0_ n1_ n2_ n3_; clear hb hbox hg; have hcz5_0 : w4.cell? ⟨gb313, 0, none⟩ = some (.int .i64 a0_0) := (YI BK313.out 0).trans rfl; have hcz5_1 : w4.cell? ⟨gb313, 1, none⟩ = some (.slice A0_1 l0_1.length c0_1) := (YI BK313.out 1).trans rfl; have hfz5_0 := YJ BK313.out 0; have hfz5_1 := YJ BK313.out 1) | ((with_reducible refine gate_callee (f := 13) rfl ?_); refine goesL_ (some 9) rfl rfl Try.func13 (by kernel_rfl) rfl #[.agg #[.int .i64 a0_0, .slice A0_1 l0_1.length c0_1]] rfl (by (try simp only [YM, List.map_cons, List.map_nil]); first | done | rfl | (simp only [YO, YN]; rfl)) ?_; (with_reducible refine (thalwegref05_Right.calls k a0_0 _ _ l0_1 true _ ?side1 ?side2 A2.out).mono ?_); (case side1 => repeat (first | exact (Kd.C_below HR0_1.out HB.out) | (with_reducible refine Kd.C_alloc ?_ _) | (with_reducible refine Kd.C_drewN ?_ _) | (with_reducible refine Kd.C_drew ?_))); (case side2 => exact HC0_1.out); rintro e w6 ⟨rfl, hb⟩; refine ⟨_, rfl, ?_⟩; have n0_ := YL (YK (g := gb313) (o := .cells #[.int .i64 a0_0, .slice A0_1 l0_1.length c0_1] 24 (0, 0)) (by (with_reducible repeat (first | refine YF ?_ _ | refine YG ?_ | refine YH ?_ _)); exact BK313.out) hb); have n1_ := YL (YD (by repeat (first | (with_reducible first | exact HB.out | apply YA | apply YB | apply YC | refine below_set ?_ GE313.out) | exact HB.out)) hb); clear BK313; clear HB; have BK313 := n0_; have HB := n1_; clear n0_ n1_; (try clear hb); (try clear hb2); (try clear hk); (try clear hi); have hcz7_0 : w6.cell? ⟨gb313, 0, none⟩ = some (.int .i64 a0_0) := (YI BK313.out 0).trans rfl; have hcz7_1 : w6.cell? ⟨gb313, 1, none⟩ = some (.slice A0_1 l0_1.length c0_1) := (YI BK313.out 1).trans rfl; have hfz7_0 := YJ BK313.out 0; have hfz7_1 := YJ BK313.out 1) | ((with_reducible refine gate_dst (N := 23) rfl ?_); refine Kd.R_lit (Kd.int .u8) _ 5 ?hg (N := 23) ?hd (xs := ([(wrap64 (Int.tdiv a0_0 256)) % 256, (Int.tmod a0_0 256) % 256, ((l0_1.length : Int)) % 256] : List Int)) (inner := [.int .u8 ((wrap64 (Int.tdiv a0_0 256)) % 256), .int .u8 ((Int.tmod a0_0 256) % 256), .int .u8 (((l0_1.length : Int)) % 256)]) (ok := fun _ => True) (okp := fun _ => True) ?hr ?hp (fun _ hk => hk) trivial (Below.refl _ _) (Nat.le_refl _) (by simp) ?_; (case hd => rfl); (case hg => rfl); (case hr => first | (go_simp; done) | (go_simp; rfl)); (case hp => exact (Reps.one (show Kd.M (Kd.int .u8) _ _ _ ((wrap64 (Int.tdiv a0_0 256)) % 256) [.int .u8 ((wrap64 (Int.tdiv a0_0 256)) % 256)] from rfl) (Reps.one (show Kd.M (Kd.int .u8) _ _ _ ((Int.tmod a0_0 256) % 256) [.int .u8 ((Int.tmod a0_0 256) % 256)] from rfl) (Reps.one (show Kd.M (Kd.int .u8) _ _ _ (((l0_1.length : Int)) % 256) [.int .u8 (((l0_1.length : Int)) % 256)] from rfl) (Reps.none _ _))))); intro v316 w8 ho9 hb hg_ hnew_; clear hg_ hnew_; (first | rw [← Ny315.out] at ho9 | (simp only [Int.reduceToNat] at ho9; rw [← Ny315.out] at ho9)); have n0_ := YL (Kd.R_lower ho9 (YE (by repeat (first | (with_reducible first | exact HB.out | apply YA | apply YB | apply YC | refine below_set ?_ GE313.out) | exact HB.out)))); have n1_ := YL (YK (g := gb313) (o := .cells #[.int .i64 a0_0, .slice A0_1 l0_1.length c0_1] 24 (0, 0)) (by (with_reducible repeat (first | refine YF ?_ _ | refine YG ?_ | refine YH ?_ _)); exact BK313.out) hb); have n2_ := YL (YD (by repeat (first | (with_reducible first | exact HB.out | apply YA | apply YB | apply YC | refine below_set ?_ GE313.out) | exact HB.out)) hb); clear BK313; clear HB; have HO317 := n0_; have BK313 := n1_; have HB := n2_; clear n0_ n1_ n2_; clear hb ho9))
    go_loopg [4, 5] k (fun kq v4 v5 w' => ∃ (x4_1 : List Int) (x5_1 : Int), v5 = .int .i64 x5_1 ∧ Aside0 (thalwegref05_Bytes.l0 kq x4_1 x5_1 a0_0 l0_1 = some (r1, r2)) ∧ Aside0 (kq ≤ k) ∧ Aside0 (Kd.R (Kd.int .u8) 5 w' w.heap.size (fun _ => True) v4 x4_1) ∧ Aside0 (w'.heap[gb313]? = some (.cells #[.int .i64 a0_0, (.slice A0_1 l0_1.length c0_1)] 24 (0, 0))) ∧ Aside0 (Below w.heap.size w w'))
    case atStart => exact ⟨(y315), (0), (by first | rfl | (simp; done) | (simp [*]; done)), H', ⟨Nat.le_refl _⟩, ⟨by (with_reducible repeat (first | apply YP | apply YQ | apply YR)); exact HO317.out⟩, ⟨by (with_reducible repeat (first | refine YF ?_ _ | refine YG ?_ | refine YH ?_ _)); exact BK313.out⟩, ⟨by repeat (first | (with_reducible first | exact HB.out | apply YA | apply YB | apply YC | refine below_set ?_ GE313.out) | exact HB.out)⟩⟩
    case round =>
      clear H'
      try clear c1
      try clear p2
      try clear c3
      try clear p6
      try clear hcz5_0
      try clear hcz5_1
      try clear hcz7_0
      try clear hcz7_1
      try clear hfz5_0
      try clear hfz5_1
      try clear hfz7_0
      try clear hfz7_1
      obtain ⟨x4_1, x5_1, rfl, HA, HK1, HO_4, BK313, HB⟩ := hrel
      cases gk with
      | zero => exact absurd HA.out (by simp [thalwegref05_Bytes.l0])
      | succ k1 =>
        have H := HA.out
        clear HA
        simp only [thalwegref05_Bytes.l0] at H
        by_cases c10 : x5_1 < (l0_1.length : Int)
        · rw [if_pos c10] at H
          have c10b0 : decide (x5_1 < (l0_1.length : Int)) = true := decide_eq_true c10
          clear c10
          by_cases c11 : 0 ≤ x5_1
          rotate_left
          · rw [if_neg c11] at H
            exact absurd H (by simp)
          rw [if_pos c11] at H; have c11b0 : decide (0 ≤ x5_1) = true := decide_eq_true c11; clear c11; replace H := Option.bind_eq_some_iff.mp H
          obtain ⟨⟨t319, t322⟩, A120, H⟩ := H
          replace H : (if x4_1.length + t319.length < 140737488355328 then (thalwegref05_Bytes.l0 k1 (x4_1 ++ t319) (wrap64 (x5_1 + 1)) a0_0 l0_1) else (none)) = some (r1, r2) := H
          have A12 := YL A120; clear A120
          by_cases c13 : x4_1.length + t319.length < 140737488355328
          rotate_left
          · rw [if_neg c13] at H
            exact absurd H (by simp)
          rw [if_pos c13] at H; have LMc13 := YL c13; clear c13
          obtain ⟨y323, hy323⟩ : ∃ y_ : List Int, y_ = (x4_1 ++ t319) := ⟨_, rfl⟩
          replace H : (thalwegref05_Bytes.l0 k1 y323 (wrap64 (x5_1 + 1)) a0_0 l0_1) = some (r1, r2) := by first | (rw [hy323]; with_reducible exact H) | (have H2_ := (Option.bind_some _ _).symm.trans H; rw [hy323]; with_reducible exact H2_) | (have H2_ := (Option.bind_some _ _).symm.trans H; with_reducible exact H2_) | with_reducible exact H | (rw [hy323]; exact H) | exact H
          have Ny323 := YL hy323; clear hy323
          have H' := YL H
          clear H
          have hcz14_0 : wr.cell? ⟨gb313, 0, none⟩ = some (.int .i64 a0_0) := (YI BK313.out 0).trans rfl
          have hcz14_1 : wr.cell? ⟨gb313, 1, none⟩ = some (.slice A0_1 l0_1.length c0_1) := (YI BK313.out 1).trans rfl
          have hfz14_0 := YJ BK313.out 0
          have hfz14_1 := YJ BK313.out 1
          have p318 : 0 ≤ (x5_1 : Int) := of_decide_eq_true (by first | (with_reducible assumption) | assumption)
          have q318 : x5_1 < (l0_1.length : Int) := of_decide_eq_true (by first | (with_reducible assumption) | assumption)
          obtain ⟨ad318, e318, hx318_0, hx318_1, hx318_2, hx318_3, hx318_4, hx318_5, hx318_6, hx318_7, hx318_8, hx318_9, hx318_10, hx318_11⟩ := at_T45 HR0_1.out x5_1 p318 q318
          cases e318
          replace hx318_0 := (HB.out.cell (World.block_lt_of_cell? w _ hx318_0)).trans hx318_0
          replace hx318_1 := (HB.out.cell (World.block_lt_of_cell? w _ hx318_1)).trans hx318_1
          replace hx318_2 := (HB.out.cell (World.block_lt_of_cell? w _ hx318_2)).trans hx318_2
          replace hx318_3 := (HB.out.cell (World.block_lt_of_cell? w _ hx318_3)).trans hx318_3
          replace hx318_4 := (HB.out.cell (World.block_lt_of_cell? w _ hx318_4)).trans hx318_4
          replace hx318_5 := (HB.out.cell (World.block_lt_of_cell? w _ hx318_5)).trans hx318_5
          replace hx318_6 := (HB.out.cell (World.block_lt_of_cell? w _ hx318_6)).trans hx318_6
          replace hx318_7 := (HB.out.cell (World.block_lt_of_cell? w _ hx318_7)).trans hx318_7
          replace hx318_8 := (HB.out.cell (World.block_lt_of_cell? w _ hx318_8)).trans hx318_8
          replace hx318_9 := (HB.out.cell (World.block_lt_of_cell? w _ hx318_9)).trans hx318_9
          replace hx318_10 := (HB.out.cell (World.block_lt_of_cell? w _ hx318_10)).trans hx318_10
          replace hx318_11 := (HB.out.cell (World.block_lt_of_cell? w _ hx318_11)).trans hx318_11
          replace p318 := eq_true p318
          replace q318 := eq_true q318
          go_wp2_with (first | ((with_reducible refine gate_callee (f := 24) rfl ?_); refine goesL_ (some 37) rfl rfl Try.func24 (by kernel_rfl) rfl #[.agg #[.int .i64 ((rd_T45 l0_1 x5_1).f0), .int .i64 ((rd_T45 l0_1 x5_1).f1), .bool ((rd_T45 l0_1 x5_1).f2.f0), .int .i64 ((rd_T45 l0_1 x5_1).f2.f1), .int .i64 ((rd_T45 l0_1 x5_1).f2.f2), .int .i64 ((rd_T45 l0_1 x5_1).f2.f3), .int .i64 ((rd_T45 l0_1 x5_1).f2.f4), .int .i64 ((rd_T45 l0_1 x5_1).f2.f5), .int .i64 ((rd_T45 l0_1 x5_1).f3.f0), .int .i64 ((rd_T45 l0_1 x5_1).f3.f1), .int .i64 ((rd_T45 l0_1 x5_1).f3.f2), .int .i64 ((rd_T45 l0_1 x5_1).f4)]] rfl (by (try simp only [YM, List.map_cons, List.map_nil]); first | done | rfl | (simp only [YO, YN]; rfl)) ?_; (with_reducible refine (thalwegref04_Bytes.calls k1 ((rd_T45 l0_1 x5_1).f0) ((rd_T45 l0_1 x5_1).f1) ((rd_T45 l0_1 x5_1).f2.f0) ((rd_T45 l0_1 x5_1).f2.f1) ((rd_T45 l0_1 x5_1).f2.f2) ((rd_T45 l0_1 x5_1).f2.f3) ((rd_T45 l0_1 x5_1).f2.f4) ((rd_T45 l0_1 x5_1).f2.f5) ((rd_T45 l0_1 x5_1).f3.f0) ((rd_T45 l0_1 x5_1).f3.f1) ((rd_T45 l0_1 x5_1).f3.f2) ((rd_T45 l0_1 x5_1).f4) t319 t322 _ A12.out).mono ?_); rintro e w15 ⟨v320, rfl, ho0, hb⟩; refine ⟨_, rfl, ?_⟩; have n0_ := YL (Kd.R_elder' (by (with_reducible repeat (first | apply YP | apply YQ | apply YR)); exact HO_4.out) (Kd.R_base ho0) hb); have n1_ := YL (Kd.R_lower (Kd.R_new' ho0 (Kd.R_lt (by (with_reducible repeat (first | apply YP | apply YQ | apply YR)); exact HO_4.out))) (YE (by repeat (first | (with_reducible first | exact HB.out | apply YA | apply YB | apply YC | refine below_set ?_ GE313.out) | exact HB.out)))); have n2_ := YL (YK (g := gb313) (o := .cells #[.int .i64 a0_0, .slice (some ad318) l0_1.length c0_1] 24 (0, 0)) (by (with_reducible repeat (first | refine YF ?_ _ | refine YG ?_ | refine YH ?_ _)); exact BK313.out) hb); have n3_ := YL (YD (by repeat (first | (with_reducible first | exact HB.out | apply YA | apply YB | apply YC | refine below_set ?_ GE313.out) | exact HB.out)) hb); clear HO_4; clear BK313; clear HB; have HO_4 := n0_; have HO321 := n1_; have BK313 := n2_; have HB := n3_; clear n0_ n1_ n2_ n3_; (try clear hb); (try clear hb2); (try clear hk); (try clear hi); (try clear ho0); obtain ⟨Ao17, co17, eo17⟩ := Kd.R_slice HO321.out; subst eo17) | ((with_reducible refine gate_builtin (b := .append) (xs := #[.tmp 40, .tmp 41]) rfl ?_); at_builtin; refine Kd.R_append_rows (Kd.int .u8) (w0 := w) w.heap.size rfl (.tmp 40) (.tmp 41) 26 5 (.int .u8 0) 1 rfl Try.underlying26 info5 rfl (by decide) (by omega) u4 x4_1 t319 _ _ _ (fun k_ => some k_ ≠ (.slice Ao17 t319.length co17 : Value).ownBlock) (fun _ => False) rfl rfl ?aO ?aR (fun _ _ h => h) (fun _ h => h.elim) ?aF ?aB ?aS ?aL ?_; (case aR => repeat (first | exact (Kd.R_reads' HO321.out).2.2 | (with_reducible refine Kd.C_alloc ?_ _) | (with_reducible refine Kd.C_drewN ?_ _) | (with_reducible refine Kd.C_drew ?_))); (case aB => exact (by repeat (first | (with_reducible first | exact HB.out | apply YA | apply YB | apply YC | refine below_set ?_ GE313.out) | exact HB.out))); (case aF => exact (fun k_ hk => Kd.fresh' (Kd.R_lt (by (with_reducible repeat (first | apply YP | apply YQ | apply YR)); exact HO321.out)) k_ hk)); (case aO => exact (by (with_reducible repeat (first | apply YP | apply YQ | apply YR)); exact Kd.R_mono HO_4.out (fun _ hk => by first | exact hk.2 | exact trivial | (simp [hk]; done) | simp_all))); (case aS => exact (YE (by repeat (first | (with_reducible first | exact HB.out | apply YA | apply YB | apply YC | refine below_set ?_ GE313.out) | exact HB.out)))); (case aL => have := LMc13.out; omega); intro v324 w16 ho hb hg hat; rw [← Ny323.out] at ho; have n0_ := YL (blk_grown (g := gb313) (o := .cells #[.int .i64 a0_0, .slice (some ad318) l0_1.length c0_1] 24 (0, 0)) (by (with_reducible repeat (first | refine YF ?_ _ | refine YG ?_ | refine YH ?_ _)); exact BK313.out) hg (Kd.R_ne HO_4.out BK313.out (by decide))); have n1_ := YL (Kd.R_after (ok := (fun _ => True)) (by (with_reducible repeat (first | apply YP | apply YQ | apply YR)); exact HO321.out) hg hat); have n2_ := YL (hb); have n3_ := YL (ho); clear BK313; clear HO321; clear HB; clear HO_4; have BK313 := n0_; have HO321 := n1_; have HB := n2_; have HO325 := n3_; clear n0_ n1_ n2_ n3_; clear ho hb hg hat))
          go_roundg k1
          case measure => have := HK1.out; omega
          case rel => exact ⟨(y323), (wrap64 (x5_1 + 1)), (by first | rfl | (simp; done) | (simp [*]; done)), H', ⟨by have := HK1.out; omega⟩, ⟨by (with_reducible repeat (first | apply YP | apply YQ | apply YR)); exact Kd.R_mono HO325.out (fun _ hk => trivial)⟩, ⟨by (with_reducible repeat (first | refine YF ?_ _ | refine YG ?_ | refine YH ?_ _)); exact BK313.out⟩, ⟨by repeat (first | (with_reducible first | exact HB.out | apply YA | apply YB | apply YC | refine below_set ?_ GE313.out) | exact HB.out)⟩⟩
        rw [if_neg c10] at H
        have c10b0 : decide (x5_1 < (l0_1.length : Int)) = false := decide_eq_false c10
        clear c10
        simp only [Option.some.injEq, Prod.mk.injEq] at H
        obtain ⟨rfl, rfl⟩ := H
        have hcz18_0 : wr.cell? ⟨gb313, 0, none⟩ = some (.int .i64 a0_0) := (YI BK313.out 0).trans rfl
        have hcz18_1 : wr.cell? ⟨gb313, 1, none⟩ = some (.slice A0_1 l0_1.length c0_1) := (YI BK313.out 1).trans rfl
        have hfz18_0 := YJ BK313.out 0
        have hfz18_1 := YJ BK313.out 1
        go_wp2
        go_ret2
        exact ⟨_, by first | rfl | (simp [errW_none, errW_some] <;> rfl) | (simp [*, errW_none, errW_some] <;> rfl), by (with_reducible repeat (first | apply YP | apply YQ | apply YR)); exact HO_4.out, by repeat (first | (with_reducible first | exact HB.out | apply YA | apply YB | apply YC | refine below_set ?_ GE313.out) | exact HB.out)⟩
  replace c3 := Bool.eq_false_iff.mpr c3
  subst c3
  have H1 : (some (([] : List Int), 1)) = some (r1, r2) := by rw [if_neg (show ¬ (false = true) by decide)] at H; exact H
  clear H
  have H := H1
  clear H1
  simp only [Option.some.injEq, Prod.mk.injEq] at H
  obtain ⟨rfl, rfl⟩ := H
  go_enter Try.func10, Try.ntmps10
  go_wp2_with (first | ((with_reducible refine gate_dst (N := 1) rfl ?_); refine box_event ?hg (N := 1) ?hd (cs := #[.int .i64 a0_0, .slice A0_1 l0_1.length c0_1]) (t := 24) ?hr ?_; (case hd => rfl); (case hg => rfl); (case hr => first | (go_simp; done) | (go_simp; rfl)); intro gb313 hg w19 hbox hb; have n0_ := YL (YD (by repeat (first | (with_reducible first | exact HB.out | apply YA | apply YB | apply YC) | exact HB.out)) hb); have n1_ := YL (hbox); have n2_ := YL ((by rw [hg]; exact (YE (by repeat (first | (with_reducible first | exact HB.out | apply YA | apply YB | apply YC) | exact HB.out))) : w.heap.size ≤ gb313)); have n3_ := YL ((by rw [hg]; exact (YE (by repeat (first | (with_reducible first | exact HB.out | apply YA | apply YB | apply YC) | exact HB.out))) : w.heap.size ≤ gb313)); clear HB; have HB := n0_; have BK313 := n1_; have GW313 := n2_; have GE313 := n3_; clear n0_ n1_ n2_ n3_; clear hb hbox hg; have hcz20_0 : w19.cell? ⟨gb313, 0, none⟩ = some (.int .i64 a0_0) := (YI BK313.out 0).trans rfl; have hcz20_1 : w19.cell? ⟨gb313, 1, none⟩ = some (.slice A0_1 l0_1.length c0_1) := (YI BK313.out 1).trans rfl; have hfz20_0 := YJ BK313.out 0; have hfz20_1 := YJ BK313.out 1) | ((with_reducible refine gate_callee (f := 13) rfl ?_); refine goesL_ (some 9) rfl rfl Try.func13 (by kernel_rfl) rfl #[.agg #[.int .i64 a0_0, .slice A0_1 l0_1.length c0_1]] rfl (by (try simp only [YM, List.map_cons, List.map_nil]); first | done | rfl | (simp only [YO, YN]; rfl)) ?_; (with_reducible refine (thalwegref05_Right.calls k a0_0 _ _ l0_1 false _ ?side1 ?side2 A2.out).mono ?_); (case side1 => repeat (first | exact (Kd.C_below HR0_1.out HB.out) | (with_reducible refine Kd.C_alloc ?_ _) | (with_reducible refine Kd.C_drewN ?_ _) | (with_reducible refine Kd.C_drew ?_))); (case side2 => exact HC0_1.out); rintro e w21 ⟨rfl, hb⟩; refine ⟨_, rfl, ?_⟩; have n0_ := YL (YK (g := gb313) (o := .cells #[.int .i64 a0_0, .slice A0_1 l0_1.length c0_1] 24 (0, 0)) (by (with_reducible repeat (first | refine YF ?_ _ | refine YG ?_ | refine YH ?_ _)); exact BK313.out) hb); have n1_ := YL (YD (by repeat (first | (with_reducible first | exact HB.out | apply YA | apply YB | apply YC | refine below_set ?_ GE313.out) | exact HB.out)) hb); clear BK313; clear HB; have BK313 := n0_; have HB := n1_; clear n0_ n1_; (try clear hb); (try clear hb2); (try clear hk); (try clear hi)))
  go_ret2
  exact ⟨_, by first | rfl | (simp [errW_none, errW_some] <;> rfl) | (simp [*, errW_none, errW_some] <;> rfl), by first | exact Kd.R_nil _ _ _ _ _ | exact Kd.N_nil _ _ _ _ _ | exact Kd.V_nil _ _ _ _ _ | exact Kd.Q_nil _ _ _ _ _ | exact Kd.S_nil _ _ _ _ _, by repeat (first | (with_reducible first | exact HB.out | apply YA | apply YB | apply YC | refine below_set ?_ GE313.out) | exact HB.out)⟩
def thalweglaw05_awake.f (k : Nat)  : Option (Bool) := (batch_Bytes.f k 7 (([(⟨1, 5, (⟨false, 0, 0, 0, 0, 0⟩ : S41), (⟨0, 0, 0⟩ : S43), 0⟩ : S45), (⟨1, 6, (⟨false, 0, 0, 0, 0, 0⟩ : S41), (⟨0, 0, 0⟩ : S43), 0⟩ : S45)] : List (S45)))).bind fun bt329 => (if (strOfNums bt329.1).toList = ([0, 7, 2, 1, 5, 1, 6] : List UInt8) then (some (bt329.2 == 0)) else (none))
theorem thalweglaw05_awake.mono : ∀ k, LeO (thalweglaw05_awake.f k ) (thalweglaw05_awake.f (k + 1) ) := by
  intro  k
  unfold thalweglaw05_awake.f
  repeat' first
      | (with_reducible exact batch_Bytes.mono _ _ _)
      | (with_reducible exact LeO.refl _)
      | (with_reducible exact LeO.none _)
      | (with_reducible refine LeO.ite ?_ ?_)
      | (with_reducible refine LeO.bind ?_ (fun _ => ?_))
      | exact batch_Bytes.mono _ _ _
      | exact LeO.none _
      | refine LeO.ite ?_ ?_
      | refine LeO.bind ?_ (fun _ => ?_)
set_option maxHeartbeats 8000000 in
set_option maxRecDepth 100000 in
theorem thalweglaw05_awake.calls (k : Nat)  (r : Bool) (w : World) (h : thalweglaw05_awake.f k  = some r) :
    Calls Try.prog 11 #[] w fun e w' => e = .returned (.bool r) ∧ Below w.heap.size w w' := by
  have hu45 := Try.underlying45
  have hu24 := Try.underlying24
  have HB := YL (Below.refl w.heap.size w)
  have H : ((batch_Bytes.f k 7 (([(⟨1, 5, (⟨false, 0, 0, 0, 0, 0⟩ : S41), (⟨0, 0, 0⟩ : S43), 0⟩ : S45), (⟨1, 6, (⟨false, 0, 0, 0, 0, 0⟩ : S41), (⟨0, 0, 0⟩ : S43), 0⟩ : S45)] : List (S45)))).bind fun bt329 => (if (strOfNums bt329.1).toList = ([0, 7, 2, 1, 5, 1, 6] : List UInt8) then (some (bt329.2 == 0)) else (none))) = some r := h
  clear h
  obtain ⟨y326, hy326⟩ : ∃ y_ : List (S45), y_ = (([(⟨1, 5, (⟨false, 0, 0, 0, 0, 0⟩ : S41), (⟨0, 0, 0⟩ : S43), 0⟩ : S45), (⟨1, 6, (⟨false, 0, 0, 0, 0, 0⟩ : S41), (⟨0, 0, 0⟩ : S43), 0⟩ : S45)] : List (S45))) := ⟨_, rfl⟩
  replace H : ((batch_Bytes.f k 7 y326).bind fun bt329 => (if (strOfNums bt329.1).toList = ([0, 7, 2, 1, 5, 1, 6] : List UInt8) then (some (bt329.2 == 0)) else (none))) = some r := by first | (rw [hy326]; with_reducible exact H) | (have H2_ := (Option.bind_some _ _).symm.trans H; rw [hy326]; with_reducible exact H2_) | (have H2_ := (Option.bind_some _ _).symm.trans H; with_reducible exact H2_) | with_reducible exact H | (rw [hy326]; exact H) | exact H
  have Ny326 := YL hy326; clear hy326; replace H := Option.bind_eq_some_iff.mp H
  obtain ⟨⟨t329, t332⟩, A10, H⟩ := H
  replace H : (if (strOfNums t329).toList = ([0, 7, 2, 1, 5, 1, 6] : List UInt8) then (some (t332 == 0)) else (none)) = some r := H
  have A1 := YL A10; clear A10
  by_cases c2 : (strOfNums t329).toList = ([0, 7, 2, 1, 5, 1, 6] : List UInt8)
  rotate_left
  · rw [if_neg c2] at H
    exact absurd H (by simp)
  rw [if_pos c2] at H
  have c2b0 : ((strOfNums t329).toList == ([0, 7, 2, 1, 5, 1, 6] : List UInt8)) = true := beq_iff_eq.mpr c2
  have c2b1 : ((strOfNums t329).toList != ([0, 7, 2, 1, 5, 1, 6] : List UInt8)) = false := bne_eq_false_iff_eq.mpr c2
  clear c2
  obtain rfl := Option.some.inj H
  go_enter Try.func11, Try.ntmps11
  go_wp2_with (first | ((with_reducible refine gate_dst (N := 6) rfl ?_); refine Kd.R_lit k45 _ 45 ?hg (N := 6) ?hd (xs := ([(⟨1, 5, (⟨false, 0, 0, 0, 0, 0⟩ : S41), (⟨0, 0, 0⟩ : S43), 0⟩ : S45), (⟨1, 6, (⟨false, 0, 0, 0, 0, 0⟩ : S41), (⟨0, 0, 0⟩ : S43), 0⟩ : S45)] : List (S45))) (inner := [.int .i64 1, .int .i64 5, .bool false, .int .i64 0, .int .i64 0, .int .i64 0, .int .i64 0, .int .i64 0, .int .i64 0, .int .i64 0, .int .i64 0, .int .i64 0, .int .i64 1, .int .i64 6, .bool false, .int .i64 0, .int .i64 0, .int .i64 0, .int .i64 0, .int .i64 0, .int .i64 0, .int .i64 0, .int .i64 0, .int .i64 0]) (ok := fun _ => True) (okp := fun _ => True) ?hr ?hp (fun _ hk => hk) trivial (Below.refl _ _) (Nat.le_refl _) (by simp) ?_; (case hd => rfl); (case hg => rfl); (case hr => first | (go_simp; done) | (go_simp; rfl)); (case hp => exact (Reps.front (show Kd.M k45 _ _ _ (⟨1, 5, (⟨false, 0, 0, 0, 0, 0⟩ : S41), (⟨0, 0, 0⟩ : S43), 0⟩ : S45) [.int .i64 1, .int .i64 5, .bool false, .int .i64 0, .int .i64 0, .int .i64 0, .int .i64 0, .int .i64 0, .int .i64 0, .int .i64 0, .int .i64 0, .int .i64 0] from (k45_mkM _ _ _ (⟨1, 5, (⟨false, 0, 0, 0, 0, 0⟩ : S41), (⟨0, 0, 0⟩ : S43), 0⟩ : S45) )) rfl (Reps.front (show Kd.M k45 _ _ _ (⟨1, 6, (⟨false, 0, 0, 0, 0, 0⟩ : S41), (⟨0, 0, 0⟩ : S43), 0⟩ : S45) [.int .i64 1, .int .i64 6, .bool false, .int .i64 0, .int .i64 0, .int .i64 0, .int .i64 0, .int .i64 0, .int .i64 0, .int .i64 0, .int .i64 0, .int .i64 0] from (k45_mkM _ _ _ (⟨1, 6, (⟨false, 0, 0, 0, 0, 0⟩ : S41), (⟨0, 0, 0⟩ : S43), 0⟩ : S45) )) rfl (Reps.none _ _) rfl) rfl)); intro v327 w3 ho4 hb hg_ hnew_; clear hg_ hnew_; (first | rw [← Ny326.out] at ho4 | (simp only [Int.reduceToNat] at ho4; rw [← Ny326.out] at ho4)); have n0_ := YL (Kd.R_lower ho4 (YE (by repeat (first | (with_reducible first | exact HB.out | apply YA | apply YB | apply YC) | exact HB.out)))); have n1_ := YL (YD (by repeat (first | (with_reducible first | exact HB.out | apply YA | apply YB | apply YC) | exact HB.out)) hb); clear HB; have HO328 := n0_; have HB := n1_; clear n0_ n1_; clear hb ho4; obtain ⟨Ao5, co5, eo5⟩ := Kd.R_slice HO328.out; subst eo5) | ((with_reducible refine gate_callee (f := 9) rfl ?_); refine goesL_ (some 8) rfl rfl Try.func9 (by kernel_rfl) rfl #[.agg #[.int .i64 7, .slice Ao5 y326.length co5]] rfl (by (try simp only [YM, List.map_cons, List.map_nil]); first | done | rfl | (simp only [YO, YN]; rfl)) ?_; (with_reducible refine (batch_Bytes.calls k 7 _ _ y326 t329 t332 _ ?side1 ?side2 A1.out).mono ?_); (case side1 => repeat (first | exact (Kd.R_reads' HO328.out).2.2 | (with_reducible refine Kd.C_alloc ?_ _) | (with_reducible refine Kd.C_drewN ?_ _) | (with_reducible refine Kd.C_drew ?_))); (case side2 => exact (Kd.R_reads' HO328.out).2.1); rintro e w6 ⟨v330, rfl, ho0, hb⟩; refine ⟨_, rfl, ?_⟩; have n0_ := YL (Kd.R_below (by (with_reducible repeat (first | apply YP | apply YQ | apply YR)); exact HO328.out) hb); have n1_ := YL (Kd.R_lower ho0 (YE (by repeat (first | (with_reducible first | exact HB.out | apply YA | apply YB | apply YC) | exact HB.out)))); have n2_ := YL (YD (by repeat (first | (with_reducible first | exact HB.out | apply YA | apply YB | apply YC) | exact HB.out)) hb); clear HO328; clear HB; have HO328 := n0_; have HO331 := n1_; have HB := n2_; clear n0_ n1_ n2_; (try clear hb); (try clear hb2); (try clear hk); (try clear hi); (try clear ho0); have hcv7 := own_string (P := Try.prog) Try.underlying26 Try.underlying5 Try.underlying9 (Kd.own_of_R HO331.out)))
  go_ret
  exact ⟨by first | rfl | (simp [errW_none, errW_some] <;> rfl) | (simp [*, errW_none, errW_some] <;> rfl), by repeat (first | (with_reducible first | exact HB.out | apply YA | apply YB | apply YC) | exact HB.out)⟩
end Go.Proofs.Ytfigbjjaffkidaa.P
namespace Go.Proofs.Ytfigbjjaffkidaa.P
open Go.RowKit Go.Proofs.YtfigbjjaffkidaaW.PrintWords Go.Proofs.YtfigbjjaffkidaaW.PrintLast Go.Proofs.YtfigbjjaffkidaaW.PrintMore
open Go.Proofs.YtfigbjjaffkidaaW.PrintWords.Aside0 renaming mk → YA
attribute [local go_sem] max2_int min2_int max_two min_two max_three min_three max_four min_four   -- for this text's walks alone
attribute [local go_sem high] eqA45
def thalwegref04_Same.l0 : Nat → List (S45) → List (S45) → Int → Option (Bool)
  | 0, _, _, _ => none
  | k + 1, x0, x1, x5 => if x5 < (x0.length : Int) then (if 0 ≤ x5 then (if x5 < (x1.length : Int) then (if (!(((rd_T45 x0 x5).f0) == ((rd_T45 x1 x5).f0)) || (!(((rd_T45 x0 x5).f1) == ((rd_T45 x1 x5).f1)) || ((!(((rd_T45 x0 x5).f2.f0) == ((rd_T45 x1 x5).f2.f0)) || (!(((rd_T45 x0 x5).f2.f1) == ((rd_T45 x1 x5).f2.f1)) || (!(((rd_T45 x0 x5).f2.f2) == ((rd_T45 x1 x5).f2.f2)) || (!(((rd_T45 x0 x5).f2.f3) == ((rd_T45 x1 x5).f2.f3)) || (!(((rd_T45 x0 x5).f2.f4) == ((rd_T45 x1 x5).f2.f4)) || (!(((rd_T45 x0 x5).f2.f5) == ((rd_T45 x1 x5).f2.f5)))))))) || ((!(((rd_T45 x0 x5).f3.f0) == ((rd_T45 x1 x5).f3.f0)) || (!(((rd_T45 x0 x5).f3.f1) == ((rd_T45 x1 x5).f3.f1)) || (!(((rd_T45 x0 x5).f3.f2) == ((rd_T45 x1 x5).f3.f2))))) || (!(((rd_T45 x0 x5).f4) == ((rd_T45 x1 x5).f4))))))) = true then (some false) else (thalwegref04_Same.l0 k x0 x1 (wrap64 (x5 + 1)))) else (none)) else (none)) else (some true)
def thalwegref04_Same.f (k : Nat) (l0 : List (S45)) (l1 : List (S45)) : Option (Bool) := if (l0.length : Int) = (l1.length : Int) then (thalwegref04_Same.l0 k l0 l1 0) else (some false)
theorem thalwegref04_Same.mono_l : ∀ k, (∀ y0 y1 y2, LeO (thalwegref04_Same.l0 k y0 y1 y2) (thalwegref04_Same.l0 (k + 1) y0 y1 y2))
  | 0 => fun _ _ _ r h => by simp [thalwegref04_Same.l0] at h
  | k + 1 => by
    have ih0 := thalwegref04_Same.mono_l k
    · intro y0 y1 y2
      unfold thalwegref04_Same.l0
      repeat' first
      | (with_reducible exact ih0 _ _ _)
      | (with_reducible exact LeO.refl _)
      | (with_reducible exact LeO.none _)
      | (with_reducible refine LeO.ite ?_ ?_)
      | (with_reducible refine LeO.bind ?_ (fun _ => ?_))
      | exact ih0 _ _ _
      | exact LeO.none _
      | refine LeO.ite ?_ ?_
      | refine LeO.bind ?_ (fun _ => ?_)
theorem thalwegref04_Same.mono : ∀ a0 a1 k, LeO (thalwegref04_Same.f k a0 a1) (thalwegref04_Same.f (k + 1) a0 a1) := by
  intro a0 a1 k
  have ih0 := thalwegref04_Same.mono_l k
  unfold thalwegref04_Same.f
  repeat' first
      | (with_reducible exact ih0 _ _ _)
      | (with_reducible exact LeO.refl _)
      | (with_reducible exact LeO.none _)
      | (with_reducible refine LeO.ite ?_ ?_)
      | (with_reducible refine LeO.bind ?_ (fun _ => ?_))
      | exact ih0 _ _ _
      | exact LeO.none _
      | refine LeO.ite ?_ ?_
      | refine LeO.bind ?_ (fun _ => ?_)
set_option maxHeartbeats 8000000 in
set_option maxRecDepth 100000 in
theorem thalwegref04_Same.calls (k : Nat) (A0 : Option Addr) (c0 : Nat) (l0 : List (S45)) (A1 : Option Addr) (c1 : Nat) (l1 : List (S45)) (r : Bool) (w : World) (hr0 : Kd.C k45 w A0 l0.length l0) (hc0 : l0.length ≤ c0) (hr1 : Kd.C k45 w A1 l1.length l1) (hc1 : l1.length ≤ c1) (h : thalwegref04_Same.f k l0 l1 = some r) :
    Calls Try.prog 14 #[.slice A0 l0.length c0, .slice A1 l1.length c1] w fun e w' => e = .returned (.bool r) ∧ Drawn0 w w' := by
  have hu45 := Try.underlying45
  have HR0 := YA hr0; have HC0 := YA hc0; clear hr0 hc0; have HR1 := YA hr1; have HC1 := YA hc1; clear hr1 hc1
  have H : (if (l0.length : Int) = (l1.length : Int) then (thalwegref04_Same.l0 k l0 l1 0) else (some false)) = some r := h
  clear h
  by_cases c3 : (l0.length : Int) = (l1.length : Int)
  · rw [if_pos c3] at H
    have c3b0 : ((l0.length : Int) == (l1.length : Int)) = true := beq_iff_eq.mpr c3
    have c3b1 : ((l0.length : Int) != (l1.length : Int)) = false := bne_eq_false_iff_eq.mpr c3
    have c3b2 : (l0.length == l1.length) = true := by first | simpa using c3 | (simp at c3 ⊢; omega)
    clear c3
    have H' := YA H
    clear H
    go_enter Try.func14, Try.ntmps14
    go_wp2
    repeat (go_quiet (fail); try go_wp2)
    go_loopg [5] k (fun kq v5 w' => ∃ (x5_1 : Int), v5 = .int .i64 x5_1 ∧ Aside0 (thalwegref04_Same.l0 kq l0 l1 x5_1 = some r) ∧ Aside0 (kq ≤ k) ∧ Drawn0 w w')
    case atStart => exact ⟨(0), (by first | rfl | (simp; done) | (simp [*]; done)), H', ⟨Nat.le_refl _⟩, by repeat (first | exact Drawn0.refl _ | apply Drawn0.step)⟩
    case round =>
      clear H'
      try clear c1
      try clear p2
      try clear c3
      try clear c3b0
      try clear c3b1
      try clear c3b2
      obtain ⟨x5_1, rfl, HA, HK1, ⟨m1, rfl⟩⟩ := hrel
      cases gk with
      | zero => exact absurd HA.out (by simp [thalwegref04_Same.l0])
      | succ k1 =>
        have H := HA.out
        clear HA
        simp only [thalwegref04_Same.l0] at H
        by_cases c4 : x5_1 < (l0.length : Int)
        · rw [if_pos c4] at H
          have c4b0 : decide (x5_1 < (l0.length : Int)) = true := decide_eq_true c4
          clear c4
          by_cases c5 : 0 ≤ x5_1
          rotate_left
          · rw [if_neg c5] at H
            exact absurd H (by simp)
          rw [if_pos c5] at H; have c5b0 : decide (0 ≤ x5_1) = true := decide_eq_true c5; clear c5
          by_cases c6 : x5_1 < (l1.length : Int)
          rotate_left
          · rw [if_neg c6] at H
            exact absurd H (by simp)
          rw [if_pos c6] at H
          have c6b0 : decide (x5_1 < (l1.length : Int)) = true := decide_eq_true c6
          clear c6
          by_cases c7 : (!(((rd_T45 l0 x5_1).f0) == ((rd_T45 l1 x5_1).f0)) || (!(((rd_T45 l0 x5_1).f1) == ((rd_T45 l1 x5_1).f1)) || ((!(((rd_T45 l0 x5_1).f2.f0) == ((rd_T45 l1 x5_1).f2.f0)) || (!(((rd_T45 l0 x5_1).f2.f1) == ((rd_T45 l1 x5_1).f2.f1)) || (!(((rd_T45 l0 x5_1).f2.f2) == ((rd_T45 l1 x5_1).f2.f2)) || (!(((rd_T45 l0 x5_1).f2.f3) == ((rd_T45 l1 x5_1).f2.f3)) || (!(((rd_T45 l0 x5_1).f2.f4) == ((rd_T45 l1 x5_1).f2.f4)) || (!(((rd_T45 l0 x5_1).f2.f5) == ((rd_T45 l1 x5_1).f2.f5)))))))) || ((!(((rd_T45 l0 x5_1).f3.f0) == ((rd_T45 l1 x5_1).f3.f0)) || (!(((rd_T45 l0 x5_1).f3.f1) == ((rd_T45 l1 x5_1).f3.f1)) || (!(((rd_T45 l0 x5_1).f3.f2) == ((rd_T45 l1 x5_1).f3.f2))))) || (!(((rd_T45 l0 x5_1).f4) == ((rd_T45 l1 x5_1).f4))))))) = true
          · rw [if_pos c7] at H
            have c7b0 : (!(((rd_T45 l0 x5_1).f0) == ((rd_T45 l1 x5_1).f0)) || (!(((rd_T45 l0 x5_1).f1) == ((rd_T45 l1 x5_1).f1)) || ((!(((rd_T45 l0 x5_1).f2.f0) == ((rd_T45 l1 x5_1).f2.f0)) || (!(((rd_T45 l0 x5_1).f2.f1) == ((rd_T45 l1 x5_1).f2.f1)) || (!(((rd_T45 l0 x5_1).f2.f2) == ((rd_T45 l1 x5_1).f2.f2)) || (!(((rd_T45 l0 x5_1).f2.f3) == ((rd_T45 l1 x5_1).f2.f3)) || (!(((rd_T45 l0 x5_1).f2.f4) == ((rd_T45 l1 x5_1).f2.f4)) || (!(((rd_T45 l0 x5_1).f2.f5) == ((rd_T45 l1 x5_1).f2.f5)))))))) || ((!(((rd_T45 l0 x5_1).f3.f0) == ((rd_T45 l1 x5_1).f3.f0)) || (!(((rd_T45 l0 x5_1).f3.f1) == ((rd_T45 l1 x5_1).f3.f1)) || (!(((rd_T45 l0 x5_1).f3.f2) == ((rd_T45 l1 x5_1).f3.f2))))) || (!(((rd_T45 l0 x5_1).f4) == ((rd_T45 l1 x5_1).f4))))))) = true := c7
            clear c7
            obtain rfl := Option.some.inj H
            have p333 : 0 ≤ (x5_1 : Int) := of_decide_eq_true (by first | (with_reducible assumption) | assumption)
            have q333 : x5_1 < (l0.length : Int) := of_decide_eq_true (by first | (with_reducible assumption) | assumption)
            obtain ⟨ad333, e333, hx333_0, hx333_1, hx333_2, hx333_3, hx333_4, hx333_5, hx333_6, hx333_7, hx333_8, hx333_9, hx333_10, hx333_11⟩ := at_T45 HR0.out x5_1 p333 q333
            cases e333
            replace p333 := eq_true p333
            replace q333 := eq_true q333
            have p334 : 0 ≤ (x5_1 : Int) := of_decide_eq_true (by first | (with_reducible assumption) | assumption)
            have q334 : x5_1 < (l1.length : Int) := of_decide_eq_true (by first | (with_reducible assumption) | assumption)
            obtain ⟨ad334, e334, hx334_0, hx334_1, hx334_2, hx334_3, hx334_4, hx334_5, hx334_6, hx334_7, hx334_8, hx334_9, hx334_10, hx334_11⟩ := at_T45 HR1.out x5_1 p334 q334
            cases e334
            replace p334 := eq_true p334
            replace q334 := eq_true q334
            go_wp2
            repeat (go_quiet (fail); try go_wp2)
            go_ret
            exact ⟨by first | rfl | (simp; done) | (simp [*]; done), by repeat (first | exact Drawn0.refl _ | apply Drawn0.step)⟩
          rw [if_neg c7] at H
          have c7b0 : (!(((rd_T45 l0 x5_1).f0) == ((rd_T45 l1 x5_1).f0)) || (!(((rd_T45 l0 x5_1).f1) == ((rd_T45 l1 x5_1).f1)) || ((!(((rd_T45 l0 x5_1).f2.f0) == ((rd_T45 l1 x5_1).f2.f0)) || (!(((rd_T45 l0 x5_1).f2.f1) == ((rd_T45 l1 x5_1).f2.f1)) || (!(((rd_T45 l0 x5_1).f2.f2) == ((rd_T45 l1 x5_1).f2.f2)) || (!(((rd_T45 l0 x5_1).f2.f3) == ((rd_T45 l1 x5_1).f2.f3)) || (!(((rd_T45 l0 x5_1).f2.f4) == ((rd_T45 l1 x5_1).f2.f4)) || (!(((rd_T45 l0 x5_1).f2.f5) == ((rd_T45 l1 x5_1).f2.f5)))))))) || ((!(((rd_T45 l0 x5_1).f3.f0) == ((rd_T45 l1 x5_1).f3.f0)) || (!(((rd_T45 l0 x5_1).f3.f1) == ((rd_T45 l1 x5_1).f3.f1)) || (!(((rd_T45 l0 x5_1).f3.f2) == ((rd_T45 l1 x5_1).f3.f2))))) || (!(((rd_T45 l0 x5_1).f4) == ((rd_T45 l1 x5_1).f4))))))) = false := by simpa using c7
          clear c7
          have H' := YA H
          clear H
          have p333 : 0 ≤ (x5_1 : Int) := of_decide_eq_true (by first | (with_reducible assumption) | assumption)
          have q333 : x5_1 < (l0.length : Int) := of_decide_eq_true (by first | (with_reducible assumption) | assumption)
          obtain ⟨ad333, e333, hx333_0, hx333_1, hx333_2, hx333_3, hx333_4, hx333_5, hx333_6, hx333_7, hx333_8, hx333_9, hx333_10, hx333_11⟩ := at_T45 HR0.out x5_1 p333 q333
          cases e333
          replace p333 := eq_true p333
          replace q333 := eq_true q333
          have p334 : 0 ≤ (x5_1 : Int) := of_decide_eq_true (by first | (with_reducible assumption) | assumption)
          have q334 : x5_1 < (l1.length : Int) := of_decide_eq_true (by first | (with_reducible assumption) | assumption)
          obtain ⟨ad334, e334, hx334_0, hx334_1, hx334_2, hx334_3, hx334_4, hx334_5, hx334_6, hx334_7, hx334_8, hx334_9, hx334_10, hx334_11⟩ := at_T45 HR1.out x5_1 p334 q334
          cases e334
          replace p334 := eq_true p334
          replace q334 := eq_true q334
          go_wp2
          repeat (go_quiet (fail); try go_wp2)
          go_roundg k1
          case measure => have := HK1.out; omega
          case rel => exact ⟨(wrap64 (x5_1 + 1)), (by first | rfl | (simp; done) | (simp [*]; done)), H', ⟨by have := HK1.out; omega⟩, by repeat (first | exact Drawn0.refl _ | apply Drawn0.step)⟩
        rw [if_neg c4] at H
        have c4b0 : decide (x5_1 < (l0.length : Int)) = false := decide_eq_false c4
        clear c4
        obtain rfl := Option.some.inj H
        go_wp2
        repeat (go_quiet (fail); try go_wp2)
        go_ret
        exact ⟨by first | rfl | (simp; done) | (simp [*]; done), by repeat (first | exact Drawn0.refl _ | apply Drawn0.step)⟩
  rw [if_neg c3] at H
  have c3b0 : ((l0.length : Int) == (l1.length : Int)) = false := beq_eq_false_iff_ne.mpr c3
  have c3b1 : ((l0.length : Int) != (l1.length : Int)) = true := bne_iff_ne.mpr c3
  have c3b2 : (l0.length == l1.length) = false := by first | simpa using c3 | (simp at c3 ⊢; omega)
  obtain rfl := Option.some.inj H
  go_enter Try.func14, Try.ntmps14
  go_wp2
  repeat (go_quiet (fail); try go_wp2)
  go_ret
  exact ⟨by first | rfl | (simp; done) | (simp [*]; done), by repeat (first | exact Drawn0.refl _ | apply Drawn0.step)⟩
end Go.Proofs.Ytfigbjjaffkidaa.P
namespace Go.Proofs.Ytfigbjjaffkidaa.P
open Go.RowKit Go.Proofs.YtfigbjjaffkidaaW.PrintWords Go.Proofs.YtfigbjjaffkidaaW.PrintLast Go.Proofs.YtfigbjjaffkidaaW.PrintMore
open Go.Proofs.YtfigbjjaffkidaaW.PrintWords renaming below_alloc → YA, pw_below_drewN → YB, below_drew1 → YC, below_step → YD, below_size → YE, blk_drewN → YF, blk_drew → YG, blk_alloc → YH, blk_cell → YI, blk_frozen → YJ, blk_below → YK
open Go.Proofs.YtfigbjjaffkidaaW.PrintWords.Aside0 renaming mk → YL
open List renaming setIfInBounds_toArray → YM, set_cons_zero → YN, set_cons_succ → YO, map_toArray → YP, length_take → YQ, length_drop → YR
open Go.Proofs.YtfigbjjaffkidaaW.PrintWords.Kd renaming R_alloc → YS, R_drewN → YT, R_drew → YU, R_below → YV
attribute [local go_sem] max2_int min2_int max_two min_two max_three min_three max_four min_four   -- for this text's walks alone
def thalweglaw05_BatchDoes.f (k : Nat) (a0_0 : Int) (l0_1 : List (S45)) : Option (Bool) := if (l0_1.length : Int) > 60 then (some true) else ((thalwegref04_Own.f l0_1).bind fun t336 => ((batch_Bytes.f k a0_0 t336).bind fun bt340 => ((thalwegref05_Bytes.f k a0_0 l0_1).bind fun bt344 => ((thalweglaw05_awake.f k).bind fun t348 => (if t348 = true then ((batch_Check.f k a0_0 t336).bind fun t349 => ((thalwegref05_Right.f k a0_0 l0_1).bind fun t350 => (if ((t349 == 0) == t350) = true then (if (strOfNums bt340.1).toList = (strOfNums bt344.1).toList then (if bt340.2 = bt344.2 then ((thalwegref04_Same.f k t336 l0_1).bind fun t351 => (some t351)) else (none)) else (none)) else (none)))) else (none))))))
theorem thalweglaw05_BatchDoes.mono : ∀ a0 a1 k, LeO (thalweglaw05_BatchDoes.f k a0 a1) (thalweglaw05_BatchDoes.f (k + 1) a0 a1) := by
  intro a0 a1 k
  unfold thalweglaw05_BatchDoes.f
  repeat' first
      | (with_reducible exact batch_Bytes.mono _ _ _)
      | (with_reducible exact batch_Check.mono _ _ _)
      | (with_reducible exact thalweglaw05_awake.mono _)
      | (with_reducible exact thalwegref04_Same.mono _ _ _)
      | (with_reducible exact thalwegref05_Bytes.mono _ _ _)
      | (with_reducible exact thalwegref05_Right.mono _ _ _)
      | (with_reducible exact LeO.refl _)
      | (with_reducible exact LeO.none _)
      | (with_reducible refine LeO.ite ?_ ?_)
      | (with_reducible refine LeO.bind ?_ (fun _ => ?_))
      | exact batch_Bytes.mono _ _ _
      | exact batch_Check.mono _ _ _
      | exact thalweglaw05_awake.mono _
      | exact thalwegref04_Same.mono _ _ _
      | exact thalwegref05_Bytes.mono _ _ _
      | exact thalwegref05_Right.mono _ _ _
      | exact LeO.none _
      | refine LeO.ite ?_ ?_
      | refine LeO.bind ?_ (fun _ => ?_)
def thalweglaw05_BatchDoes.T3 : Bool × List (List Nat × List Nat) := (true, [([], []), ([0], [0]), ([], []), ([2], [2]), ([3], [3]), ([1, 4], [1, 4]), ([], []), ([6, 5, 4, 0, 1, 2, 3, 4, 5, 6], [5, 6])])
def thalweglaw05_BatchDoes.B3 : List Nat := [0, 1, 0, 4, 12, 31, 0, 127]
theorem thalweglaw05_BatchDoes.tab3 : rtab .any (opsOf Try.f3 3) = thalweglaw05_BatchDoes.T3 := by kernel_rfl
theorem thalweglaw05_BatchDoes.bits3 : waitsOk thalweglaw05_BatchDoes.T3.2 thalweglaw05_BatchDoes.B3 = true := by kernel_rfl
def thalweglaw05_BatchDoes.T6 : Bool × List (List Nat × List Nat) := (true, [([], []), ([0, 0], [0]), ([1], [1]), ([2, 1, 1], [1, 2]), ([3, 1], [1, 3]), ([1], [1]), ([5, 3, 1], [1, 5]), ([4, 6, 1], [1, 4, 6]), ([1, 7], [1, 7]), ([8, 6], [8]), ([9], [9]), ([10, 9], [9, 10]), ([9], [9]), ([12, 9], [9, 12]), ([11, 13, 9], [9, 11, 13]), ([9, 14], [9, 14]), ([15, 9], [15]), ([16], [16]), ([16], [16]), ([17, 18, 16], [16, 17, 18]), ([16, 19], [16, 19]), ([20, 16], [20]), ([21], [21]), ([22, 21], [21, 22]), ([21], [21]), ([24, 21], [21, 24]), ([23, 25, 21, 21], [21, 23, 25]), ([21, 26], [21, 26]), ([27, 26, 0, 1, 2, 3, 4, 5, 6, 7, 8, 9, 10, 11, 12, 13, 14, 15, 16, 17, 18, 19, 20, 21, 22, 23, 24, 25, 26, 27], [27])])
def thalweglaw05_BatchDoes.B6 : List Nat := [0, 1, 3, 7, 15, 3, 47, 127, 255, 511, 1023, 2047, 1023, 5119, 16383, 32767, 65535, 131071, 131071, 524287, 1048575, 2097151, 4194303, 8388607, 4194303, 20971519, 67108863, 134217727, 268435455]
theorem thalweglaw05_BatchDoes.tab6 : rtab .any (opsOf Try.f3 6) = thalweglaw05_BatchDoes.T6 := by kernel_rfl
theorem thalweglaw05_BatchDoes.bits6 : waitsOk thalweglaw05_BatchDoes.T6.2 thalweglaw05_BatchDoes.B6 = true := by kernel_rfl
set_option maxHeartbeats 8000000 in
set_option maxRecDepth 100000 in
theorem thalweglaw05_BatchDoes.calls (k : Nat) (a0_0 : Int) (A0_1 : Option Addr) (c0_1 : Nat) (l0_1 : List (S45)) (r : Bool) (w : World) (hr0_1 : Kd.C k45 w A0_1 l0_1.length l0_1) (hc0_1 : l0_1.length ≤ c0_1) (h : thalweglaw05_BatchDoes.f k a0_0 l0_1 = some r) :
    Calls Try.prog 3 #[.agg #[.int .i64 a0_0, .slice A0_1 l0_1.length c0_1]] w fun e w' => e = .returned (.bool r) ∧ Below w.heap.size w w' := by
  have hu24 := Try.underlying24
  have HR0_1 := YL hr0_1; have HC0_1 := YL hc0_1; clear hr0_1 hc0_1
  have HB := YL (Below.refl w.heap.size w)
  have H : (if (l0_1.length : Int) > 60 then (some true) else ((thalwegref04_Own.f l0_1).bind fun t336 => ((batch_Bytes.f k a0_0 t336).bind fun bt340 => ((thalwegref05_Bytes.f k a0_0 l0_1).bind fun bt344 => ((thalweglaw05_awake.f k).bind fun t348 => (if t348 = true then ((batch_Check.f k a0_0 t336).bind fun t349 => ((thalwegref05_Right.f k a0_0 l0_1).bind fun t350 => (if ((t349 == 0) == t350) = true then (if (strOfNums bt340.1).toList = (strOfNums bt344.1).toList then (if bt340.2 = bt344.2 then ((thalwegref04_Same.f k t336 l0_1).bind fun t351 => (some t351)) else (none)) else (none)) else (none)))) else (none))))))) = some r := h
  clear h
  by_cases c2 : (l0_1.length : Int) > 60
  · rw [if_pos c2] at H
    have c2b0 : decide (60 < (l0_1.length : Int)) = true := decide_eq_true c2
    have c2b1 : decide (60 < l0_1.length) = true := decide_eq_true (by omega)
    clear c2
    obtain rfl := Option.some.inj H
    go_enter Try.func3, Try.ntmps3
    go_wp2_with (first | ((with_reducible refine gate_dst (N := 1) rfl ?_); refine box_event ?hg (N := 1) ?hd (cs := #[.int .i64 a0_0, .slice A0_1 l0_1.length c0_1]) (t := 24) ?hr ?_; (case hd => rfl); (case hg => rfl); (case hr => first | (go_simp; done) | (go_simp; rfl)); intro gb335 hg w3 hbox hb; have n0_ := YL (YD (by repeat (first | (with_reducible first | exact HB.out | apply YA | apply YB | apply YC) | exact HB.out)) hb); have n1_ := YL (hbox); have n2_ := YL ((by rw [hg]; exact (YE (by repeat (first | (with_reducible first | exact HB.out | apply YA | apply YB | apply YC) | exact HB.out))) : w.heap.size ≤ gb335)); have n3_ := YL ((by rw [hg]; exact (YE (by repeat (first | (with_reducible first | exact HB.out | apply YA | apply YB | apply YC) | exact HB.out))) : w.heap.size ≤ gb335)); clear HB; have HB := n0_; have BK335 := n1_; have GW335 := n2_; have GE335 := n3_; clear n0_ n1_ n2_ n3_; clear hb hbox hg; have hcz4_0 : w3.cell? ⟨gb335, 0, none⟩ = some (.int .i64 a0_0) := (YI BK335.out 0).trans rfl; have hcz4_1 : w3.cell? ⟨gb335, 1, none⟩ = some (.slice A0_1 l0_1.length c0_1) := (YI BK335.out 1).trans rfl; have hfz4_0 := YJ BK335.out 0; have hfz4_1 := YJ BK335.out 1))
    go_ret
    exact ⟨by first | rfl | (simp [errW_none, errW_some] <;> rfl) | (simp [*, errW_none, errW_some] <;> rfl), by repeat (first | (with_reducible first | exact HB.out | apply YA | apply YB | apply YC | refine below_set ?_ GE335.out) | exact HB.out)⟩
  rw [if_neg c2] at H
  have c2b0 : decide (60 < (l0_1.length : Int)) = false := decide_eq_false c2
  have c2b1 : decide (60 < l0_1.length) = false := decide_eq_false (by omega)
  clear c2; replace H := Option.bind_eq_some_iff.mp H; obtain ⟨t336, A50, H⟩ := H
  replace H : ((batch_Bytes.f k a0_0 t336).bind fun bt340 => ((thalwegref05_Bytes.f k a0_0 l0_1).bind fun bt344 => ((thalweglaw05_awake.f k).bind fun t348 => (if t348 = true then ((batch_Check.f k a0_0 t336).bind fun t349 => ((thalwegref05_Right.f k a0_0 l0_1).bind fun t350 => (if ((t349 == 0) == t350) = true then (if (strOfNums bt340.1).toList = (strOfNums bt344.1).toList then (if bt340.2 = bt344.2 then ((thalwegref04_Same.f k t336 l0_1).bind fun t351 => (some t351)) else (none)) else (none)) else (none)))) else (none))))) = some r := H
  have A5 := YL A50; clear A50; replace H := Option.bind_eq_some_iff.mp H
  obtain ⟨⟨t340, t343⟩, A60, H⟩ := H
  replace H : ((thalwegref05_Bytes.f k a0_0 l0_1).bind fun bt344 => ((thalweglaw05_awake.f k).bind fun t348 => (if t348 = true then ((batch_Check.f k a0_0 t336).bind fun t349 => ((thalwegref05_Right.f k a0_0 l0_1).bind fun t350 => (if ((t349 == 0) == t350) = true then (if (strOfNums t340).toList = (strOfNums bt344.1).toList then (if t343 = bt344.2 then ((thalwegref04_Same.f k t336 l0_1).bind fun t351 => (some t351)) else (none)) else (none)) else (none)))) else (none)))) = some r := H
  have A6 := YL A60; clear A60; replace H := Option.bind_eq_some_iff.mp H
  obtain ⟨⟨t344, t347⟩, A70, H⟩ := H
  replace H : ((thalweglaw05_awake.f k).bind fun t348 => (if t348 = true then ((batch_Check.f k a0_0 t336).bind fun t349 => ((thalwegref05_Right.f k a0_0 l0_1).bind fun t350 => (if ((t349 == 0) == t350) = true then (if (strOfNums t340).toList = (strOfNums t344).toList then (if t343 = t347 then ((thalwegref04_Same.f k t336 l0_1).bind fun t351 => (some t351)) else (none)) else (none)) else (none)))) else (none))) = some r := H
  have A7 := YL A70; clear A70; replace H := Option.bind_eq_some_iff.mp H; obtain ⟨t348, A80, H⟩ := H
  replace H : (if t348 = true then ((batch_Check.f k a0_0 t336).bind fun t349 => ((thalwegref05_Right.f k a0_0 l0_1).bind fun t350 => (if ((t349 == 0) == t350) = true then (if (strOfNums t340).toList = (strOfNums t344).toList then (if t343 = t347 then ((thalwegref04_Same.f k t336 l0_1).bind fun t351 => (some t351)) else (none)) else (none)) else (none)))) else (none)) = some r := H
  have A8 := YL A80; clear A80
  by_cases c9 : t348 = true
  · subst c9
    have H1 : ((batch_Check.f k a0_0 t336).bind fun t349 => ((thalwegref05_Right.f k a0_0 l0_1).bind fun t350 => (if ((t349 == 0) == t350) = true then (if (strOfNums t340).toList = (strOfNums t344).toList then (if t343 = t347 then ((thalwegref04_Same.f k t336 l0_1).bind fun t351 => (some t351)) else (none)) else (none)) else (none)))) = some r := by rw [if_pos rfl] at H; exact H
    clear H
    have H := H1
    clear H1; replace H := Option.bind_eq_some_iff.mp H; obtain ⟨t349, A100, H⟩ := H
    replace H : ((thalwegref05_Right.f k a0_0 l0_1).bind fun t350 => (if ((t349 == 0) == t350) = true then (if (strOfNums t340).toList = (strOfNums t344).toList then (if t343 = t347 then ((thalwegref04_Same.f k t336 l0_1).bind fun t351 => (some t351)) else (none)) else (none)) else (none))) = some r := H
    have A10 := YL A100; clear A100; replace H := Option.bind_eq_some_iff.mp H; obtain ⟨t350, A110, H⟩ := H
    replace H : (if ((t349 == 0) == t350) = true then (if (strOfNums t340).toList = (strOfNums t344).toList then (if t343 = t347 then ((thalwegref04_Same.f k t336 l0_1).bind fun t351 => (some t351)) else (none)) else (none)) else (none)) = some r := H
    have A11 := YL A110; clear A110
    by_cases c12 : ((t349 == 0) == t350) = true
    rotate_left
    · rw [if_neg c12] at H
      exact absurd H (by simp)
    rw [if_pos c12] at H
    have c12b0 : ((t349 == 0) == t350) = true := c12
    (try (have c12b1 : decide ((t349 == 0) = t350) = true := by simpa using c12))
    (try (have c12b2 : ((t349 == 0) == t350) = true := by simpa using c12))
    clear c12
    by_cases c13 : (strOfNums t340).toList = (strOfNums t344).toList
    rotate_left
    · rw [if_neg c13] at H
      exact absurd H (by simp)
    rw [if_pos c13] at H
    have c13b0 : ((strOfNums t340).toList == (strOfNums t344).toList) = true := beq_iff_eq.mpr c13
    have c13b1 : ((strOfNums t340).toList != (strOfNums t344).toList) = false := bne_eq_false_iff_eq.mpr c13
    clear c13
    by_cases c14 : t343 = t347
    rotate_left
    · rw [if_neg c14] at H
      exact absurd H (by simp)
    rw [if_pos c14] at H
    have c14b0 : (t343 == t347) = true := beq_iff_eq.mpr c14
    have c14b1 : (t343 != t347) = false := bne_eq_false_iff_eq.mpr c14
    clear c14; replace H := Option.bind_eq_some_iff.mp H; obtain ⟨t351, A150, H⟩ := H
    replace H : (some t351) = some r := H
    have A15 := YL A150; clear A150
    obtain rfl := Option.some.inj H
    go_enter Try.func3, Try.ntmps3
    try go_wp2_with (first | ((with_reducible refine gate_dst (N := 1) rfl ?_); refine box_event ?hg (N := 1) ?hd (cs := #[.int .i64 a0_0, .slice A0_1 l0_1.length c0_1]) (t := 24) ?hr ?_; (case hd => rfl); (case hg => rfl); (case hr => first | (go_simp; done) | (go_simp; rfl)); intro gb335 hg w16 hbox hb; have n0_ := YL (YD (by repeat (first | (with_reducible first | exact HB.out | apply YA | apply YB | apply YC) | exact HB.out)) hb); have n1_ := YL (hbox); have n2_ := YL ((by rw [hg]; exact (YE (by repeat (first | (with_reducible first | exact HB.out | apply YA | apply YB | apply YC) | exact HB.out))) : w.heap.size ≤ gb335)); have n3_ := YL ((by rw [hg]; exact (YE (by repeat (first | (with_reducible first | exact HB.out | apply YA | apply YB | apply YC) | exact HB.out))) : w.heap.size ≤ gb335)); clear HB; have HB := n0_; have BK335 := n1_; have GW335 := n2_; have GE335 := n3_; clear n0_ n1_ n2_ n3_; clear hb hbox hg; have hcz17_0 : w16.cell? ⟨gb335, 0, none⟩ = some (.int .i64 a0_0) := (YI BK335.out 0).trans rfl; have hcz17_1 : w16.cell? ⟨gb335, 1, none⟩ = some (.slice A0_1 l0_1.length c0_1) := (YI BK335.out 1).trans rfl; have hfz17_0 := YJ BK335.out 0; have hfz17_1 := YJ BK335.out 1))
    have n0_ := YL (YG BK335.out)
    have n1_ := YL (YC HB.out)
    clear BK335; clear HB; have BK335 := n0_; have HB := n1_; clear n0_ n1_
    refine start_ (n := 8) (S := fun w' => w'.cell? ⟨gb335, 0, none⟩ = some (.int .i64 a0_0) ∧ w'.cell? ⟨gb335, 1, none⟩ = some (.slice A0_1 l0_1.length c0_1)) (ds := []) #[false, false, false, false, false, false, false, false] (by kernel_rfl) rfl rfl ⟨(YI BK335.out 0).trans rfl, (YI BK335.out 1).trans rfl⟩ (fun hHeld => ?_); refine with_tabW thalweglaw05_BatchDoes.tab3 thalweglaw05_BatchDoes.bits3 (fun HT_ HW_ => ?_)
    generalize w16.drew = w18 at BK335 HB hHeld ⊢
    refine pure_ (i := 0) (N := some 12) (v := ?_) (a' := ?_) #[true, false, false, false, false, false, false, false] rfl rfl (any_of HT_.out (by kernel_rfl)) (fun _ _ _ h => h) (Or.inl ⟨by rfl, ?_⟩) ?_ ?_
    rotate_left
    · intro w'
      go_simp; with_reducible rfl
    rotate_left
    · simp only [Act.put, YM, YN, YO, i64_w, i32_w]
      rfl
    refine pure_ (i := 2) (N := some 14) (v := ?_) (a' := ?_) #[true, false, true, false, false, false, false, false] rfl rfl (any_of HT_.out (by kernel_rfl)) (fun _ _ _ h => h) (Or.inl ⟨by rfl, ?_⟩) ?_ ?_
    rotate_left
    · intro w'
      go_simp; with_reducible rfl
    rotate_left
    · simp only [Act.put, YM, YN, YO, i64_w, i32_w]
      rfl
    refine take_ (i := 1) (N := some 13) (v := ?_) (a' := ?_) #[true, true, true, false, false, false, false, false] rfl rfl (take_ofW HT_.out HW_.out (by kernel_rfl)) (fun _ _ _ h => h) (Or.inl ⟨by rfl, ?_⟩) hHeld ?_ ?_
    rotate_left
    · rintro w' ⟨s0, s1⟩
      go_simp; with_reducible rfl
    rotate_left
    · simp only [Act.put, YM, YN, YO, i64_w, i32_w]
      rfl
    refine take_ (i := 3) (N := some 15) (v := ?_) (a' := ?_) #[true, true, true, true, false, false, false, false] rfl rfl (take_ofW HT_.out HW_.out (by kernel_rfl)) (fun _ _ _ h => h) (Or.inl ⟨by rfl, ?_⟩) hHeld ?_ ?_
    rotate_left
    · rintro w' ⟨s0, s1⟩
      go_simp; with_reducible rfl
    rotate_left
    · simp only [Act.put, YM, YN, YO, i64_w, i32_w]
      rfl
    refine join_ (σ := Value × Nat) 1 #[true, true, true, true, true, true, true, false] (fun s_ => [(16, s_.1), (3, .pointer (some ⟨s_.2, 0, none⟩)), (17, .agg #[.int .i64 a0_0, s_.1])]) (fun s_ w' => (w'.cell? ⟨gb335, 0, none⟩ = some (.int .i64 a0_0) ∧ w'.cell? ⟨gb335, 1, none⟩ = some (.slice A0_1 l0_1.length c0_1)) ∧ (Kd.R k45 45 w' w.heap.size (fun _ => True) s_.1 t336) ∧ (w'.heap[gb335]? = some (.cells #[.int .i64 a0_0, .slice A0_1 l0_1.length c0_1] 24 (0, 0))) ∧ (w'.heap[s_.2]? = some (.cells #[.int .i64 0, .slice none 0 0] 24 (0, 0))) ∧ (w.heap.size ≤ s_.2) ∧ (w.heap.size ≤ s_.2) ∧ (gb335 ≠ s_.2) ∧ (s_.2 ≠ gb335) ∧ (Below w.heap.size w w')) ?_ ?_
    rotate_left
    · intro hCont
      refine two_ (i := 4) (j := 6) (Ni := some 16) (Nj := some 3) #[true, true, true, true, true, false, false, false] #[true, true, true, true, false, false, true, false] rfl rfl rfl rfl (two_of HT_.out (by kernel_rfl)) (by decide) (by decide) (fun K hK => ?_) (fun K hK => ?_)
      · skip
        refine goes_ Try.func8 (by kernel_rfl) rfl #[.slice A0_1 l0_1.length c0_1] (by rfl) rfl rfl (by (try simp only [YP, List.map_cons, List.map_nil]); first | done | rfl | (simp only [YR, YQ]; rfl)) ?_
        with_reducible refine (thalwegref04_Own.calls _ _ l0_1 t336 _ ?side1 ?side2 A5.out).mono ?_
        (case side1 => repeat (first | exact (Kd.C_below HR0_1.out HB.out) | (with_reducible refine Kd.C_alloc ?_ _) | (with_reducible refine Kd.C_drewN ?_ _) | (with_reducible refine Kd.C_drew ?_)))
        (case side2 => exact HC0_1.out)
        rintro e w19 ⟨v337, rfl, ho0, hb⟩
        refine ⟨_, rfl, ?_⟩
        have n0_ := YL (Kd.R_lower ho0 (YE (by repeat (first | (with_reducible first | exact HB.out | apply YA | apply YB | apply YC | refine below_set ?_ GE335.out) | exact HB.out))))
        have n1_ := YL (YK (g := gb335) (o := .cells #[.int .i64 a0_0, .slice A0_1 l0_1.length c0_1] 24 (0, 0)) (by (with_reducible repeat (first | refine YF ?_ _ | refine YG ?_ | refine YH ?_ _)); exact BK335.out) hb)
        have n2_ := YL (YD (by repeat (first | (with_reducible first | exact HB.out | apply YA | apply YB | apply YC | refine below_set ?_ GE335.out) | exact HB.out)) hb)
        clear BK335; clear HB; have HO338 := n0_; have BK335 := n1_; have HB := n2_; clear n0_ n1_ n2_; (try clear hb); (try clear hb2); (try clear hk); (try clear hi); (try clear ho0)
        obtain ⟨Ao20, co20, eo20⟩ := Kd.R_slice HO338.out
        (first | subst eo20 | (injection eo20 with f1_ f2_ f3_; have f4_ := f1_.symm; have f5_ := f3_.symm; clear f1_ f2_ f3_; subst f4_; subst f5_))
        refine hK.out _ _ ⟨(YI BK335.out 0).trans rfl, (YI BK335.out 1).trans rfl⟩ (fun hHeld => ?_)
        clear hK K
        refine norm_ (a' := ?_) ?_ ?_
        rotate_left
        · show Act.put _ (some 16) _ = _
          simp only [Act.put, YM, YN, YO, i64_w, i32_w]
          rfl
        refine pure_ (i := 5) (N := some 17) (v := ?_) (a' := ?_) #[true, true, true, true, true, true, false, false] rfl rfl (any_of HT_.out (by kernel_rfl)) (fun _ _ _ h => h) (Or.inl ⟨by rfl, ?_⟩) ?_ ?_
        rotate_left
        · intro w'
          go_simp; with_reducible rfl
        rotate_left
        · simp only [Act.put, YM, YN, YO, i64_w, i32_w]
          rfl
        refine one_ (i := 6) (N := some 3) #[true, true, true, true, true, true, true, false] rfl rfl (one_of HT_.out (by kernel_rfl)) (by decide) (fun K hK => ?_)
        refine box_step ?hg (N := 3) ?hd (cs := #[.int .i64 0, .slice none 0 0]) (t := 24) ?hr ?_; (case hd => rfl); (case hg => rfl); (case hr => first | (go_simp; done) | (go_simp; rfl))
        intro gb339 hg w21 hbox hb
        have n0_ := YL (YV (by (with_reducible repeat (first | apply YS | apply YT | apply YU)); exact HO338.out) hb)
        have n1_ := YL (YK (g := gb335) (o := .cells #[.int .i64 a0_0, .slice A0_1 l0_1.length c0_1] 24 (0, 0)) (by (with_reducible repeat (first | refine YF ?_ _ | refine YG ?_ | refine YH ?_ _)); exact BK335.out) hb)
        have n2_ := YL (YD (by repeat (first | (with_reducible first | exact HB.out | apply YA | apply YB | apply YC | refine below_set ?_ GE335.out) | exact HB.out)) hb)
        have n3_ := YL (hbox)
        have n4_ := YL ((by rw [hg]; exact (YE (by repeat (first | (with_reducible first | exact HB.out | apply YA | apply YB | apply YC | refine below_set ?_ GE335.out) | exact HB.out))) : w.heap.size ≤ gb339))
        have n5_ := YL ((by rw [hg]; exact (YE (by repeat (first | (with_reducible first | exact HB.out | apply YA | apply YB | apply YC | refine below_set ?_ GE335.out) | exact HB.out))) : w.heap.size ≤ gb339))
        have n6_ := YL ((by rw [hg]; exact Nat.ne_of_lt (blk_lt (g := gb335) (o := .cells #[.int .i64 a0_0, .slice A0_1 l0_1.length c0_1] 24 (0, 0)) (by (with_reducible repeat (first | refine YF ?_ _ | refine YG ?_ | refine YH ?_ _)); exact BK335.out)) : gb335 ≠ gb339))
        have n7_ := YL ((by rw [hg]; exact Nat.ne_of_gt (blk_lt (g := gb335) (o := .cells #[.int .i64 a0_0, .slice A0_1 l0_1.length c0_1] 24 (0, 0)) (by (with_reducible repeat (first | refine YF ?_ _ | refine YG ?_ | refine YH ?_ _)); exact BK335.out)) : gb339 ≠ gb335))
        clear HO338; clear BK335; clear HB; have HO338 := n0_; have BK335 := n1_; have HB := n2_; have BK339 := n3_; have GW339 := n4_; have GE339 := n5_; have NB335_339 := n6_; have NB339_335 := n7_; clear n0_ n1_ n2_ n3_ n4_ n5_ n6_ n7_; clear hb hbox hg
        refine hK.out _ _ ⟨(YI BK335.out 0).trans rfl, (YI BK335.out 1).trans rfl⟩ (fun hHeld => ?_)
        clear hK K
        refine norm_ (a' := ?_) ?_ ?_
        rotate_left
        · show Act.put _ (some 3) _ = _
          simp only [Act.put, YM, YN, YO, i64_w, i32_w]
          rfl
        exact norm_ (by simp only [putAll, Act.put, YM, YN, YO]) (hCont (.slice Ao20 t336.length co20, gb339) _ ⟨hHeld, (by (with_reducible repeat (first | apply YS | apply YT | apply YU)); exact HO338.out), (by (with_reducible repeat (first | refine YF ?_ _ | refine YG ?_ | refine YH ?_ _)); exact BK335.out), (by (with_reducible repeat (first | refine YF ?_ _ | refine YG ?_ | refine YH ?_ _)); exact BK339.out), GW339.out, GE339.out, NB335_339.out, NB339_335.out, (by repeat (first | (with_reducible first | exact HB.out | apply YA | apply YB | apply YC | refine below_set ?_ GE335.out | refine below_set ?_ GE339.out) | exact HB.out))⟩)
      skip
      refine box_step ?hg (N := 3) ?hd (cs := #[.int .i64 0, .slice none 0 0]) (t := 24) ?hr ?_; (case hd => rfl); (case hg => rfl); (case hr => first | (go_simp; done) | (go_simp; rfl))
      intro gb339 hg w19 hbox hb
      have n0_ := YL (YK (g := gb335) (o := .cells #[.int .i64 a0_0, .slice A0_1 l0_1.length c0_1] 24 (0, 0)) (by (with_reducible repeat (first | refine YF ?_ _ | refine YG ?_ | refine YH ?_ _)); exact BK335.out) hb)
      have n1_ := YL (YD (by repeat (first | (with_reducible first | exact HB.out | apply YA | apply YB | apply YC | refine below_set ?_ GE335.out) | exact HB.out)) hb)
      have n2_ := YL (hbox)
      have n3_ := YL ((by rw [hg]; exact (YE (by repeat (first | (with_reducible first | exact HB.out | apply YA | apply YB | apply YC | refine below_set ?_ GE335.out) | exact HB.out))) : w.heap.size ≤ gb339))
      have n4_ := YL ((by rw [hg]; exact (YE (by repeat (first | (with_reducible first | exact HB.out | apply YA | apply YB | apply YC | refine below_set ?_ GE335.out) | exact HB.out))) : w.heap.size ≤ gb339))
      have n5_ := YL ((by rw [hg]; exact Nat.ne_of_lt (blk_lt (g := gb335) (o := .cells #[.int .i64 a0_0, .slice A0_1 l0_1.length c0_1] 24 (0, 0)) (by (with_reducible repeat (first | refine YF ?_ _ | refine YG ?_ | refine YH ?_ _)); exact BK335.out)) : gb335 ≠ gb339))
      have n6_ := YL ((by rw [hg]; exact Nat.ne_of_gt (blk_lt (g := gb335) (o := .cells #[.int .i64 a0_0, .slice A0_1 l0_1.length c0_1] 24 (0, 0)) (by (with_reducible repeat (first | refine YF ?_ _ | refine YG ?_ | refine YH ?_ _)); exact BK335.out)) : gb339 ≠ gb335))
      clear BK335; clear HB; have BK335 := n0_; have HB := n1_; have BK339 := n2_; have GW339 := n3_; have GE339 := n4_; have NB335_339 := n5_; have NB339_335 := n6_; clear n0_ n1_ n2_ n3_ n4_ n5_ n6_; clear hb hbox hg
      refine hK.out _ _ ⟨(YI BK335.out 0).trans rfl, (YI BK335.out 1).trans rfl⟩ (fun hHeld => ?_)
      clear hK K
      refine norm_ (a' := ?_) ?_ ?_
      rotate_left
      · show Act.put _ (some 3) _ = _
        simp only [Act.put, YM, YN, YO, i64_w, i32_w]
        rfl
      refine one_ (i := 4) (N := some 16) #[true, true, true, true, true, false, true, false] rfl rfl (one_of HT_.out (by kernel_rfl)) (by decide) (fun K hK => ?_)
      refine goes_ Try.func8 (by kernel_rfl) rfl #[.slice A0_1 l0_1.length c0_1] (by rfl) rfl rfl (by (try simp only [YP, List.map_cons, List.map_nil]); first | done | rfl | (simp only [YR, YQ]; rfl)) ?_
      with_reducible refine (thalwegref04_Own.calls _ _ l0_1 t336 _ ?side1 ?side2 A5.out).mono ?_
      (case side1 => repeat (first | exact (Kd.C_below HR0_1.out HB.out) | (with_reducible refine Kd.C_alloc ?_ _) | (with_reducible refine Kd.C_drewN ?_ _) | (with_reducible refine Kd.C_drew ?_)))
      (case side2 => exact HC0_1.out)
      rintro e w20 ⟨v337, rfl, ho0, hb⟩
      refine ⟨_, rfl, ?_⟩
      have n0_ := YL (Kd.R_lower ho0 (YE (by repeat (first | (with_reducible first | exact HB.out | apply YA | apply YB | apply YC | refine below_set ?_ GE335.out | refine below_set ?_ GE339.out) | exact HB.out))))
      have n1_ := YL (YK (g := gb335) (o := .cells #[.int .i64 a0_0, .slice A0_1 l0_1.length c0_1] 24 (0, 0)) (by (with_reducible repeat (first | refine YF ?_ _ | refine YG ?_ | refine YH ?_ _)); exact BK335.out) hb)
      have n2_ := YL (YK (g := gb339) (o := .cells #[.int .i64 0, .slice none 0 0] 24 (0, 0)) (by (with_reducible repeat (first | refine YF ?_ _ | refine YG ?_ | refine YH ?_ _)); exact BK339.out) hb)
      have n3_ := YL (YD (by repeat (first | (with_reducible first | exact HB.out | apply YA | apply YB | apply YC | refine below_set ?_ GE335.out | refine below_set ?_ GE339.out) | exact HB.out)) hb)
      clear BK335; clear BK339; clear HB; have HO338 := n0_; have BK335 := n1_; have BK339 := n2_; have HB := n3_; clear n0_ n1_ n2_ n3_; (try clear hb); (try clear hb2); (try clear hk); (try clear hi); (try clear ho0)
      obtain ⟨Ao21, co21, eo21⟩ := Kd.R_slice HO338.out
      (first | subst eo21 | (injection eo21 with f1_ f2_ f3_; have f4_ := f1_.symm; have f5_ := f3_.symm; clear f1_ f2_ f3_; subst f4_; subst f5_))
      refine hK.out _ _ ⟨(YI BK335.out 0).trans rfl, (YI BK335.out 1).trans rfl⟩ (fun hHeld => ?_)
      clear hK K
      refine norm_ (a' := ?_) ?_ ?_
      rotate_left
      · show Act.put _ (some 16) _ = _
        simp only [Act.put, YM, YN, YO, i64_w, i32_w]
        rfl
      refine pure_ (i := 5) (N := some 17) (v := ?_) (a' := ?_) #[true, true, true, true, true, true, true, false] rfl rfl (any_of HT_.out (by kernel_rfl)) (fun _ _ _ h => h) (Or.inl ⟨by rfl, ?_⟩) ?_ ?_
      rotate_left
      · intro w'
        go_simp; with_reducible rfl
      rotate_left
      · simp only [Act.put, YM, YN, YO, i64_w, i32_w]
        rfl
      exact norm_ (by simp only [putAll, Act.put, YM, YN, YO]) (hCont (.slice Ao21 t336.length co21, gb339) _ ⟨hHeld, (by (with_reducible repeat (first | apply YS | apply YT | apply YU)); exact HO338.out), (by (with_reducible repeat (first | refine YF ?_ _ | refine YG ?_ | refine YH ?_ _)); exact BK335.out), (by (with_reducible repeat (first | refine YF ?_ _ | refine YG ?_ | refine YH ?_ _)); exact BK339.out), GW339.out, GE339.out, NB335_339.out, NB339_335.out, (by repeat (first | (with_reducible first | exact HB.out | apply YA | apply YB | apply YC | refine below_set ?_ GE335.out | refine below_set ?_ GE339.out) | exact HB.out))⟩)
    rintro ⟨v337, gb339⟩ w22 ⟨hS_, h0_, h1_, h2_, h3_, h4_, h5_, h6_, h7_⟩
    have n0_ : Aside0 (Kd.R k45 45 w22 w.heap.size (fun _ => True) v337 t336) := ⟨h0_⟩
    have n1_ : Aside0 (w22.heap[gb335]? = some (.cells #[.int .i64 a0_0, .slice A0_1 l0_1.length c0_1] 24 (0, 0))) := ⟨h1_⟩
    have n2_ : Aside0 (w22.heap[gb339]? = some (.cells #[.int .i64 0, .slice none 0 0] 24 (0, 0))) := ⟨h2_⟩
    have n3_ : Aside0 (w.heap.size ≤ gb339) := ⟨h3_⟩
    have n4_ : Aside0 (w.heap.size ≤ gb339) := ⟨h4_⟩
    have n5_ : Aside0 (gb335 ≠ gb339) := ⟨h5_⟩
    have n6_ : Aside0 (gb339 ≠ gb335) := ⟨h6_⟩
    have n7_ : Aside0 (Below w.heap.size w w22) := ⟨h7_⟩
    clear BK335; clear HB; clear h0_ h1_ h2_ h3_ h4_ h5_ h6_ h7_; have HO338 := n0_; have BK335 := n1_; have BK339 := n2_; have GW339 := n3_; have GE339 := n4_; have NB335_339 := n5_; have NB339_335 := n6_; have HB := n7_; clear n0_ n1_ n2_ n3_ n4_ n5_ n6_ n7_
    have hHeld : w22.cell? ⟨gb335, 0, none⟩ = some (.int .i64 a0_0) ∧ w22.cell? ⟨gb335, 1, none⟩ = some (.slice A0_1 l0_1.length c0_1) := hS_
    obtain ⟨Ao23, co23, eo23⟩ := Kd.R_slice HO338.out
    (first | subst eo23 | (injection eo23 with f1_ f2_ f3_; have f4_ := f1_.symm; have f5_ := f3_.symm; clear f1_ f2_ f3_; subst f4_; subst f5_))
    refine norm_ (a' := ?_) ?_ ?_
    rotate_left
    · simp only [putAll, Act.put, YM, YN, YO]
      rfl
    refine one_ (i := 7) (N := none) #[true, true, true, true, true, true, true, true] rfl rfl (one_of HT_.out (by kernel_rfl)) (by decide) (fun K hK => ?_)
    have hs24 : w22.cell? ⟨gb339, 0, none⟩ = some (.int .i64 0) := (YI BK339.out 0).trans rfl
    have hfs24 := YJ BK339.out 0
    have hns24_0 := NB335_339.out
    have hms24_0 := NB339_335.out
    have hs25 : w22.cell? ⟨gb339, 1, none⟩ = some (.slice none 0 0) := (YI BK339.out 1).trans rfl
    have hfs25 := YJ BK339.out 1
    have hns25_0 := NB335_339.out
    have hms25_0 := NB339_335.out
    refine skip_ (w1 := ?_) (by rfl) rfl ?_ ?_
    rotate_left
    · go_simp
      rfl
    refine hK.out _ _ ⟨((cell_far (p := ⟨gb339, _, none⟩) NB335_339.out _).trans (((cell_far (p := ⟨gb339, _, none⟩) NB335_339.out _).trans (hHeld.1)))), ((cell_far (p := ⟨gb339, _, none⟩) NB335_339.out _).trans (((cell_far (p := ⟨gb339, _, none⟩) NB335_339.out _).trans (hHeld.2))))⟩ (fun hHeld => ?_)
    clear hK K
    refine done_ (done_of HT_.out (by kernel_rfl)) ?_
    have hnb26 := NB339_335.out
    have hnc26 := NB335_339.out
    have hcz27_0 : w22.cell? ⟨gb339, 0, none⟩ = some (.int .i64 0) := (YI BK339.out 0).trans rfl
    have hcz27_1 : w22.cell? ⟨gb339, 1, none⟩ = some (.slice none 0 0) := (YI BK339.out 1).trans rfl
    have hfz27_0 := YJ BK339.out 0
    have hfz27_1 := YJ BK339.out 1
    try go_wp2_with (first | ((with_reducible refine gate_callee (f := 9) rfl ?_); refine goesL_ (some 20) rfl rfl Try.func9 (by kernel_rfl) rfl #[.agg #[.int .i64 a0_0, .slice Ao23 t336.length co23]] rfl (by (try simp only [YP, List.map_cons, List.map_nil]); first | done | rfl | (simp only [YR, YQ]; rfl)) ?_; (with_reducible refine (batch_Bytes.calls k a0_0 _ _ t336 t340 t343 _ ?side1 ?side2 A6.out).mono ?_); (case side1 => refine (Kd.R_reads' (e := 45) (base := w.heap.size) (ok := fun k_ => True) (n := t336.length) (c := co23) ?_).2.2; exact (by (with_reducible repeat (first | apply YS | apply YT | apply YU)); exact (Kd.R_mono (Kd.R_far (p := ⟨gb339, 1, none⟩) (Kd.R_far (p := ⟨gb339, 0, none⟩) (Kd.R_types HO338.out BK339.out (by decide)) (fun _ hk => hk.2) (.int .i64 a0_0)) (fun _ hk => hk.2) (.slice Ao23 t336.length co23)) (fun _ h_ => h_.1)))); (case side2 => exact (Kd.R_reads' HO338.out).2.1); rintro e w28 ⟨v341, rfl, ho0, hb⟩; refine ⟨_, rfl, ?_⟩; have n0_ := YL (YV (by (with_reducible repeat (first | apply YS | apply YT | apply YU)); exact (Kd.R_mono (Kd.R_far (p := ⟨gb339, 1, none⟩) (Kd.R_far (p := ⟨gb339, 0, none⟩) (Kd.R_types HO338.out BK339.out (by decide)) (fun _ hk => hk.2) (.int .i64 a0_0)) (fun _ hk => hk.2) (.slice Ao23 t336.length co23)) (fun _ h_ => h_.1))) hb); have n1_ := YL (Kd.R_lower ho0 (YE (by repeat (first | (with_reducible first | exact HB.out | apply YA | apply YB | apply YC | refine below_set ?_ GE335.out | refine below_set ?_ GE339.out) | exact HB.out)))); have n2_ := YL (YK (g := gb335) (o := .cells #[.int .i64 a0_0, .slice A0_1 l0_1.length c0_1] 24 (0, 0)) (by (with_reducible repeat (first | refine YF ?_ _ | refine YG ?_ | refine YH ?_ _)); refine blk_far ?_ NB335_339.out _; (with_reducible repeat (first | refine YF ?_ _ | refine YG ?_ | refine YH ?_ _)); refine blk_far ?_ NB335_339.out _; (with_reducible repeat (first | refine YF ?_ _ | refine YG ?_ | refine YH ?_ _)); exact BK335.out) hb); have n3_ := YL (YK (g := gb339) (o := .cells #[.int .i64 a0_0, .slice Ao23 t336.length co23] 24 (0, 0)) (by (with_reducible repeat (first | refine YF ?_ _ | refine YG ?_ | refine YH ?_ _)); refine blk_put (cs := #[.int .i64 a0_0, .slice none 0 0]) ?_ 1 _ rfl; (with_reducible repeat (first | refine YF ?_ _ | refine YG ?_ | refine YH ?_ _)); refine blk_put (cs := #[.int .i64 0, .slice none 0 0]) ?_ 0 _ rfl; (with_reducible repeat (first | refine YF ?_ _ | refine YG ?_ | refine YH ?_ _)); exact BK339.out) hb); have n4_ := YL (YD (by repeat (first | (with_reducible first | exact HB.out | apply YA | apply YB | apply YC | refine below_set ?_ GE335.out | refine below_set ?_ GE339.out) | exact HB.out)) hb); clear HO338; clear BK335; clear BK339; clear HB; have HO338 := n0_; have HO342 := n1_; have BK335 := n2_; have BK339 := n3_; have HB := n4_; clear n0_ n1_ n2_ n3_ n4_; (try clear hb); (try clear hb2); (try clear hk); (try clear hi); (try clear ho0); have hcz29_0 : w28.cell? ⟨gb335, 0, none⟩ = some (.int .i64 a0_0) := (YI BK335.out 0).trans rfl; have hcz29_1 : w28.cell? ⟨gb335, 1, none⟩ = some (.slice A0_1 l0_1.length c0_1) := (YI BK335.out 1).trans rfl; have hfz29_0 := YJ BK335.out 0; have hfz29_1 := YJ BK335.out 1) | ((with_reducible refine gate_callee (f := 10) rfl ?_); refine goesL_ (some 25) rfl rfl Try.func10 (by kernel_rfl) rfl #[.agg #[.int .i64 a0_0, .slice A0_1 l0_1.length c0_1]] rfl (by (try simp only [YP, List.map_cons, List.map_nil]); first | done | rfl | (simp only [YR, YQ]; rfl)) ?_; (with_reducible refine (thalwegref05_Bytes.calls k a0_0 _ _ l0_1 t344 t347 _ ?side1 ?side2 A7.out).mono ?_); (case side1 => repeat (first | exact (Kd.C_below HR0_1.out HB.out) | (with_reducible refine Kd.C_alloc ?_ _) | (with_reducible refine Kd.C_drewN ?_ _) | (with_reducible refine Kd.C_drew ?_))); (case side2 => exact HC0_1.out); rintro e w30 ⟨v345, rfl, ho0, hb⟩; refine ⟨_, rfl, ?_⟩; have n0_ := YL (YV (by (with_reducible repeat (first | apply YS | apply YT | apply YU)); exact HO338.out) hb); have n1_ := YL (Kd.R_elder' (by (with_reducible repeat (first | apply YS | apply YT | apply YU)); exact HO342.out) (Kd.R_base ho0) hb); have n2_ := YL (Kd.R_lower (Kd.R_new' ho0 (Kd.R_lt (by (with_reducible repeat (first | apply YS | apply YT | apply YU)); exact HO342.out))) (YE (by repeat (first | (with_reducible first | exact HB.out | apply YA | apply YB | apply YC | refine below_set ?_ GE335.out | refine below_set ?_ GE339.out) | exact HB.out)))); have n3_ := YL (YK (g := gb335) (o := .cells #[.int .i64 a0_0, .slice A0_1 l0_1.length c0_1] 24 (0, 0)) (by (with_reducible repeat (first | refine YF ?_ _ | refine YG ?_ | refine YH ?_ _)); exact BK335.out) hb); have n4_ := YL (YK (g := gb339) (o := .cells #[.int .i64 a0_0, .slice Ao23 t336.length co23] 24 (0, 0)) (by (with_reducible repeat (first | refine YF ?_ _ | refine YG ?_ | refine YH ?_ _)); exact BK339.out) hb); have n5_ := YL (YD (by repeat (first | (with_reducible first | exact HB.out | apply YA | apply YB | apply YC | refine below_set ?_ GE335.out | refine below_set ?_ GE339.out) | exact HB.out)) hb); clear HO338; clear HO342; clear BK335; clear BK339; clear HB; have HO338 := n0_; have HO342 := n1_; have HO346 := n2_; have BK335 := n3_; have BK339 := n4_; have HB := n5_; clear n0_ n1_ n2_ n3_ n4_ n5_; (try clear hb); (try clear hb2); (try clear hk); (try clear hi); (try clear ho0)))
    have n0_ := YL (YU HO338.out)
    have n1_ := YL (YU HO342.out)
    have n2_ := YL (YU HO346.out)
    have n3_ := YL (YG BK335.out)
    have n4_ := YL (YG BK339.out)
    have n5_ := YL (YC HB.out)
    clear HO338; clear HO342; clear HO346; clear BK335; clear BK339; clear HB; have HO338 := n0_; have HO342 := n1_; have HO346 := n2_; have BK335 := n3_; have BK339 := n4_; have HB := n5_; clear n0_ n1_ n2_ n3_ n4_ n5_
    refine start_ (n := 29) (S := fun w' => w'.cell? ⟨gb339, 0, none⟩ = some (.int .i64 a0_0) ∧ w'.cell? ⟨gb339, 1, none⟩ = some (.slice Ao23 t336.length co23) ∧ w'.cell? ⟨gb335, 0, none⟩ = some (.int .i64 a0_0) ∧ w'.cell? ⟨gb335, 1, none⟩ = some (.slice A0_1 l0_1.length c0_1) ∧ (convert 26 9 v341).run Try.prog w' = .ok (.string (strOfNums t340)) w' ∧ (convert 26 9 v345).run Try.prog w' = .ok (.string (strOfNums t344)) w') (ds := []) #[false, false, false, false, false, false, false, false, false, false, false, false, false, false, false, false, false, false, false, false, false, false, false, false, false, false, false, false, false] (by kernel_rfl) rfl rfl ⟨(YI BK339.out 0).trans rfl, (YI BK339.out 1).trans rfl, (YI BK335.out 0).trans rfl, (YI BK335.out 1).trans rfl, (own_string (P := Try.prog) Try.underlying26 Try.underlying5 Try.underlying9 (Kd.own_of_R (by (with_reducible repeat (first | apply YS | apply YT | apply YU)); exact HO342.out))), (own_string (P := Try.prog) Try.underlying26 Try.underlying5 Try.underlying9 (Kd.own_of_R (by (with_reducible repeat (first | apply YS | apply YT | apply YU)); exact HO346.out)))⟩ (fun hHeld => ?_); refine with_tabW thalweglaw05_BatchDoes.tab6 thalweglaw05_BatchDoes.bits6 (fun HT_ HW_ => ?_)
    generalize w30.drew = w31 at HO338 HO342 HO346 BK335 BK339 HB hHeld ⊢
    refine one_ (i := 0) (N := some 28) #[true, false, false, false, false, false, false, false, false, false, false, false, false, false, false, false, false, false, false, false, false, false, false, false, false, false, false, false, false] rfl rfl (one_of HT_.out (by kernel_rfl)) (by decide) (fun K hK => ?_)
    refine goes_ Try.func11 (by kernel_rfl) rfl #[] (by rfl) rfl rfl (by (try simp only [YP, List.map_cons, List.map_nil]); first | done | rfl | (simp only [YR, YQ]; rfl)) ?_
    with_reducible refine (thalweglaw05_awake.calls k  true _ A8.out).mono ?_
    rintro e w32 ⟨rfl, hb⟩
    refine ⟨_, rfl, ?_⟩
    have n0_ := YL (YV (by (with_reducible repeat (first | apply YS | apply YT | apply YU)); exact HO338.out) hb)
    have n1_ := YL (YV (by (with_reducible repeat (first | apply YS | apply YT | apply YU)); exact HO342.out) hb)
    have n2_ := YL (YV (by (with_reducible repeat (first | apply YS | apply YT | apply YU)); exact HO346.out) hb)
    have n3_ := YL (YK (g := gb335) (o := .cells #[.int .i64 a0_0, .slice A0_1 l0_1.length c0_1] 24 (0, 0)) (by (with_reducible repeat (first | refine YF ?_ _ | refine YG ?_ | refine YH ?_ _)); exact BK335.out) hb)
    have n4_ := YL (YK (g := gb339) (o := .cells #[.int .i64 a0_0, .slice Ao23 t336.length co23] 24 (0, 0)) (by (with_reducible repeat (first | refine YF ?_ _ | refine YG ?_ | refine YH ?_ _)); exact BK339.out) hb)
    have n5_ := YL (YD (by repeat (first | (with_reducible first | exact HB.out | apply YA | apply YB | apply YC | refine below_set ?_ GE335.out | refine below_set ?_ GE339.out) | exact HB.out)) hb)
    clear HO338; clear HO342; clear HO346; clear BK335; clear BK339; clear HB; have HO338 := n0_; have HO342 := n1_; have HO346 := n2_; have BK335 := n3_; have BK339 := n4_; have HB := n5_; clear n0_ n1_ n2_ n3_ n4_ n5_; (try clear hb); (try clear hb2); (try clear hk); (try clear hi)
    refine hK.out _ _ ⟨(YI BK339.out 0).trans rfl, (YI BK339.out 1).trans rfl, (YI BK335.out 0).trans rfl, (YI BK335.out 1).trans rfl, (own_string (P := Try.prog) Try.underlying26 Try.underlying5 Try.underlying9 (Kd.own_of_R (by (with_reducible repeat (first | apply YS | apply YT | apply YU)); exact HO342.out))), (own_string (P := Try.prog) Try.underlying26 Try.underlying5 Try.underlying9 (Kd.own_of_R (by (with_reducible repeat (first | apply YS | apply YT | apply YU)); exact HO346.out)))⟩ (fun hHeld => ?_)
    clear hK K
    refine norm_ (a' := ?_) ?_ ?_
    rotate_left
    · show Act.put _ (some 28) _ = _
      simp only [Act.put, YM, YN, YO, i64_w, i32_w]
      rfl
    refine pure_ (i := 1) (N := some 29) (v := ?_) (a' := ?_) #[true, true, false, false, false, false, false, false, false, false, false, false, false, false, false, false, false, false, false, false, false, false, false, false, false, false, false, false, false] rfl rfl (any_of HT_.out (by kernel_rfl)) (fun _ _ _ h => h) (Or.inl ⟨by rfl, ?_⟩) ?_ ?_
    rotate_left
    · intro w'
      go_simp; with_reducible rfl
    rotate_left
    · simp only [Act.put, YM, YN, YO, i64_w, i32_w]
      rfl
    refine take_ (i := 2) (N := some 30) (v := ?_) (a' := ?_) #[true, true, true, false, false, false, false, false, false, false, false, false, false, false, false, false, false, false, false, false, false, false, false, false, false, false, false, false, false] rfl rfl (take_ofW HT_.out HW_.out (by kernel_rfl)) (fun _ _ _ h => h) (Or.inl ⟨by rfl, ?_⟩) hHeld ?_ ?_
    rotate_left
    · rintro w' ⟨s0, s1, s2, s3, s4, s5⟩
      go_simp; with_reducible rfl
    rotate_left
    · simp only [Act.put, YM, YN, YO, i64_w, i32_w]
      rfl
    refine take_ (i := 5) (N := some 33) (v := ?_) (a' := ?_) #[true, true, true, false, false, true, false, false, false, false, false, false, false, false, false, false, false, false, false, false, false, false, false, false, false, false, false, false, false] rfl rfl (take_ofW HT_.out HW_.out (by kernel_rfl)) (fun _ _ _ h => h) (Or.inl ⟨by rfl, ?_⟩) hHeld ?_ ?_
    rotate_left
    · rintro w' ⟨s0, s1, s2, s3, s4, s5⟩
      go_simp; with_reducible rfl
    rotate_left
    · simp only [Act.put, YM, YN, YO, i64_w, i32_w]
      rfl
    refine one_ (i := 3) (N := some 31) #[true, true, true, true, false, true, false, false, false, false, false, false, false, false, false, false, false, false, false, false, false, false, false, false, false, false, false, false, false] rfl rfl (one_of HT_.out (by kernel_rfl)) (by decide) (fun K hK => ?_)
    refine goes_ Try.func12 (by kernel_rfl) rfl #[.agg #[.int .i64 a0_0, .slice Ao23 t336.length co23]] (by rfl) rfl rfl (by (try simp only [YP, List.map_cons, List.map_nil]); first | done | rfl | (simp only [YR, YQ]; rfl)) ?_
    with_reducible refine (batch_Check.calls k a0_0 _ _ t336 t349 _ ?side1 ?side2 A10.out).mono ?_
    (case side1 => repeat (first | exact (Kd.R_reads' HO338.out).2.2 | (with_reducible refine Kd.C_alloc ?_ _) | (with_reducible refine Kd.C_drewN ?_ _) | (with_reducible refine Kd.C_drew ?_)))
    (case side2 => exact (Kd.R_reads' HO338.out).2.1)
    rintro e w33 ⟨rfl, hb⟩
    refine ⟨_, rfl, ?_⟩
    have n0_ := YL (YV (by (with_reducible repeat (first | apply YS | apply YT | apply YU)); exact HO338.out) hb)
    have n1_ := YL (YV (by (with_reducible repeat (first | apply YS | apply YT | apply YU)); exact HO342.out) hb)
    have n2_ := YL (YV (by (with_reducible repeat (first | apply YS | apply YT | apply YU)); exact HO346.out) hb)
    have n3_ := YL (YK (g := gb335) (o := .cells #[.int .i64 a0_0, .slice A0_1 l0_1.length c0_1] 24 (0, 0)) (by (with_reducible repeat (first | refine YF ?_ _ | refine YG ?_ | refine YH ?_ _)); exact BK335.out) hb)
    have n4_ := YL (YK (g := gb339) (o := .cells #[.int .i64 a0_0, .slice Ao23 t336.length co23] 24 (0, 0)) (by (with_reducible repeat (first | refine YF ?_ _ | refine YG ?_ | refine YH ?_ _)); exact BK339.out) hb)
    have n5_ := YL (YD (by repeat (first | (with_reducible first | exact HB.out | apply YA | apply YB | apply YC | refine below_set ?_ GE335.out | refine below_set ?_ GE339.out) | exact HB.out)) hb)
    clear HO338; clear HO342; clear HO346; clear BK335; clear BK339; clear HB; have HO338 := n0_; have HO342 := n1_; have HO346 := n2_; have BK335 := n3_; have BK339 := n4_; have HB := n5_; clear n0_ n1_ n2_ n3_ n4_ n5_; (try clear hb); (try clear hb2); (try clear hk); (try clear hi)
    refine hK.out _ _ ⟨(YI BK339.out 0).trans rfl, (YI BK339.out 1).trans rfl, (YI BK335.out 0).trans rfl, (YI BK335.out 1).trans rfl, (own_string (P := Try.prog) Try.underlying26 Try.underlying5 Try.underlying9 (Kd.own_of_R (by (with_reducible repeat (first | apply YS | apply YT | apply YU)); exact HO342.out))), (own_string (P := Try.prog) Try.underlying26 Try.underlying5 Try.underlying9 (Kd.own_of_R (by (with_reducible repeat (first | apply YS | apply YT | apply YU)); exact HO346.out)))⟩ (fun hHeld => ?_)
    clear hK K
    refine norm_ (a' := ?_) ?_ ?_
    rotate_left
    · show Act.put _ (some 31) _ = _
      simp only [Act.put, YM, YN, YO, i64_w, i32_w]
      rfl
    refine pure_ (i := 4) (N := some 32) (v := ?_) (a' := ?_) #[true, true, true, true, true, true, false, false, false, false, false, false, false, false, false, false, false, false, false, false, false, false, false, false, false, false, false, false, false] rfl rfl (any_of HT_.out (by kernel_rfl)) (fun _ _ _ h => h) (Or.inl ⟨by rfl, ?_⟩) ?_ ?_
    rotate_left
    · intro w'
      go_simp; with_reducible rfl
    rotate_left
    · simp only [Act.put, YM, YN, YO, i64_w, i32_w]
      rfl
    refine one_ (i := 6) (N := some 34) #[true, true, true, true, true, true, true, false, false, false, false, false, false, false, false, false, false, false, false, false, false, false, false, false, false, false, false, false, false] rfl rfl (one_of HT_.out (by kernel_rfl)) (by decide) (fun K hK => ?_)
    refine goes_ Try.func13 (by kernel_rfl) rfl #[.agg #[.int .i64 a0_0, .slice A0_1 l0_1.length c0_1]] (by rfl) rfl rfl (by (try simp only [YP, List.map_cons, List.map_nil]); first | done | rfl | (simp only [YR, YQ]; rfl)) ?_
    with_reducible refine (thalwegref05_Right.calls k a0_0 _ _ l0_1 t350 _ ?side1 ?side2 A11.out).mono ?_
    (case side1 => repeat (first | exact (Kd.C_below HR0_1.out HB.out) | (with_reducible refine Kd.C_alloc ?_ _) | (with_reducible refine Kd.C_drewN ?_ _) | (with_reducible refine Kd.C_drew ?_)))
    (case side2 => exact HC0_1.out)
    rintro e w34 ⟨rfl, hb⟩
    refine ⟨_, rfl, ?_⟩
    have n0_ := YL (YV (by (with_reducible repeat (first | apply YS | apply YT | apply YU)); exact HO338.out) hb)
    have n1_ := YL (YV (by (with_reducible repeat (first | apply YS | apply YT | apply YU)); exact HO342.out) hb)
    have n2_ := YL (YV (by (with_reducible repeat (first | apply YS | apply YT | apply YU)); exact HO346.out) hb)
    have n3_ := YL (YK (g := gb335) (o := .cells #[.int .i64 a0_0, .slice A0_1 l0_1.length c0_1] 24 (0, 0)) (by (with_reducible repeat (first | refine YF ?_ _ | refine YG ?_ | refine YH ?_ _)); exact BK335.out) hb)
    have n4_ := YL (YK (g := gb339) (o := .cells #[.int .i64 a0_0, .slice Ao23 t336.length co23] 24 (0, 0)) (by (with_reducible repeat (first | refine YF ?_ _ | refine YG ?_ | refine YH ?_ _)); exact BK339.out) hb)
    have n5_ := YL (YD (by repeat (first | (with_reducible first | exact HB.out | apply YA | apply YB | apply YC | refine below_set ?_ GE335.out | refine below_set ?_ GE339.out) | exact HB.out)) hb)
    clear HO338; clear HO342; clear HO346; clear BK335; clear BK339; clear HB; have HO338 := n0_; have HO342 := n1_; have HO346 := n2_; have BK335 := n3_; have BK339 := n4_; have HB := n5_; clear n0_ n1_ n2_ n3_ n4_ n5_; (try clear hb); (try clear hb2); (try clear hk); (try clear hi)
    refine hK.out _ _ ⟨(YI BK339.out 0).trans rfl, (YI BK339.out 1).trans rfl, (YI BK335.out 0).trans rfl, (YI BK335.out 1).trans rfl, (own_string (P := Try.prog) Try.underlying26 Try.underlying5 Try.underlying9 (Kd.own_of_R (by (with_reducible repeat (first | apply YS | apply YT | apply YU)); exact HO342.out))), (own_string (P := Try.prog) Try.underlying26 Try.underlying5 Try.underlying9 (Kd.own_of_R (by (with_reducible repeat (first | apply YS | apply YT | apply YU)); exact HO346.out)))⟩ (fun hHeld => ?_)
    clear hK K
    refine norm_ (a' := ?_) ?_ ?_
    rotate_left
    · show Act.put _ (some 34) _ = _
      simp only [Act.put, YM, YN, YO, i64_w, i32_w]
      rfl
    refine pure_ (i := 7) (N := some 35) (v := ?_) (a' := ?_) #[true, true, true, true, true, true, true, true, false, false, false, false, false, false, false, false, false, false, false, false, false, false, false, false, false, false, false, false, false] rfl rfl (any_of HT_.out (by kernel_rfl)) (fun _ _ _ h => h) (Or.inl ⟨by rfl, ?_⟩) ?_ ?_
    rotate_left
    · intro w'
      go_simp; with_reducible rfl
    rotate_left
    · simp only [Act.put, YM, YN, YO, i64_w, i32_w]
      rfl
    refine pure_ (i := 8) (N := some 36) (v := ?_) (a' := ?_) #[true, true, true, true, true, true, true, true, true, false, false, false, false, false, false, false, false, false, false, false, false, false, false, false, false, false, false, false, false] rfl rfl (any_of HT_.out (by kernel_rfl)) (fun _ _ _ h => h) (Or.inl ⟨by rfl, ?_⟩) ?_ ?_
    rotate_left
    · intro w'
      go_simp; with_reducible rfl
    rotate_left
    · simp only [Act.put, YM, YN, YO, i64_w, i32_w]
      rfl
    refine pure_ (i := 9) (N := some 37) (v := ?_) (a' := ?_) #[true, true, true, true, true, true, true, true, true, true, false, false, false, false, false, false, false, false, false, false, false, false, false, false, false, false, false, false, false] rfl rfl (any_of HT_.out (by kernel_rfl)) (fun _ _ _ h => h) (Or.inl ⟨by rfl, ?_⟩) ?_ ?_
    rotate_left
    · intro w'
      go_simp; with_reducible rfl
    rotate_left
    · simp only [Act.put, YM, YN, YO, i64_w, i32_w]
      rfl
    refine pure_ (i := 10) (N := some 38) (v := ?_) (a' := ?_) #[true, true, true, true, true, true, true, true, true, true, true, false, false, false, false, false, false, false, false, false, false, false, false, false, false, false, false, false, false] rfl rfl (any_of HT_.out (by kernel_rfl)) (fun _ _ _ h => h) (Or.inl ⟨by rfl, ?_⟩) ?_ ?_
    rotate_left
    · intro w'
      go_simp; with_reducible rfl
    rotate_left
    · simp only [Act.put, YM, YN, YO, i64_w, i32_w]
      rfl
    refine pure_ (i := 12) (N := some 40) (v := ?_) (a' := ?_) #[true, true, true, true, true, true, true, true, true, true, true, false, true, false, false, false, false, false, false, false, false, false, false, false, false, false, false, false, false] rfl rfl (any_of HT_.out (by kernel_rfl)) (fun _ _ _ h => h) (Or.inl ⟨by rfl, ?_⟩) ?_ ?_
    rotate_left
    · intro w'
      go_simp; with_reducible rfl
    rotate_left
    · simp only [Act.put, YM, YN, YO, i64_w, i32_w]
      rfl
    refine take_ (i := 11) (N := some 39) (v := ?_) (a' := ?_) #[true, true, true, true, true, true, true, true, true, true, true, true, true, false, false, false, false, false, false, false, false, false, false, false, false, false, false, false, false] rfl rfl (take_ofW HT_.out HW_.out (by kernel_rfl)) (fun _ _ _ h => h) (Or.inl ⟨by rfl, ?_⟩) hHeld ?_ ?_
    rotate_left
    · rintro w' ⟨s0, s1, s2, s3, s4, s5⟩
      go_simp; with_reducible rfl
    rotate_left
    · simp only [Act.put, YM, YN, YO, i64_w, i32_w]
      rfl
    refine take_ (i := 13) (N := some 41) (v := ?_) (a' := ?_) #[true, true, true, true, true, true, true, true, true, true, true, true, true, true, false, false, false, false, false, false, false, false, false, false, false, false, false, false, false] rfl rfl (take_ofW HT_.out HW_.out (by kernel_rfl)) (fun _ _ _ h => h) (Or.inl ⟨by rfl, ?_⟩) hHeld ?_ ?_
    rotate_left
    · rintro w' ⟨s0, s1, s2, s3, s4, s5⟩
      go_simp; with_reducible rfl
    rotate_left
    · simp only [Act.put, YM, YN, YO, i64_w, i32_w]
      rfl
    refine pure_ (i := 14) (N := some 42) (v := ?_) (a' := ?_) #[true, true, true, true, true, true, true, true, true, true, true, true, true, true, true, false, false, false, false, false, false, false, false, false, false, false, false, false, false] rfl rfl (any_of HT_.out (by kernel_rfl)) (fun _ _ _ h => h) (Or.inl ⟨by rfl, ?_⟩) ?_ ?_
    rotate_left
    · intro w'
      go_simp; with_reducible rfl
    rotate_left
    · simp only [Act.put, YM, YN, YO, i64_w, i32_w]
      rfl
    refine pure_ (i := 15) (N := some 43) (v := ?_) (a' := ?_) #[true, true, true, true, true, true, true, true, true, true, true, true, true, true, true, true, false, false, false, false, false, false, false, false, false, false, false, false, false] rfl rfl (any_of HT_.out (by kernel_rfl)) (fun _ _ _ h => h) (Or.inl ⟨by rfl, ?_⟩) ?_ ?_
    rotate_left
    · intro w'
      go_simp; with_reducible rfl
    rotate_left
    · simp only [Act.put, YM, YN, YO, i64_w, i32_w]
      rfl
    refine pure_ (i := 16) (N := some 44) (v := ?_) (a' := ?_) #[true, true, true, true, true, true, true, true, true, true, true, true, true, true, true, true, true, false, false, false, false, false, false, false, false, false, false, false, false] rfl rfl (any_of HT_.out (by kernel_rfl)) (fun _ _ _ h => h) (Or.inl ⟨by rfl, ?_⟩) ?_ ?_
    rotate_left
    · intro w'
      go_simp; with_reducible rfl
    rotate_left
    · simp only [Act.put, YM, YN, YO, i64_w, i32_w]
      rfl
    refine pure_ (i := 17) (N := some 45) (v := ?_) (a' := ?_) #[true, true, true, true, true, true, true, true, true, true, true, true, true, true, true, true, true, true, false, false, false, false, false, false, false, false, false, false, false] rfl rfl (any_of HT_.out (by kernel_rfl)) (fun _ _ _ h => h) (Or.inl ⟨by rfl, ?_⟩) ?_ ?_
    rotate_left
    · intro w'
      go_simp; with_reducible rfl
    rotate_left
    · simp only [Act.put, YM, YN, YO, i64_w, i32_w]
      rfl
    refine pure_ (i := 18) (N := some 46) (v := ?_) (a' := ?_) #[true, true, true, true, true, true, true, true, true, true, true, true, true, true, true, true, true, true, true, false, false, false, false, false, false, false, false, false, false] rfl rfl (any_of HT_.out (by kernel_rfl)) (fun _ _ _ h => h) (Or.inl ⟨by rfl, ?_⟩) ?_ ?_
    rotate_left
    · intro w'
      go_simp; with_reducible rfl
    rotate_left
    · simp only [Act.put, YM, YN, YO, i64_w, i32_w]
      rfl
    refine pure_ (i := 19) (N := some 47) (v := ?_) (a' := ?_) #[true, true, true, true, true, true, true, true, true, true, true, true, true, true, true, true, true, true, true, true, false, false, false, false, false, false, false, false, false] rfl rfl (any_of HT_.out (by kernel_rfl)) (fun _ _ _ h => h) (Or.inl ⟨by rfl, ?_⟩) ?_ ?_
    rotate_left
    · intro w'
      go_simp; with_reducible rfl
    rotate_left
    · simp only [Act.put, YM, YN, YO, i64_w, i32_w]
      rfl
    refine pure_ (i := 20) (N := some 48) (v := ?_) (a' := ?_) #[true, true, true, true, true, true, true, true, true, true, true, true, true, true, true, true, true, true, true, true, true, false, false, false, false, false, false, false, false] rfl rfl (any_of HT_.out (by kernel_rfl)) (fun _ _ _ h => h) (Or.inl ⟨by rfl, ?_⟩) ?_ ?_
    rotate_left
    · intro w'
      go_simp; with_reducible rfl
    rotate_left
    · simp only [Act.put, YM, YN, YO, i64_w, i32_w]
      rfl
    refine pure_ (i := 21) (N := some 49) (v := ?_) (a' := ?_) #[true, true, true, true, true, true, true, true, true, true, true, true, true, true, true, true, true, true, true, true, true, true, false, false, false, false, false, false, false] rfl rfl (any_of HT_.out (by kernel_rfl)) (fun _ _ _ h => h) (Or.inl ⟨by rfl, ?_⟩) ?_ ?_
    rotate_left
    · intro w'
      go_simp; with_reducible rfl
    rotate_left
    · simp only [Act.put, YM, YN, YO, i64_w, i32_w]
      rfl
    refine pure_ (i := 22) (N := some 50) (v := ?_) (a' := ?_) #[true, true, true, true, true, true, true, true, true, true, true, true, true, true, true, true, true, true, true, true, true, true, true, false, false, false, false, false, false] rfl rfl (any_of HT_.out (by kernel_rfl)) (fun _ _ _ h => h) (Or.inl ⟨by rfl, ?_⟩) ?_ ?_
    rotate_left
    · intro w'
      go_simp; with_reducible rfl
    rotate_left
    · simp only [Act.put, YM, YN, YO, i64_w, i32_w]
      rfl
    refine pure_ (i := 24) (N := some 52) (v := ?_) (a' := ?_) #[true, true, true, true, true, true, true, true, true, true, true, true, true, true, true, true, true, true, true, true, true, true, true, false, true, false, false, false, false] rfl rfl (any_of HT_.out (by kernel_rfl)) (fun _ _ _ h => h) (Or.inl ⟨by rfl, ?_⟩) ?_ ?_
    rotate_left
    · intro w'
      go_simp; with_reducible rfl
    rotate_left
    · simp only [Act.put, YM, YN, YO, i64_w, i32_w]
      rfl
    refine take_ (i := 23) (N := some 51) (v := ?_) (a' := ?_) #[true, true, true, true, true, true, true, true, true, true, true, true, true, true, true, true, true, true, true, true, true, true, true, true, true, false, false, false, false] rfl rfl (take_ofW HT_.out HW_.out (by kernel_rfl)) (fun _ _ _ h => h) (Or.inl ⟨by rfl, ?_⟩) hHeld ?_ ?_
    rotate_left
    · rintro w' ⟨s0, s1, s2, s3, s4, s5⟩
      go_simp; with_reducible rfl
    rotate_left
    · simp only [Act.put, YM, YN, YO, i64_w, i32_w]
      rfl
    refine take_ (i := 25) (N := some 53) (v := ?_) (a' := ?_) #[true, true, true, true, true, true, true, true, true, true, true, true, true, true, true, true, true, true, true, true, true, true, true, true, true, true, false, false, false] rfl rfl (take_ofW HT_.out HW_.out (by kernel_rfl)) (fun _ _ _ h => h) (Or.inl ⟨by rfl, ?_⟩) hHeld ?_ ?_
    rotate_left
    · rintro w' ⟨s0, s1, s2, s3, s4, s5⟩
      go_simp; with_reducible rfl
    rotate_left
    · simp only [Act.put, YM, YN, YO, i64_w, i32_w]
      rfl
    refine one_ (i := 26) (N := some 54) #[true, true, true, true, true, true, true, true, true, true, true, true, true, true, true, true, true, true, true, true, true, true, true, true, true, true, true, false, false] rfl rfl (one_of HT_.out (by kernel_rfl)) (by decide) (fun K hK => ?_)
    refine goes_ Try.func14 (by kernel_rfl) rfl #[.slice Ao23 t336.length co23, .slice A0_1 l0_1.length c0_1] (by rfl) rfl rfl (by (try simp only [YP, List.map_cons, List.map_nil]); first | done | rfl | (simp only [YR, YQ]; rfl)) ?_
    with_reducible refine (thalwegref04_Same.calls k _ _ t336 _ _ l0_1 t351 _ ?side1 ?side2 ?side3 ?side4 A15.out).mono ?_
    (case side1 => repeat (first | exact (Kd.R_reads' HO338.out).2.2 | (with_reducible refine Kd.C_alloc ?_ _) | (with_reducible refine Kd.C_drewN ?_ _) | (with_reducible refine Kd.C_drew ?_)))
    (case side2 => exact (Kd.R_reads' HO338.out).2.1)
    (case side3 => repeat (first | exact (Kd.C_below HR0_1.out HB.out) | (with_reducible refine Kd.C_alloc ?_ _) | (with_reducible refine Kd.C_drewN ?_ _) | (with_reducible refine Kd.C_drew ?_)))
    (case side4 => exact HC0_1.out)
    rintro e w' ⟨rfl, ⟨nd, rfl⟩⟩
    refine ⟨_, rfl, ?_⟩
    refine hK.out _ _ ⟨(YI BK339.out 0).trans rfl, (YI BK339.out 1).trans rfl, (YI BK335.out 0).trans rfl, (YI BK335.out 1).trans rfl, (own_string (P := Try.prog) Try.underlying26 Try.underlying5 Try.underlying9 (Kd.own_of_R (by (with_reducible repeat (first | apply YS | apply YT | apply YU)); exact HO342.out))), (own_string (P := Try.prog) Try.underlying26 Try.underlying5 Try.underlying9 (Kd.own_of_R (by (with_reducible repeat (first | apply YS | apply YT | apply YU)); exact HO346.out)))⟩ (fun hHeld => ?_)
    clear hK K
    refine norm_ (a' := ?_) ?_ ?_
    rotate_left
    · show Act.put _ (some 54) _ = _
      simp only [Act.put, YM, YN, YO, i64_w, i32_w]
      rfl
    refine pure_ (i := 27) (N := some 55) (v := ?_) (a' := ?_) #[true, true, true, true, true, true, true, true, true, true, true, true, true, true, true, true, true, true, true, true, true, true, true, true, true, true, true, true, false] rfl rfl (any_of HT_.out (by kernel_rfl)) (fun _ _ _ h => h) (Or.inl ⟨by rfl, ?_⟩) ?_ ?_
    rotate_left
    · intro w'
      go_simp; with_reducible rfl
    rotate_left
    · simp only [Act.put, YM, YN, YO, i64_w, i32_w]
      rfl
    refine pure_ (i := 28) (N := some 2) (v := ?_) (a' := ?_) #[true, true, true, true, true, true, true, true, true, true, true, true, true, true, true, true, true, true, true, true, true, true, true, true, true, true, true, true, true] rfl rfl (any_of HT_.out (by kernel_rfl)) (fun _ _ _ h => h) (Or.inl ⟨by rfl, ?_⟩) ?_ ?_
    rotate_left
    · intro w'
      go_simp; with_reducible rfl
    rotate_left
    · simp only [Act.put, YM, YN, YO, i64_w, i32_w]
      rfl
    refine done_ (done_of HT_.out (by kernel_rfl)) ?_
    try go_wp2
    go_ret
    exact ⟨by first | rfl | (simp [errW_none, errW_some] <;> rfl) | (simp [*, errW_none, errW_some] <;> rfl), by repeat (first | (with_reducible first | exact HB.out | apply YA | apply YB | apply YC | refine below_set ?_ GE335.out | refine below_set ?_ GE339.out) | exact HB.out)⟩
  replace c9 := Bool.eq_false_iff.mpr c9
  subst c9
  have H1 : (none) = some r := by rw [if_neg (show ¬ (false = true) by decide)] at H; exact H
  clear H
  have H := H1
  clear H1
  exact absurd H (by simp)
end Go.Proofs.Ytfigbjjaffkidaa.P
namespace Go.Proofs.Ytfigbjjaffkidaa.P
open Go.RowKit Go.Proofs.YtfigbjjaffkidaaW.PrintWords
def thalweglaw05_BatchDoes.Pure : Prop := ∀ (x0 : S24), ((Lit.int .i64 x0.f0).wf = true ∧ (x0.f1.length ≤ maxLen ∧ ∀ x0_ ∈ x0.f1, ((Lit.int .i64 x0_.f0).wf = true ∧ (Lit.int .i64 x0_.f1).wf = true ∧ (True ∧ (Lit.int .i64 x0_.f2.f1).wf = true ∧ (Lit.int .i64 x0_.f2.f2).wf = true ∧ (Lit.int .i64 x0_.f2.f3).wf = true ∧ (Lit.int .i64 x0_.f2.f4).wf = true ∧ (Lit.int .i64 x0_.f2.f5).wf = true) ∧ ((Lit.int .i64 x0_.f3.f0).wf = true ∧ (Lit.int .i64 x0_.f3.f1).wf = true ∧ (Lit.int .i64 x0_.f3.f2).wf = true) ∧ (Lit.int .i64 x0_.f4).wf = true))) → ∃ k, thalweglaw05_BatchDoes.f k x0.f0 x0.f1 = some true
end Go.Proofs.Ytfigbjjaffkidaa.P
namespace Go.Proofs.Ytfigbjjaffkidaa.P
open Go.RowKit Go.Proofs.YtfigbjjaffkidaaW.PrintWords Go.Proofs.YtfigbjjaffkidaaW.PrintLast Go.Proofs.YtfigbjjaffkidaaW.PrintMore
theorem wire_Int_eq (v : Int) : wire_Int.f v = some (intSpec v) := by
  unfold wire_Int.f wire_bytes.f intSpec
  rw [wrap_u64, if_pos (by omega)]
  rfl
end Go.Proofs.Ytfigbjjaffkidaa.P
namespace Go.Proofs.Ytfigbjjaffkidaa.P
open Go.RowKit Go.Proofs.YtfigbjjaffkidaaW.PrintWords Go.Proofs.YtfigbjjaffkidaaW.PrintLast Go.Proofs.YtfigbjjaffkidaaW.PrintMore
theorem intSpec_length (v : Int) : (intSpec v).length = 8 := be_length _ _
theorem ob_no (a0 a1 : Int) (a2 : Bool) (a3 a4 a5 a6 a7 a8 a9 a10 a11 c : Int) (h : Ev (fun k => object_Check.f k a0 a1 a2 a3 a4 a5 a6 a7 a8 a9 a10 a11) c) (hc : c ≠ 0) :
    Ev (fun k => object_Bytes.f k a0 a1 a2 a3 a4 a5 a6 a7 a8 a9 a10 a11) ([], c) := by
  unfold object_Bytes.f
  refine Ev.bind h ?_
  simp only [if_neg hc]
  exact Ev.now _
theorem os_ev (a0 a1 : Int) (a2 : Bool) (a3 a4 a5 a6 a7 a8 a9 a10 a11 : Int) (out : List Int × Int) (h : Ev (fun k => object_Bytes.f k a0 a1 a2 a3 a4 a5 a6 a7 a8 a9 a10 a11) out) :
    Ev (fun k => object_Size.f k a0 a1 a2 a3 a4 a5 a6 a7 a8 a9 a10 a11) (out.1.length : Int) := by
  unfold object_Size.f
  exact Ev.bind h (Ev.now _)
end Go.Proofs.Ytfigbjjaffkidaa.P
namespace Go.Proofs.Ytfigbjjaffkidaa.P
open Go.RowKit Go.Proofs.YtfigbjjaffkidaaW.PrintWords Go.Proofs.YtfigbjjaffkidaaW.PrintLast Go.Proofs.YtfigbjjaffkidaaW.PrintMore
def RH (n : Bool) (a b c d e : Int) : Prop := (0 ≤ e ∧ e < 64) ∧ ((n = true ∧ a = 0 ∧ b = 0 ∧ c = 0 ∧ d = 0) ∨ (n = false ∧ 0 ≤ a ∧ a ≤ 4611686018427387903 ∧ 0 ≤ b ∧ b < 64 ∧ 0 ≤ c ∧ c ≤ 1 ∧ -1099511627776 ≤ d ∧ d ≤ 1099511627776))
instance (n : Bool) (a b c d e : Int) : Decidable (RH n a b c d e) := by unfold RH; infer_instance
theorem hj_eq (k : Nat) (n x : Bool) (a b c d e : Int) : height_Check.j0 (k + 1) x n a b c d e = some (if x = true ∧ ((n = true ∧ a = 0 ∧ b = 0 ∧ c = 0 ∧ d = 0) ∨ (n = false ∧ 0 ≤ a ∧ a ≤ 4611686018427387903 ∧ 0 ≤ b ∧ b < 64 ∧ 0 ≤ c ∧ c ≤ 1 ∧ -1099511627776 ≤ d ∧ d ≤ 1099511627776)) then 0 else 1) := by
  simp only [height_Check.j0, height_Null.f, Option.bind_some]
  cases n <;> cases x <;> simp only [Bool.true_and, beq_self_eq_true, Bool.and_true, Bool.and_eq_true, beq_iff_eq, if_true, Bool.false_eq_true, if_false, true_and, false_and, or_false, false_or, Bool.true_eq_false, reduceCtorEq]
  · repeat' split
    all_goals first
      | rfl
      | (exfalso; omega)
  · by_cases h : a = 0 ∧ b = 0 ∧ c = 0 ∧ d = 0
    · rw [if_pos h, if_pos h]
    · rw [if_neg h, if_neg h]
theorem hc_eq (n : Bool) (a b c d e : Int) : Ev (fun k => height_Check.f k n a b c d e) (if RH n a b c d e then 0 else 1) := by
  unfold height_Check.f
  refine Ev.from 1 fun k => ?_
  rw [hj_eq, hj_eq]
  unfold RH
  by_cases h : e ≥ 0
  · rw [if_pos h]
    congr 1
    have h0 : 0 ≤ e := h
    simp only [decide_eq_true_eq, h0, true_and]
  · rw [if_neg h]
    have : ¬ 0 ≤ e := h
    simp only [this, false_and, Bool.false_eq_true]
theorem ha_eq (a b c d e : Int) : ∃ t : Bool × Int × Int × Int × Int × Int × Int, Ev (fun k => height_At.f k a b c d e) t ∧ t.2.2.2.2.2.2 = (if RH false a b c d e then 0 else 1) := by
  unfold height_At.f
  by_cases h : RH false a b c d e
  · have := hc_eq false a b c d e
    rw [if_pos h] at this
    rw [if_pos h]
    exact ⟨(false, a, b, c, d, e, 0), Ev.bind this (by simp only [if_true]; exact Ev.now _), rfl⟩
  · have := hc_eq false a b c d e
    rw [if_neg h] at this
    rw [if_neg h]
    exact ⟨(false, 0, 0, 0, 0, 0, 1), Ev.bind this (by simp only [if_neg (show ¬ (1 : Int) = 0 by decide)]; exact Ev.now _), rfl⟩
theorem ev_eq {α : Type} {g : Nat → Option α} {a b : α} (h : Ev g a) (e : a = b) : Ev g b := e ▸ h
end Go.Proofs.Ytfigbjjaffkidaa.P
namespace Go.Proofs.Ytfigbjjaffkidaa.P
open Go.RowKit Go.Proofs.YtfigbjjaffkidaaW.PrintWords Go.Proofs.YtfigbjjaffkidaaW.PrintLast Go.Proofs.YtfigbjjaffkidaaW.PrintMore
def RO (a0 a1 : Int) (a2 : Bool) (a3 a4 a5 a6 a7 a8 a9 a10 a11 : Int) : Prop := (0 ≤ a1 ∧ a1 < 64) ∧
  ((a0 = 1 ∧ (a8 = 0 ∧ a9 = 0 ∧ a10 = 0) ∧ (a2 = false ∧ a3 = 0 ∧ a4 = 0 ∧ a5 = 0 ∧ a6 = 0 ∧ a7 = 0) ∧ a11 = 0) ∨
   (a0 = 2 ∧ (a8 = 0 ∧ a9 = 0 ∧ a10 = 0) ∧ a11 = 0 ∧ RH a2 a3 a4 a5 a6 a7) ∨
   (a0 = 3 ∧ (a2 = false ∧ a3 = 0 ∧ a4 = 0 ∧ a5 = 0 ∧ a6 = 0 ∧ a7 = 0) ∧ a11 = 0 ∧ RH false a8 a9 a10 0 0) ∨
   (a0 = 4 ∧ (a8 = 0 ∧ a9 = 0 ∧ a10 = 0) ∧ 0 ≤ a11 ∧ a11 ≤ 65535 ∧ RH a2 a3 a4 a5 a6 a7 ∧ a2 = false))
instance (a0 a1 : Int) (a2 : Bool) (a3 a4 a5 a6 a7 a8 a9 a10 a11 : Int) : Decidable (RO a0 a1 a2 a3 a4 a5 a6 a7 a8 a9 a10 a11) := by unfold RO; infer_instance
theorem oj1_eq (x4 : Bool) (a0 a1 : Int) (a2 : Bool) (a3 a4 a5 a6 a7 a8 a9 a10 a11 : Int) (b2 : Bool) (b3 b4 b5 b6 b7 b8 b9 b10 b11 : Int) :
    Ev (fun k => object_Check.j1 k x4 a0 a1 a2 a3 a4 a5 a6 a7 a8 a9 a10 a11 0 0 b2 b3 b4 b5 b6 b7 b8 b9 b10 b11) (if x4 = true ∧ RH a2 a3 a4 a5 a6 a7 ∧ (b8 = 0 ∧ b9 = 0 ∧ b10 = 0) ∧ b11 = 0 then 0 else 1) := by
  refine Ev.step (f := fun k => _) (fun k => by simp only [object_Check.j1]; rfl) ?_
  cases x4 with
  | false => simp only [Bool.false_eq_true, if_false, false_and]; exact Ev.now _
  | true =>
    simp only [if_true, true_and]
    refine Ev.bind (hc_eq a2 a3 a4 a5 a6 a7) ?_
    by_cases h : RH a2 a3 a4 a5 a6 a7
    · simp only [if_pos h, if_true, h, true_and]
      by_cases g : (b8 = 0 ∧ b9 = 0 ∧ b10 = 0) ∧ b11 = 0
      · obtain ⟨⟨rfl, rfl, rfl⟩, rfl⟩ := g
        simp only [and_self, if_true]
        exact Ev.now _
      · rw [if_neg g]
        have : (!((0 : Int) == 0) || (!((0 : Int) == 0) || ((!(b8 == 0) || (!(b9 == 0) || (!(b10 == 0)))) || (!(b11 == 0))))) = true := by
          rw [← Bool.not_eq_false]
          intro hf
          simp only [Bool.or_eq_false_iff, Bool.not_eq_false', beq_iff_eq] at hf
          exact g ⟨⟨hf.2.2.1.1, hf.2.2.1.2.1, hf.2.2.1.2.2⟩, hf.2.2.2⟩
        simp only [if_pos this]
        exact Ev.now _
    · simp only [if_neg h, h, false_and, if_false, show ¬ (1 : Int) = 0 by decide]
      exact Ev.now _
theorem oc_eq (a0 a1 : Int) (a2 : Bool) (a3 a4 a5 a6 a7 a8 a9 a10 a11 : Int) : Ev (fun k => object_Check.f k a0 a1 a2 a3 a4 a5 a6 a7 a8 a9 a10 a11) (if RO a0 a1 a2 a3 a4 a5 a6 a7 a8 a9 a10 a11 then 0 else 1) := by
  have hj : ∀ x : Bool, Ev (fun k => object_Check.j0 k x a0 a1 a2 a3 a4 a5 a6 a7 a8 a9 a10 a11 0 0 a2 a3 a4 a5 a6 a7 a8 a9 a10 a11) (if x = true ∧
    ((a0 = 1 ∧ (a8 = 0 ∧ a9 = 0 ∧ a10 = 0) ∧ (a2 = false ∧ a3 = 0 ∧ a4 = 0 ∧ a5 = 0 ∧ a6 = 0 ∧ a7 = 0) ∧ a11 = 0) ∨
     (a0 = 2 ∧ (a8 = 0 ∧ a9 = 0 ∧ a10 = 0) ∧ a11 = 0 ∧ RH a2 a3 a4 a5 a6 a7) ∨
     (a0 = 3 ∧ (a2 = false ∧ a3 = 0 ∧ a4 = 0 ∧ a5 = 0 ∧ a6 = 0 ∧ a7 = 0) ∧ a11 = 0 ∧ RH false a8 a9 a10 0 0) ∨
     (a0 = 4 ∧ (a8 = 0 ∧ a9 = 0 ∧ a10 = 0) ∧ 0 ≤ a11 ∧ a11 ≤ 65535 ∧ RH a2 a3 a4 a5 a6 a7 ∧ a2 = false)) then 0 else 1) := by
    intro x
    refine Ev.step (f := fun k => _) (fun k => by simp only [object_Check.j0]; rfl) ?_
    by_cases h1 : a0 = 1
    · subst h1
      simp only [if_true, show ¬ (1 : Int) = 2 by decide, show ¬ (1 : Int) = 3 by decide, show ¬ (1 : Int) = 4 by decide, false_and, or_false, true_and]
      cases x with
      | false => simp only [Bool.false_eq_true, if_false, false_and]; exact Ev.now _
      | true =>
        simp only [if_true, true_and]
        by_cases g : (a8 = 0 ∧ a9 = 0 ∧ a10 = 0) ∧ (a2 = false ∧ a3 = 0 ∧ a4 = 0 ∧ a5 = 0 ∧ a6 = 0 ∧ a7 = 0) ∧ a11 = 0
        · rw [if_pos g]
          obtain ⟨⟨rfl, rfl, rfl⟩, ⟨rfl, rfl, rfl, rfl, rfl, rfl⟩, rfl⟩ := g
          exact Ev.now _
        · rw [if_neg g]
          have : (!((0 : Int) == 0) || (!((0 : Int) == 0) || ((a2 || (!(a3 == 0) || (!(a4 == 0) || (!(a5 == 0) || (!(a6 == 0) || (!(a7 == 0))))))) || ((!(a8 == 0) || (!(a9 == 0) || (!(a10 == 0)))) || (!(a11 == 0)))))) = true := by
            rw [← Bool.not_eq_false]
            intro hf
            simp only [Bool.or_eq_false_iff, Bool.not_eq_false', beq_iff_eq] at hf
            obtain ⟨_, _, ⟨u2, u3, u4, u5, u6, u7⟩, ⟨u8, u9, u10⟩, u11⟩ := hf
            exact g ⟨⟨u8, u9, u10⟩, ⟨u2, u3, u4, u5, u6, u7⟩, u11⟩
          simp only [if_pos this]
          exact Ev.now _
    by_cases h4 : a0 = 4
    · subst h4
      simp only [if_true, if_neg h1, show ¬ (4 : Int) = 1 by decide, show ¬ (4 : Int) = 2 by decide, show ¬ (4 : Int) = 3 by decide, false_and, false_or, true_and]
      cases x with
      | false =>
        simp only [Bool.false_eq_true, if_false, false_and]
        refine ev_eq (oj1_eq _ _ _ _ _ _ _ _ _ _ _ _ _ _ _ _ _ _ _ _ _ _ _) ?_
        simp only [Bool.false_eq_true, false_and, if_false]
      | true =>
        simp only [if_true, true_and]
        cases a2 with
        | true =>
          simp only [if_true, Bool.true_eq_false, and_false, if_false]
          refine ev_eq (oj1_eq _ _ _ _ _ _ _ _ _ _ _ _ _ _ _ _ _ _ _ _ _ _ _) ?_
          simp only [Bool.false_eq_true, false_and, if_false]
        | false =>
          simp only [Bool.false_eq_true, if_false, and_true]
          by_cases g : a11 ≥ 0
          · simp only [if_pos g]
            refine ev_eq (oj1_eq _ _ _ _ _ _ _ _ _ _ _ _ _ _ _ _ _ _ _ _ _ _ _) ?_
            have g0 : 0 ≤ a11 := g
            simp only [decide_eq_true_eq, g0, true_and, and_true]
            congr 1
            apply propext
            constructor
            · rintro ⟨u, v, w⟩; exact ⟨w, u, v⟩
            · rintro ⟨w, u, v⟩; exact ⟨u, v, w⟩
          · simp only [if_neg g]
            refine ev_eq (oj1_eq _ _ _ _ _ _ _ _ _ _ _ _ _ _ _ _ _ _ _ _ _ _ _) ?_
            have g' : ¬ 0 ≤ a11 := g
            simp only [g', Bool.false_eq_true, false_and, and_false, if_false]
    by_cases h2 : a0 = 2
    · subst h2
      simp only [if_neg h1, if_neg h4, if_true, show ¬ (2 : Int) = 1 by decide, show ¬ (2 : Int) = 4 by decide, show ¬ (2 : Int) = 3 by decide, false_and, false_or, or_false, true_and]
      refine ev_eq (oj1_eq _ _ _ _ _ _ _ _ _ _ _ _ _ _ _ _ _ _ _ _ _ _ _) ?_
      congr 1
      apply propext
      constructor
      · rintro ⟨u, v, w, z⟩; exact ⟨u, w, z, v⟩
      · rintro ⟨u, w, z, v⟩; exact ⟨u, v, w, z⟩
    by_cases h3 : a0 = 3
    · subst h3
      simp only [if_neg h1, if_neg h4, if_neg h2, if_true, show ¬ (3 : Int) = 1 by decide, show ¬ (3 : Int) = 4 by decide, show ¬ (3 : Int) = 2 by decide, false_and, false_or, or_false, true_and]
      obtain ⟨t, ht, he⟩ := ha_eq a8 a9 a10 0 0
      refine Ev.bind ht ?_
      rw [he]
      cases x with
      | false => simp only [Bool.false_eq_true, if_false, false_and]; exact Ev.now _
      | true =>
        simp only [if_true, true_and]
        by_cases h : RH false a8 a9 a10 0 0
        · simp only [if_pos h, h, if_true, and_true]
          by_cases g : (a2 = false ∧ a3 = 0 ∧ a4 = 0 ∧ a5 = 0 ∧ a6 = 0 ∧ a7 = 0) ∧ a11 = 0
          · rw [if_pos g]
            obtain ⟨⟨rfl, rfl, rfl, rfl, rfl, rfl⟩, rfl⟩ := g
            exact Ev.now _
          · rw [if_neg g]
            have : (!((0 : Int) == 0) || (!((0 : Int) == 0) || ((a2 || (!(a3 == 0) || (!(a4 == 0) || (!(a5 == 0) || (!(a6 == 0) || (!(a7 == 0))))))) || (!(a11 == 0))))) = true := by
              rw [← Bool.not_eq_false]
              intro hf
              simp only [Bool.or_eq_false_iff, Bool.not_eq_false', beq_iff_eq] at hf
              obtain ⟨_, _, ⟨u2, u3, u4, u5, u6, u7⟩, u11⟩ := hf
              exact g ⟨⟨u2, u3, u4, u5, u6, u7⟩, u11⟩
            simp only [if_pos this]
            exact Ev.now _
        · simp only [if_neg h, h, show ¬ (1 : Int) = 0 by decide, if_false, and_false]
          exact Ev.now _
    · simp only [if_neg h1, if_neg h4, if_neg h2, if_neg h3, h1, h2, h3, h4, false_and, or_false, and_false, if_false]
      exact Ev.now _
  unfold object_Check.f RO
  by_cases h : a1 ≥ 0
  · simp only [if_pos h]
    refine ev_eq (hj _) ?_
    have g0 : 0 ≤ a1 := h
    simp only [decide_eq_true_eq, g0, true_and]
  · simp only [if_neg h]
    refine ev_eq (hj _) ?_
    have h' : ¬ 0 ≤ a1 := h
    simp only [h', Bool.false_eq_true, false_and, and_false, if_false]
end Go.Proofs.Ytfigbjjaffkidaa.P
namespace Go.Proofs.Ytfigbjjaffkidaa.P
open Go.RowKit Go.Proofs.YtfigbjjaffkidaaW.PrintWords Go.Proofs.YtfigbjjaffkidaaW.PrintLast Go.Proofs.YtfigbjjaffkidaaW.PrintMore
def hB (n : Bool) (a b c d e : Int) : List Int := if n = true then [0, e % 256] else [1] ++ intSpec a ++ [b % 256, c % 256] ++ intSpec d ++ [e % 256]
theorem hB_length (n : Bool) (a b c d e : Int) : (hB n a b c d e).length = if n = true then 2 else 20 := by
  unfold hB
  cases n
  · simp only [Bool.false_eq_true, if_false, List.length_append, intSpec_length, List.length_cons, List.length_nil]
  · rfl
theorem hb_eq (n : Bool) (a b c d e : Int) (h : RH n a b c d e) : Ev (fun k => height_Bytes.f k n a b c d e) (hB n a b c d e, 0) := by
  have hc := hc_eq n a b c d e
  rw [if_pos h] at hc
  unfold height_Bytes.f hB
  refine Ev.bind hc ?_
  cases n with
  | true =>
    simp only [if_true, List.length_nil, List.nil_append, Option.bind_some, List.length_singleton]
    simp only [show (0 : Nat) < 140737488355328 by decide, show (1 : Nat) < 140737488355328 by decide, if_true]
    exact Ev.now _
  | false =>
    simp only [if_true, Bool.false_eq_true, if_false, List.length_nil, List.nil_append, Option.bind_some, List.length_singleton, wire_Int_eq, List.length_append, intSpec_length, List.length_cons]
    simp only [show (0 : Nat) < 140737488355328 by decide, Nat.reduceAdd, Nat.reduceLT, if_true]
    exact Ev.now _
def oB (a0 a1 : Int) (a2 : Bool) (a3 a4 a5 a6 a7 a8 a9 a10 a11 : Int) : List Int :=
  [a0 % 256, a1 % 256] ++ (if a0 = 1 then [] else if a0 = 3 then intSpec a8 ++ [a9 % 256, a10 % 256] else if a0 = 4 then hB a2 a3 a4 a5 a6 a7 ++ [a11 / 256 % 256, a11 % 256] else hB a2 a3 a4 a5 a6 a7)
theorem obx (a0 a1 : Int) (a2 : Bool) (a3 a4 a5 a6 a7 a8 a9 a10 a11 : Int) (h : RO a0 a1 a2 a3 a4 a5 a6 a7 a8 a9 a10 a11) :
    Ev (fun k => object_Bytes.f k a0 a1 a2 a3 a4 a5 a6 a7 a8 a9 a10 a11) (oB a0 a1 a2 a3 a4 a5 a6 a7 a8 a9 a10 a11, 0) := by
  have hc := oc_eq a0 a1 a2 a3 a4 a5 a6 a7 a8 a9 a10 a11
  rw [if_pos h] at hc
  unfold object_Bytes.f
  refine Ev.bind hc ?_
  simp only [if_true, Option.bind_some]
  rcases h.2 with ⟨rfl, _⟩ | ⟨rfl, _, _, hh⟩ | ⟨rfl, _⟩ | ⟨rfl, _, _, _, hh, rfl⟩
  · simp only [if_neg (show ¬ (1 : Int) = 2 by decide), show ((1 : Int) == 4) = false by decide]
    refine Ev.step (f := fun k => _) (fun k => by simp only [object_Bytes.j0]; rfl) ?_
    simp only [Bool.false_eq_true, if_false, if_neg (show ¬ (1 : Int) = 3 by decide), if_neg (show ¬ (1 : Int) = 4 by decide)]
    exact Ev.now _
  · simp only [show ((2 : Int) == 2) = true by decide, if_true]
    refine Ev.step (f := fun k => _) (fun k => by simp only [object_Bytes.j0]; rfl) ?_
    simp only [if_true]
    refine Ev.bind (hb_eq _ _ _ _ _ _ hh) ?_
    have hl := hB_length a2 a3 a4 a5 a6 a7
    have : [2 % 256, a1 % 256].length + (hB a2 a3 a4 a5 a6 a7).length < 140737488355328 := by rw [hl]; simp; split <;> omega
    simp only [if_true, if_pos this, Option.bind_some, if_neg (show ¬ (2 : Int) = 4 by decide)]
    exact Ev.now _
  · simp only [if_neg (show ¬ (3 : Int) = 2 by decide), show ((3 : Int) == 4) = false by decide]
    refine Ev.step (f := fun k => _) (fun k => by simp only [object_Bytes.j0]; rfl) ?_
    simp only [Bool.false_eq_true, if_false, if_true, wire_Int_eq, Option.bind_some, List.length_append, intSpec_length, List.length_cons, List.length_nil, Nat.reduceAdd, Nat.reduceLT, if_neg (show ¬ (3 : Int) = 4 by decide)]
    refine ev_eq (Ev.now _) ?_
    unfold oB
    rw [if_neg (show ¬ (3 : Int) = 1 by decide), if_pos rfl, List.append_assoc]
  · simp only [if_neg (show ¬ (4 : Int) = 2 by decide), show ((4 : Int) == 4) = true by decide]
    refine Ev.step (f := fun k => _) (fun k => by simp only [object_Bytes.j0]; rfl) ?_
    simp only [if_true]
    refine Ev.bind (hb_eq _ _ _ _ _ _ hh) ?_
    have h20 : (hB false a3 a4 a5 a6 a7).length = 20 := by rw [hB_length]; rfl
    simp only [List.length_append, List.length_cons, List.length_nil, h20, Nat.reduceAdd, Nat.reduceLT, if_true, Option.bind_some]
    refine ev_eq (Ev.now _) ?_
    unfold oB
    rw [if_neg (show ¬ (4 : Int) = 1 by decide), if_neg (show ¬ (4 : Int) = 3 by decide), if_pos rfl, List.append_assoc]
theorem obn (a0 a1 : Int) (a2 : Bool) (a3 a4 a5 a6 a7 a8 a9 a10 a11 : Int) (h : ¬ RO a0 a1 a2 a3 a4 a5 a6 a7 a8 a9 a10 a11) :
    Ev (fun k => object_Bytes.f k a0 a1 a2 a3 a4 a5 a6 a7 a8 a9 a10 a11) ([], 1) := by
  have hc := oc_eq a0 a1 a2 a3 a4 a5 a6 a7 a8 a9 a10 a11
  rw [if_neg h] at hc
  exact ob_no _ _ _ _ _ _ _ _ _ _ _ _ _ hc (by decide)
end Go.Proofs.Ytfigbjjaffkidaa.P
namespace Go.Proofs.Ytfigbjjaffkidaa.P
open Go.RowKit Go.Proofs.YtfigbjjaffkidaaW.PrintWords Go.Proofs.YtfigbjjaffkidaaW.PrintLast Go.Proofs.YtfigbjjaffkidaaW.PrintMore
theorem intSpec_be (v : Int) : intSpec v = be 8 v := by
  unfold intSpec
  have h := be_add 8 (v % 18446744073709551616) (v / 18446744073709551616)
  rw [show (256 : Int) ^ 8 = 18446744073709551616 by decide] at h
  rw [← h]
  congr 1
  omega
theorem int_left (v : Int) (h0 : -9223372036854775808 ≤ v) (h1 : v ≤ 9223372036854775807) :
    (Int.tmod v 256 < 0 → (wrap64 (Int.tmod v 256 + 256)) % 256 = v % 256 ∧ wrap64 (Int.tdiv (wrap64 (v - wrap64 (Int.tmod v 256 + 256))) 256) = v / 256) ∧
    (¬ Int.tmod v 256 < 0 → Int.tmod v 256 % 256 = v % 256 ∧ wrap64 (Int.tdiv (wrap64 (v - Int.tmod v 256)) 256) = v / 256) := by
  have hm : Int.tmod v 256 = v % 256 ∨ (Int.tmod v 256 = v % 256 - 256 ∧ v < 0 ∧ v % 256 ≠ 0) := by
    rw [Int.tmod_eq_emod]
    split
    · left; omega
    · rename_i hc
      rw [not_or] at hc
      by_cases hz : v % 256 = 0
      · exact absurd (Int.dvd_of_emod_eq_zero hz) hc.2
      · right; refine ⟨by simp, by omega, hz⟩
  have hdiv : ∀ a q : Int, a = 256 * q → Int.tdiv a 256 = q := fun a q h => by rw [h, Int.mul_tdiv_cancel_left _ (by decide)]
  constructor
  · intro hneg
    rcases hm with hm | ⟨hm, hv, hz⟩
    · omega
    · rw [hm, w64 (x := v % 256 - 256 + 256) (by omega) (by omega)]
      refine ⟨by omega, ?_⟩
      by_cases hlow : -9223372036854775808 ≤ v - (v % 256 - 256 + 256)
      · rw [w64 (x := v - _) (by omega) (by omega), hdiv _ (v / 256) (by omega), w64 (by omega) (by omega)]
      · exact absurd (show v % 256 = 0 by omega) hz
  · intro hpos
    rcases hm with hm | ⟨hm, hv, hz⟩
    · rw [hm]
      refine ⟨by omega, ?_⟩
      rw [w64 (x := v - _) (by omega) (by omega), hdiv _ (v / 256) (by omega), w64 (by omega) (by omega)]
    · omega
theorem refInt_l0 (v : Int) (h0 : -9223372036854775808 ≤ v) (h1 : v ≤ 9223372036854775807) : ∀ (d i : Nat), i + d = 7 →
    Ev (fun k => thalwegref01_Int.l0 k (v / 256 ^ i) (List.replicate (8 - i) 0 ++ be i v) (7 - (i : Int))) (be 8 v) := by
  have fin : ∀ (x : Int) (l : List Int), Ev (fun k => thalwegref01_Int.l0 k x l (-1)) l := fun x l => Ev.from 1 fun k => by
    simp only [thalwegref01_Int.l0]
    rw [if_neg (by decide)]
  have lo : ∀ i : Nat, -9223372036854775808 ≤ v / 256 ^ i ∧ v / 256 ^ i ≤ 9223372036854775807 := by
    intro i
    have hp := pow256_pos i
    generalize (256 : Int) ^ i = p at *
    have h2 := Int.emod_add_mul_ediv v p
    have h3 := Int.emod_nonneg v (show p ≠ 0 by omega)
    have h4 := Int.emod_lt_of_pos v hp
    have hup : v ≤ 0 → v / p ≤ 0 := by
      intro hv
      rcases Int.le_total (v / p) 0 with hq | hq
      · exact hq
      · rcases Int.lt_or_le 0 (v / p) with hq2 | hq2
        · have h5 : p * 1 ≤ p * (v / p) := Int.mul_le_mul_of_nonneg_left (by omega) (by omega)
          omega
        · exact hq2
    have hlo : v ≤ 0 → v ≤ v / p := by
      intro hv
      rcases Int.lt_or_le (v / p) v with hq | hq
      · have h5 : p * (v / p + 1) ≤ 1 * (v / p + 1) := Int.mul_le_mul_of_nonpos_right (by omega) (by omega)
        rw [Int.mul_add] at h5
        omega
      · exact hq
    constructor
    · rcases Int.le_total 0 v with hv | hv
      · have := Int.ediv_nonneg hv (Int.le_of_lt hp); omega
      · have := hlo hv; omega
    · rcases Int.le_total 0 v with hv | hv
      · have := Int.ediv_le_self p hv; omega
      · have := hup hv; omega
  intro d
  induction d with
  | zero =>
    intro i hi
    obtain rfl : i = 7 := by omega
    obtain ⟨hneg, hpos⟩ := int_left (v / 256 ^ 7) (lo 7).1 (lo 7).2
    have hs : ∀ x : Int, x = v / 256 ^ 7 % 256 → (List.replicate (8 - 7) (0 : Int) ++ be 7 v).set 0 x = be 8 v := by
      intro x hx
      rw [hx, show be 8 v = (v / 256 ^ 7 % 256) :: be 7 v from be_cons 7 v]
      exact be_set 0 _ _
    have hlen : (List.replicate (8 - 7) (0 : Int) ++ be 7 v).length = 8 := by rw [List.length_append, List.length_replicate, be_length]
    have t3 : (0 : Int) < ((List.replicate (8 - 7) (0 : Int) ++ be 7 v).length : Int) := by rw [hlen]; decide
    have hw : wrap64 ((0 : Int) - 1) = -1 := by unfold wrap64; omega
    have e0 : (7 : Int) - ((7 : Nat) : Int) = 0 := by decide
    refine Ev.step (f := fun k => _) (fun k => by simp only [thalwegref01_Int.l0]; rfl) ?_
    simp only [e0, if_pos (show (0 : Int) ≥ 0 by decide), if_pos (show (0 : Int) ≤ 0 by decide), if_pos t3, hw, if_true, Option.bind_some, Int.toNat_zero]
    by_cases c : Int.tmod (v / 256 ^ 7) 256 < 0
    · simp only [if_pos c, hs _ (hneg c).1]
      exact fin _ _
    · simp only [if_neg c, hs _ (hpos c).1]
      exact fin _ _
  | succ d ih =>
    intro i hi
    have hn2 := ih (i + 1) (by omega)
    obtain ⟨hneg, hpos⟩ := int_left (v / 256 ^ i) (lo i).1 (lo i).2
    have hs : ∀ x : Int, x = v / 256 ^ i % 256 → (List.replicate (8 - i) (0 : Int) ++ be i v).set (7 - (i : Int)).toNat x = List.replicate (8 - (i + 1)) 0 ++ be (i + 1) v := by
      intro x hx
      rw [hx, be_cons, show (7 - (i : Int)).toNat = 8 - (i + 1) by omega, show 8 - i = (8 - (i + 1)) + 1 by omega]
      exact be_set _ _ _
    have hlen : (List.replicate (8 - i) (0 : Int) ++ be i v).length = 8 := by rw [List.length_append, List.length_replicate, be_length]; omega
    have t1 : (7 : Int) - i ≥ 0 := by omega
    have t2 : 0 ≤ (7 : Int) - i := t1
    have t3 : (7 : Int) - i < ((List.replicate (8 - i) (0 : Int) ++ be i v).length : Int) := by rw [hlen]; omega
    have t4 : ¬ (7 : Int) - i = 0 := by omega
    have hw : wrap64 ((7 : Int) - i - 1) = 7 - ((i + 1 : Nat) : Int) := by rw [w64 (by omega) (by omega)]; omega
    have hdd : v / 256 ^ i / 256 = v / 256 ^ (i + 1) := by rw [Int.ediv_ediv_of_nonneg (Int.le_of_lt (pow256_pos i)), ← Int.pow_succ]
    refine Ev.step (f := fun k => _) (fun k => by simp only [thalwegref01_Int.l0]; rfl) ?_
    simp only [if_pos t1, if_pos t2, if_pos t3, hw, if_neg t4, Option.bind_some]
    by_cases c : Int.tmod (v / 256 ^ i) 256 < 0
    · simp only [if_pos c, hs _ (hneg c).1, (hneg c).2, hdd]
      exact hn2
    · simp only [if_neg c, hs _ (hpos c).1, (hpos c).2, hdd]
      exact hn2
theorem refInt_ev (v : Int) (hv : (Lit.int .i64 v).wf = true) : Ev (fun k => thalwegref01_Int.f k v) (intSpec v) := by
  have hb := bnd64 hv
  unfold thalwegref01_Int.f
  simp only [if_pos (show 8 ≤ 281474976710656 by decide)]
  rw [intSpec_be]
  have h := refInt_l0 v hb.1 hb.2 7 0 (by omega)
  simpa [be] using h
end Go.Proofs.Ytfigbjjaffkidaa.P
namespace Go.Proofs.Ytfigbjjaffkidaa.P
open Go.RowKit Go.Proofs.YtfigbjjaffkidaaW.PrintWords Go.Proofs.YtfigbjjaffkidaaW.PrintLast Go.Proofs.YtfigbjjaffkidaaW.PrintMore
theorem rows_get (rows : List (List Int)) (i : Int) (h0 : 0 ≤ i) (h1 : i < rows.length) : rows.drop i.toNat = rd_L7 rows i :: rows.drop (i + 1).toNat := by
  have hi : i.toNat < rows.length := by omega
  rw [List.drop_eq_getElem_cons hi, show (i + 1).toNat = i.toNat + 1 by omega]
  congr 1
  unfold rd_L7
  rw [List.getD_eq_getElem?_getD, List.getElem?_eq_getElem hi]
  rfl
theorem both_l0 (rows : List (List Int)) (hr : rows.length ≤ 1000) : ∀ (d : Nat) (i : Int) (acc : List Int), 0 ≤ i → (rows.length : Int) - i = d → acc.length + (rows.drop i.toNat).flatten.length < 140737488355328 →
    Ev (fun k => thalwegref01_Both.l0 k rows acc i) (acc ++ (rows.drop i.toNat).flatten) := by
  intro d
  induction d with
  | zero =>
    intro i acc h0 hd hl
    refine Ev.from 1 fun k => ?_
    simp only [thalwegref01_Both.l0]
    rw [if_neg (by omega), List.drop_eq_nil_of_le (by omega)]
    simp
  | succ d ih =>
    intro i acc h0 hd hl
    have h1 : i < (rows.length : Int) := by omega
    refine Ev.step (f := fun k => _) (fun k => by simp only [thalwegref01_Both.l0]; rfl) ?_
    rw [rows_get rows i h0 h1] at hl ⊢
    simp only [List.flatten_cons, List.length_append] at hl ⊢
    have hc : acc.length + (rd_L7 rows i).length < 140737488355328 := by omega
    simp only [if_pos h1, if_pos h0, if_pos hc, w64 (x := i + 1) (by omega) (by omega)]
    have := ih (i + 1) (acc ++ rd_L7 rows i) (by omega) (by omega) (by rw [List.length_append]; omega)
    rw [← List.append_assoc]
    exact this
theorem both_ev (rows : List (List Int)) (hr : rows.length ≤ 1000) (hl : rows.flatten.length < 140737488355328) : Ev (fun k => thalwegref01_Both.f k rows) rows.flatten := by
  unfold thalwegref01_Both.f
  have := both_l0 rows hr rows.length 0 [] (by omega) (by omega) (by simpa using hl)
  simpa using this
end Go.Proofs.Ytfigbjjaffkidaa.P
namespace Go.Proofs.Ytfigbjjaffkidaa.P
open Go.RowKit Go.Proofs.YtfigbjjaffkidaaW.PrintWords Go.Proofs.YtfigbjjaffkidaaW.PrintLast Go.Proofs.YtfigbjjaffkidaaW.PrintMore
theorem bool_same0 {p q : Prop} [Decidable p] [Decidable q] (h : p ↔ q) : (decide p) = (decide q) := by
  by_cases hp : p
  · rw [decide_eq_true hp, decide_eq_true (h.mp hp)]
  · rw [decide_eq_false hp, decide_eq_false (fun hq => hp (h.mpr hq))]
theorem rj_eq (k : Nat) (n x : Bool) (a b c d e : Int) : thalwegref02_Right.j0 (k + 1) x n a b c d e = some (decide (x = false ∧ ((n = true ∧ a = 0 ∧ b = 0 ∧ c = 0 ∧ d = 0) ∨ (n = false ∧ 0 ≤ a ∧ a ≤ 4611686018427387903 ∧ 0 ≤ b ∧ b < 64 ∧ 0 ≤ c ∧ c ≤ 1 ∧ -1099511627776 ≤ d ∧ d ≤ 1099511627776)))) := by
  simp only [thalwegref02_Right.j0]
  cases n <;> cases x <;> simp only [if_true, Bool.false_eq_true, if_false, true_and, false_and, or_false, false_or, Bool.true_eq_false, reduceCtorEq, decide_false]
  · repeat' split
    all_goals
      congr 1
      first
        | (rw [eq_comm, decide_eq_false_iff_not]; omega)
        | (apply bool_same0; omega)
  · congr 1
    rw [Bool.eq_iff_iff, decide_eq_true_eq]
    simp only [Bool.and_eq_true, beq_iff_eq]
theorem rr_eq (n : Bool) (a b c d e : Int) : Ev (fun k => thalwegref02_Right.f k n a b c d e) (decide (RH n a b c d e)) := by
  unfold thalwegref02_Right.f
  refine Ev.from 1 fun k => ?_
  rw [rj_eq, rj_eq]
  unfold RH
  by_cases h : e < 0
  · rw [if_pos h]
    have : ¬ 0 ≤ e := by omega
    simp only [this, false_and, Bool.true_eq_false]
  · rw [if_neg h]
    have h0 : 0 ≤ e := by omega
    simp only [decide_eq_false_iff_not, ge_iff_le, Int.not_le, h0, true_and]
theorem rb_eq (n : Bool) (a b c d e : Int) (h : RH n a b c d e) (wa : (Lit.int .i64 a).wf = true) (wd : (Lit.int .i64 d).wf = true) : Ev (fun k => thalwegref02_Bytes.f k n a b c d e) (hB n a b c d e, 0) := by
  have hc := rr_eq n a b c d e
  rw [decide_eq_true h] at hc
  unfold thalwegref02_Bytes.f hB
  refine Ev.bind hc ?_
  cases n with
  | true => simp only [if_true]; exact Ev.now _
  | false =>
    simp only [if_true, Bool.false_eq_true, if_false]
    refine Ev.bind (refInt_ev a wa) ?_
    refine Ev.bind (refInt_ev d wd) ?_
    refine Ev.bind (both_ev _ (by simp) (by simp [intSpec_length])) ?_
    refine ev_eq (Ev.now _) ?_
    simp
end Go.Proofs.Ytfigbjjaffkidaa.P
namespace Go.Proofs.Ytfigbjjaffkidaa.P
open Go.RowKit Go.Proofs.YtfigbjjaffkidaaW.PrintWords Go.Proofs.YtfigbjjaffkidaaW.PrintLast Go.Proofs.YtfigbjjaffkidaaW.PrintMore
theorem ror_eq (a0 a1 : Int) (a2 : Bool) (a3 a4 a5 a6 a7 a8 a9 a10 a11 : Int) : Ev (fun k => thalwegref04_Right.f k a0 a1 a2 a3 a4 a5 a6 a7 a8 a9 a10 a11) (decide (RO a0 a1 a2 a3 a4 a5 a6 a7 a8 a9 a10 a11)) := by
  have hlev : ((a8 == 0 && (a9 == 0 && (a10 == 0))) = true) = (a8 = 0 ∧ a9 = 0 ∧ a10 = 0) := by
    simp only [Bool.and_eq_true, beq_iff_eq]
  have hhei : ((!a2 && (a3 == 0 && (a4 == 0 && (a5 == 0 && (a6 == 0 && (a7 == 0)))))) = true) = (a2 = false ∧ a3 = 0 ∧ a4 = 0 ∧ a5 = 0 ∧ a6 = 0 ∧ a7 = 0) := by
    simp only [Bool.and_eq_true, beq_iff_eq, Bool.not_eq_true']
  have hj : ∀ x : Bool, Ev (fun k => thalwegref04_Right.j0 k x a0 a1 a2 a3 a4 a5 a6 a7 a8 a9 a10 a11) (decide (x = false ∧
    ((a0 = 1 ∧ (a8 = 0 ∧ a9 = 0 ∧ a10 = 0) ∧ (a2 = false ∧ a3 = 0 ∧ a4 = 0 ∧ a5 = 0 ∧ a6 = 0 ∧ a7 = 0) ∧ a11 = 0) ∨
     (a0 = 2 ∧ (a8 = 0 ∧ a9 = 0 ∧ a10 = 0) ∧ a11 = 0 ∧ RH a2 a3 a4 a5 a6 a7) ∨
     (a0 = 3 ∧ (a2 = false ∧ a3 = 0 ∧ a4 = 0 ∧ a5 = 0 ∧ a6 = 0 ∧ a7 = 0) ∧ a11 = 0 ∧ RH false a8 a9 a10 0 0) ∨
     (a0 = 4 ∧ (a8 = 0 ∧ a9 = 0 ∧ a10 = 0) ∧ 0 ≤ a11 ∧ a11 ≤ 65535 ∧ RH a2 a3 a4 a5 a6 a7 ∧ a2 = false)))) := by
    intro x
    refine Ev.step (f := fun k => _) (fun k => by simp only [thalwegref04_Right.j0]; rfl) ?_
    cases x with
    | true =>
      simp only [if_true, Bool.true_eq_false, false_and, decide_false]
      exact Ev.now _
    | false =>
      simp only [Bool.false_eq_true, if_false, true_and, hlev, hhei]
      by_cases h1 : a0 = 1
      · subst h1
        simp only [if_true, show ¬ (1 : Int) = 2 by decide, show ¬ (1 : Int) = 3 by decide, show ¬ (1 : Int) = 4 by decide, false_and, or_false, true_and]
        by_cases g : a8 = 0 ∧ a9 = 0 ∧ a10 = 0
        · simp only [if_pos g]
          by_cases g2 : a2 = false ∧ a3 = 0 ∧ a4 = 0 ∧ a5 = 0 ∧ a6 = 0 ∧ a7 = 0
          · simp only [if_pos g2]
            refine ev_eq (Ev.now _) ?_
            rw [Bool.eq_iff_iff, beq_iff_eq, decide_eq_true_eq]
            exact ⟨fun h => ⟨g, g2, h⟩, fun h => h.2.2⟩
          · simp only [if_neg g2]
            exact ev_eq (Ev.now _) (decide_eq_false fun h => g2 h.2.1).symm
        · simp only [if_neg g]
          exact ev_eq (Ev.now _) (decide_eq_false fun h => g h.1).symm
      by_cases h2 : a0 = 2
      · subst h2
        simp only [if_neg h1, if_true, show ¬ (2 : Int) = 1 by decide, show ¬ (2 : Int) = 3 by decide, show ¬ (2 : Int) = 4 by decide, false_and, false_or, or_false, true_and]
        by_cases g : a8 = 0 ∧ a9 = 0 ∧ a10 = 0
        · simp only [if_pos g]
          by_cases g2 : a11 = 0
          · simp only [if_pos g2]
            refine Ev.bind (rr_eq a2 a3 a4 a5 a6 a7) ?_
            refine ev_eq (Ev.now _) ?_
            exact bool_same0 ⟨fun h => ⟨g, g2, h⟩, fun h => h.2.2⟩
          · simp only [if_neg g2]
            exact ev_eq (Ev.now _) (decide_eq_false fun h => g2 h.2.1).symm
        · simp only [if_neg g]
          exact ev_eq (Ev.now _) (decide_eq_false fun h => g h.1).symm
      by_cases h3 : a0 = 3
      · subst h3
        simp only [if_neg h1, if_neg h2, if_true, show ¬ (3 : Int) = 1 by decide, show ¬ (3 : Int) = 2 by decide, show ¬ (3 : Int) = 4 by decide, false_and, false_or, or_false, true_and]
        by_cases g : a2 = false ∧ a3 = 0 ∧ a4 = 0 ∧ a5 = 0 ∧ a6 = 0 ∧ a7 = 0
        · simp only [if_pos g]
          by_cases g2 : a11 = 0
          · simp only [if_pos g2]
            refine Ev.bind (rr_eq false a8 a9 a10 0 0) ?_
            refine ev_eq (Ev.now _) ?_
            exact bool_same0 ⟨fun h => ⟨g, g2, h⟩, fun h => h.2.2⟩
          · simp only [if_neg g2]
            exact ev_eq (Ev.now _) (decide_eq_false fun h => g2 h.2.1).symm
        · simp only [if_neg g]
          exact ev_eq (Ev.now _) (decide_eq_false fun h => g h.1).symm
      by_cases h4 : a0 = 4
      · subst h4
        simp only [if_neg h1, if_neg h2, if_neg h3, if_true, show ¬ (4 : Int) = 1 by decide, show ¬ (4 : Int) = 2 by decide, show ¬ (4 : Int) = 3 by decide, false_and, false_or, or_false, true_and]
        by_cases g : a8 = 0 ∧ a9 = 0 ∧ a10 = 0
        · simp only [if_pos g]
          by_cases g2 : a11 ≥ 0
          · simp only [if_pos g2]
            by_cases g3 : a11 ≤ 65535
            · simp only [if_pos g3]
              unfold thalwegref02_Told.f
              refine Ev.bind (a := decide (RH a2 a3 a4 a5 a6 a7 ∧ a2 = false)) ?_ ?_
              · refine Ev.bind (rr_eq a2 a3 a4 a5 a6 a7) ?_
                by_cases hr : RH a2 a3 a4 a5 a6 a7
                · simp only [decide_eq_true hr, if_true]
                  refine ev_eq (Ev.now _) ?_
                  cases a2
                  · simp [hr]
                  · simp
                · simp only [decide_eq_false hr, Bool.false_eq_true, if_false]
                  exact ev_eq (Ev.now _) (decide_eq_false fun h => hr h.1).symm
              · refine ev_eq (Ev.now _) ?_
                exact bool_same0 ⟨fun h => ⟨g, g2, g3, h.1, h.2⟩, fun h => ⟨h.2.2.2.1, h.2.2.2.2⟩⟩
            · simp only [if_neg g3]
              exact ev_eq (Ev.now _) (decide_eq_false fun h => g3 h.2.2.1).symm
          · simp only [if_neg g2]
            exact ev_eq (Ev.now _) (decide_eq_false fun h => g2 h.2.1).symm
        · simp only [if_neg g]
          exact ev_eq (Ev.now _) (decide_eq_false fun h => g h.1).symm
      · simp only [if_neg h1, if_neg h2, if_neg h3, if_neg h4, h1, h2, h3, h4, false_and, or_false, decide_false]
        exact Ev.now _
  unfold thalwegref04_Right.f
  by_cases h : a1 < 0
  · simp only [if_pos h]
    refine ev_eq (hj _) (bool_same0 ⟨fun g => absurd g.1 (by decide), fun g => ?_⟩)
    have := g.1.1
    omega
  · simp only [if_neg h]
    refine ev_eq (hj _) (bool_same0 ⟨fun g => ⟨⟨by omega, ?_⟩, g.2⟩, fun g => ⟨?_, g.2⟩⟩)
    · have := of_decide_eq_false g.1
      omega
    · have := g.1.2
      exact decide_eq_false (by omega)
theorem robx (a0 a1 : Int) (a2 : Bool) (a3 a4 a5 a6 a7 a8 a9 a10 a11 : Int) (w3 : (Lit.int .i64 a3).wf = true) (w6 : (Lit.int .i64 a6).wf = true) (w8 : (Lit.int .i64 a8).wf = true) (h : RO a0 a1 a2 a3 a4 a5 a6 a7 a8 a9 a10 a11) :
    Ev (fun k => thalwegref04_Bytes.f k a0 a1 a2 a3 a4 a5 a6 a7 a8 a9 a10 a11) (oB a0 a1 a2 a3 a4 a5 a6 a7 a8 a9 a10 a11, 0) := by
  have hc := ror_eq a0 a1 a2 a3 a4 a5 a6 a7 a8 a9 a10 a11
  rw [decide_eq_true h] at hc
  unfold thalwegref04_Bytes.f
  refine Ev.bind hc ?_
  simp only [if_true, Option.bind_some]
  rcases h.2 with ⟨rfl, _⟩ | ⟨rfl, _, _, hh⟩ | ⟨rfl, _⟩ | ⟨rfl, _, hn0, hn1, hh, rfl⟩
  · simp only [if_neg (show ¬ (1 : Int) = 2 by decide), show ((1 : Int) == 4) = false by decide]
    refine Ev.step (f := fun k => _) (fun k => by simp only [thalwegref04_Bytes.j0]; rfl) ?_
    simp only [Bool.false_eq_true, if_false]
    refine Ev.step (f := fun k => _) (fun k => by simp only [thalwegref04_Bytes.j1]; rfl) ?_
    simp only [if_neg (show ¬ (1 : Int) = 3 by decide), if_neg (show ¬ (1 : Int) = 4 by decide)]
    exact Ev.now _
  · refine Ev.step (f := fun k => _) (fun k => by simp only [thalwegref04_Bytes.j0]; rfl) ?_
    simp only [if_true]
    refine Ev.bind (rb_eq _ _ _ _ _ _ hh w3 w6) ?_
    have hl := hB_length a2 a3 a4 a5 a6 a7
    have : [2 % 256, a1 % 256].length + (hB a2 a3 a4 a5 a6 a7).length < 140737488355328 := by rw [hl]; simp; split <;> omega
    simp only [if_pos this]
    refine Ev.step (f := fun k => _) (fun k => by simp only [thalwegref04_Bytes.j1]; rfl) ?_
    simp only [if_neg (show ¬ (2 : Int) = 3 by decide), if_neg (show ¬ (2 : Int) = 4 by decide)]
    exact Ev.now _
  · simp only [if_neg (show ¬ (3 : Int) = 2 by decide), show ((3 : Int) == 4) = false by decide]
    refine Ev.step (f := fun k => _) (fun k => by simp only [thalwegref04_Bytes.j0]; rfl) ?_
    simp only [Bool.false_eq_true, if_false]
    refine Ev.step (f := fun k => _) (fun k => by simp only [thalwegref04_Bytes.j1]; rfl) ?_
    simp only [if_true]
    refine Ev.bind (refInt_ev a8 w8) ?_
    simp only [Option.bind_some, List.length_append, intSpec_length, List.length_cons, List.length_nil, Nat.reduceAdd, Nat.reduceLT, if_true, if_neg (show ¬ (3 : Int) = 4 by decide)]
    refine ev_eq (Ev.now _) ?_
    unfold oB
    rw [if_neg (show ¬ (3 : Int) = 1 by decide), if_pos rfl, List.append_assoc]
  · simp only [if_neg (show ¬ (4 : Int) = 2 by decide), show ((4 : Int) == 4) = true by decide]
    refine Ev.step (f := fun k => _) (fun k => by simp only [thalwegref04_Bytes.j0]; rfl) ?_
    simp only [if_true]
    refine Ev.bind (rb_eq _ _ _ _ _ _ hh w3 w6) ?_
    have h20 : (hB false a3 a4 a5 a6 a7).length = 20 := by rw [hB_length]; rfl
    simp only [List.length_cons, List.length_nil, h20, Nat.reduceAdd, Nat.reduceLT, if_true]
    refine Ev.step (f := fun k => _) (fun k => by simp only [thalwegref04_Bytes.j1]; rfl) ?_
    simp only [if_neg (show ¬ (4 : Int) = 3 by decide), if_true, Option.bind_some, List.length_append, List.length_cons, List.length_nil, h20, Nat.reduceAdd, Nat.reduceLT]
    refine ev_eq (Ev.now _) ?_
    unfold oB
    rw [if_neg (show ¬ (4 : Int) = 1 by decide), if_neg (show ¬ (4 : Int) = 3 by decide), if_pos rfl, List.append_assoc, Int.tdiv_eq_ediv_of_nonneg hn0, Int.tmod_eq_emod_of_nonneg hn0, w64 (x := a11 / 256) (by omega) (by omega), Int.emod_emod_of_dvd _ (by decide)]
theorem robn (a0 a1 : Int) (a2 : Bool) (a3 a4 a5 a6 a7 a8 a9 a10 a11 : Int) (h : ¬ RO a0 a1 a2 a3 a4 a5 a6 a7 a8 a9 a10 a11) :
    Ev (fun k => thalwegref04_Bytes.f k a0 a1 a2 a3 a4 a5 a6 a7 a8 a9 a10 a11) ([], 1) := by
  have hc := ror_eq a0 a1 a2 a3 a4 a5 a6 a7 a8 a9 a10 a11
  rw [decide_eq_false h] at hc
  unfold thalwegref04_Bytes.f
  refine Ev.bind hc ?_
  simp only [Bool.false_eq_true, if_false]
  exact Ev.now _
end Go.Proofs.Ytfigbjjaffkidaa.P
namespace Go.Proofs.Ytfigbjjaffkidaa.P
open Go.RowKit Go.Proofs.YtfigbjjaffkidaaW.PrintWords Go.Proofs.YtfigbjjaffkidaaW.PrintLast Go.Proofs.YtfigbjjaffkidaaW.PrintMore
open Classical
theorem awake05 : Ev (fun k => thalweglaw05_awake.f k) true := Ev.of (fun k => thalweglaw05_awake.mono k) (k := 30) (by decide +kernel)
def OR (o : S45) : Prop := RO o.f0 o.f1 o.f2.f0 o.f2.f1 o.f2.f2 o.f2.f3 o.f2.f4 o.f2.f5 o.f3.f0 o.f3.f1 o.f3.f2 o.f4
def OB (o : S45) : List Int := oB o.f0 o.f1 o.f2.f0 o.f2.f1 o.f2.f2 o.f2.f3 o.f2.f4 o.f2.f5 o.f3.f0 o.f3.f1 o.f3.f2 o.f4
def OW (o : S45) : Prop := (Lit.int .i64 o.f2.f1).wf = true ∧ (Lit.int .i64 o.f2.f4).wf = true ∧ (Lit.int .i64 o.f3.f0).wf = true
noncomputable def sz (o : S45) : Int := if OR o then ((OB o).length : Int) else 0
theorem sz_yes {o : S45} (h : OR o) : sz o = ((OB o).length : Int) := if_pos h
theorem sz_no {o : S45} (h : ¬ OR o) : sz o = 0 := if_neg h
theorem OB_length (o : S45) : 2 ≤ (OB o).length ∧ (OB o).length ≤ 24 := by
  unfold OB oB
  rw [List.length_append]
  have h := hB_length o.f2.f0 o.f2.f1 o.f2.f2 o.f2.f3 o.f2.f4 o.f2.f5
  have h2 : (hB o.f2.f0 o.f2.f1 o.f2.f2 o.f2.f3 o.f2.f4 o.f2.f5).length ≤ 20 := by rw [h]; split <;> omega
  simp only [List.length_cons, List.length_nil]
  split
  · simp
  split
  · simp [intSpec_length]
  split
  · simp only [List.length_append, List.length_cons, List.length_nil]; omega
  · omega
theorem sz_range (o : S45) : 0 ≤ sz o ∧ sz o ≤ 24 := by
  have := OB_length o
  by_cases h : OR o
  · rw [sz_yes h]; omega
  · rw [sz_no h]; omega
noncomputable def sums (l : List S45) : Int := (l.map sz).sum
theorem sums_nil : sums [] = 0 := rfl
theorem sums_cons (o : S45) (l : List S45) : sums (o :: l) = sz o + sums l := by simp [sums]
theorem sums_range (l : List S45) : 0 ≤ sums l ∧ sums l ≤ 24 * l.length := by
  induction l with
  | nil => simp [sums]
  | cons o l ih => have := sz_range o; rw [sums_cons, List.length_cons]; omega
def Rights (l : List S45) : Prop := ∀ o ∈ l, OR o
theorem obs_get (l : List S45) (i : Int) (h0 : 0 ≤ i) (h1 : i < l.length) : l.drop i.toNat = rd_T45 l i :: l.drop (i + 1).toNat := by
  have hi : i.toNat < l.length := by omega
  rw [List.drop_eq_getElem_cons hi, show (i + 1).toNat = i.toNat + 1 by omega]
  congr 1
  unfold rd_T45
  rw [List.getD_eq_getElem?_getD, List.getElem?_eq_getElem hi]
  rfl
theorem obs_mem (l : List S45) (i : Int) (h0 : 0 ≤ i) (h1 : i < l.length) : rd_T45 l i ∈ l := by
  have := List.mem_of_mem_drop (l := l) (i := i.toNat) (a := rd_T45 l i) (by rw [obs_get l i h0 h1]; exact List.mem_cons_self)
  exact this
theorem size_ev (o : S45) : Ev (fun k => object_Size.f k o.f0 o.f1 o.f2.f0 o.f2.f1 o.f2.f2 o.f2.f3 o.f2.f4 o.f2.f5 o.f3.f0 o.f3.f1 o.f3.f2 o.f4) (sz o) := by
  by_cases h : OR o
  · rw [sz_yes h]
    exact os_ev _ _ _ _ _ _ _ _ _ _ _ _ _ (obx _ _ _ _ _ _ _ _ _ _ _ _ h)
  · rw [sz_no h]
    exact os_ev _ _ _ _ _ _ _ _ _ _ _ _ _ (obn _ _ _ _ _ _ _ _ _ _ _ _ h)
theorem wrong_ev (o : S45) : Ev (fun k => batch_wrong.f k o.f0 o.f1 o.f2.f0 o.f2.f1 o.f2.f2 o.f2.f3 o.f2.f4 o.f2.f5 o.f3.f0 o.f3.f1 o.f3.f2 o.f4) (decide (¬ OR o)) := by
  unfold batch_wrong.f
  by_cases h : OR o
  · have hc := oc_eq o.f0 o.f1 o.f2.f0 o.f2.f1 o.f2.f2 o.f2.f3 o.f2.f4 o.f2.f5 o.f3.f0 o.f3.f1 o.f3.f2 o.f4
    rw [if_pos (show RO _ _ _ _ _ _ _ _ _ _ _ _ from h)] at hc
    refine Ev.bind hc (ev_eq (Ev.now _) ?_)
    rw [decide_eq_false (fun g => g h)]
    rfl
  · have hc := oc_eq o.f0 o.f1 o.f2.f0 o.f2.f1 o.f2.f2 o.f2.f3 o.f2.f4 o.f2.f5 o.f3.f0 o.f3.f1 o.f3.f2 o.f4
    rw [if_neg (show ¬ RO _ _ _ _ _ _ _ _ _ _ _ _ from h)] at hc
    refine Ev.bind hc (ev_eq (Ev.now _) ?_)
    rw [decide_eq_true h]
    rfl
theorem index_l0 (l : List S45) (hn : l.length ≤ 100000) : ∀ (d : Nat) (i : Int), 0 ≤ i → (l.length : Int) - i = d → ∃ r : Int, Ev (fun k => api_Object_40.l0 k l (l.length : Int) i) r ∧ (r ≥ 0 ↔ ¬ Rights (l.drop i.toNat)) := by
  intro d
  induction d with
  | zero =>
    intro i h0 hd
    refine ⟨-1, Ev.from 1 fun k => ?_, ?_⟩
    · simp only [api_Object_40.l0]
      rw [if_neg (by omega)]
    · rw [List.drop_eq_nil_of_le (by omega)]
      constructor
      · intro h; omega
      · intro h; exact absurd (fun o ho => by cases ho) h
  | succ d ih =>
    intro i h0 hd
    have h1 : i < (l.length : Int) := by omega
    rw [obs_get l i h0 h1]
    by_cases h : OR (rd_T45 l i)
    · obtain ⟨r, hr, hi⟩ := ih (i + 1) (by omega) (by omega)
      refine ⟨r, ?_, ?_⟩
      · refine Ev.step (f := fun k => _) (fun k => by simp only [api_Object_40.l0]; rfl) ?_
        simp only [if_pos h1, if_pos h0]
        refine Ev.bind (wrong_ev (rd_T45 l i)) ?_
        simp only [decide_eq_false (fun g : ¬ OR (rd_T45 l i) => g h), Bool.false_eq_true, if_false, w64 (x := i + 1) (by omega) (by omega)]
        exact hr
      · rw [hi]
        constructor
        · intro g g2; exact g fun o ho => g2 o (List.mem_cons_of_mem _ ho)
        · intro g g2
          refine g fun o ho => ?_
          rcases List.mem_cons.1 ho with rfl | ho
          · exact h
          · exact g2 o ho
    · refine ⟨i, ?_, ?_⟩
      · refine Ev.step (f := fun k => _) (fun k => by simp only [api_Object_40.l0]; rfl) ?_
        simp only [if_pos h1, if_pos h0]
        refine Ev.bind (wrong_ev (rd_T45 l i)) ?_
        simp only [decide_eq_true h, if_true]
        exact Ev.now _
      · exact ⟨fun _ g => h (g _ List.mem_cons_self), fun _ => h0⟩
theorem contains_ev (l : List S45) (hn : l.length ≤ 100000) : Ev (fun k => api_Object_25.f k l) (decide (¬ Rights l)) := by
  obtain ⟨r, hr, hi⟩ := index_l0 l hn l.length 0 (by omega) (by omega)
  unfold api_Object_25.f
  refine Ev.bind (show Ev (fun k => api_Object_40.f k l) r from hr) (ev_eq (Ev.now _) ?_)
  exact bool_same0 hi
theorem bsize_l0 (l : List S45) (hn : l.length ≤ 100000) : ∀ (d : Nat) (i acc : Int), 0 ≤ i → (l.length : Int) - i = d → 0 ≤ acc → acc ≤ 3 + 24 * i → Ev (fun k => batch_size.l0 k acc l (l.length : Int) i) (acc + sums (l.drop i.toNat)) := by
  intro d
  induction d with
  | zero =>
    intro i acc h0 hd ha hb
    refine Ev.from 1 fun k => ?_
    simp only [batch_size.l0]
    rw [if_neg (by omega), List.drop_eq_nil_of_le (by omega), sums_nil, Int.add_zero]
  | succ d ih =>
    intro i acc h0 hd ha hb
    have h1 : i < (l.length : Int) := by omega
    have hz := sz_range (rd_T45 l i)
    refine Ev.step (f := fun k => _) (fun k => by simp only [batch_size.l0]; rfl) ?_
    rw [obs_get l i h0 h1, sums_cons, ← Int.add_assoc]
    simp only [if_pos h1, if_pos h0]
    refine Ev.bind (size_ev (rd_T45 l i)) ?_
    simp only [w64 (x := acc + sz (rd_T45 l i)) (by omega) (by omega), w64 (x := i + 1) (by omega) (by omega)]
    exact ih (i + 1) _ (by omega) (by omega) (by omega) (by omega)
theorem bsize_ev (l : List S45) (hn : l.length ≤ 100000) : Ev (fun k => batch_size.f k l) (3 + sums l) := by
  unfold batch_size.f
  exact bsize_l0 l hn l.length 0 3 (by omega) (by omega) (by omega) (by omega)
def RB (a : Int) (l : List S45) : Prop := (0 ≤ a ∧ a ≤ 65535) ∧ (1 ≤ l.length ∧ l.length ≤ 32) ∧ Rights l ∧ 3 + sums l ≤ 512
theorem bcheck_ev (a : Int) (l : List S45) : Ev (fun k => batch_Check.f k a l) (if RB a l then 0 else 1) := by
  unfold batch_Check.f
  by_cases h1 : a < 0
  · simp only [if_pos h1, if_neg (show ¬ RB a l from fun h => by have := h.1; omega)]; exact Ev.now _
  by_cases h2 : a > 65535
  · simp only [if_neg h1, if_pos h2, if_neg (show ¬ RB a l from fun h => by have := h.1; omega)]; exact Ev.now _
  by_cases h3 : (l.length : Int) = 0
  · simp only [if_neg h1, if_neg h2, if_pos h3, if_neg (show ¬ RB a l from fun h => by have := h.2.1; omega)]; exact Ev.now _
  by_cases h4 : (l.length : Int) > 32
  · simp only [if_neg h1, if_neg h2, if_neg h3, if_pos h4, if_neg (show ¬ RB a l from fun h => by have := h.2.1; omega)]; exact Ev.now _
  simp only [if_neg h1, if_neg h2, if_neg h3, if_neg h4]
  refine Ev.bind (contains_ev l (by omega)) ?_
  by_cases h5 : Rights l
  · simp only [decide_eq_false (fun g : ¬ Rights l => g h5), Bool.false_eq_true, if_false]
    refine Ev.bind (bsize_ev l (by omega)) ?_
    by_cases h6 : 3 + sums l > 512
    · simp only [if_pos h6, if_neg (show ¬ RB a l from fun h => by have := h.2.2.2; omega)]; exact Ev.now _
    · simp only [if_neg h6, if_pos (show RB a l from ⟨by omega, by omega, h5, by omega⟩)]; exact Ev.now _
  · simp only [decide_eq_true h5, if_true, if_neg (show ¬ RB a l from fun h => h5 h.2.2.1)]; exact Ev.now _
def bB (a : Int) (l : List S45) : List Int := [a / 256 % 256, a % 256, (l.length : Int) % 256] ++ l.flatMap OB
theorem bbytes_l0 (l : List S45) (hn : l.length ≤ 32) (hr : Rights l) : ∀ (d : Nat) (i : Int) (acc : List Int), 0 ≤ i → (l.length : Int) - i = d → (acc.length : Int) ≤ 3 + 24 * i → Ev (fun k => batch_Bytes.l0 k acc l (l.length : Int) i) (acc ++ (l.drop i.toNat).flatMap OB, 0) := by
  intro d
  induction d with
  | zero =>
    intro i acc h0 hd ha
    refine Ev.from 1 fun k => ?_
    simp only [batch_Bytes.l0]
    rw [if_neg (by omega), List.drop_eq_nil_of_le (by omega)]
    simp
  | succ d ih =>
    intro i acc h0 hd ha
    have h1 : i < (l.length : Int) := by omega
    have hz := OB_length (rd_T45 l i)
    refine Ev.step (f := fun k => _) (fun k => by simp only [batch_Bytes.l0]; rfl) ?_
    rw [obs_get l i h0 h1, List.flatMap_cons, ← List.append_assoc]
    simp only [if_pos h1, if_pos h0]
    refine Ev.bind (obx _ _ _ _ _ _ _ _ _ _ _ _ (hr _ (obs_mem l i h0 h1))) ?_
    have hl : acc.length + (OB (rd_T45 l i)).length < 140737488355328 := by omega
    simp only [if_true, w64 (x := i + 1) (by omega) (by omega)]
    rw [show oB (rd_T45 l i).f0 (rd_T45 l i).f1 (rd_T45 l i).f2.f0 (rd_T45 l i).f2.f1 (rd_T45 l i).f2.f2 (rd_T45 l i).f2.f3 (rd_T45 l i).f2.f4 (rd_T45 l i).f2.f5 (rd_T45 l i).f3.f0 (rd_T45 l i).f3.f1 (rd_T45 l i).f3.f2 (rd_T45 l i).f4 = OB (rd_T45 l i) from rfl]
    simp only [if_pos hl]
    exact ih (i + 1) _ (by omega) (by omega) (by rw [List.length_append]; omega)
theorem bbytes_ev (a : Int) (l : List S45) (h : RB a l) : Ev (fun k => batch_Bytes.f k a l) (bB a l, 0) := by
  have hc := bcheck_ev a l
  rw [if_pos h] at hc
  unfold batch_Bytes.f
  refine Ev.bind hc ?_
  simp only [if_true]
  have := bbytes_l0 l h.2.1.2 h.2.2.1 l.length 0 [a / 256 % 256, a % 256, (l.length : Int) % 256] (by omega) (by omega) (by simp)
  simpa [bB] using this
theorem bbytes_no (a : Int) (l : List S45) (h : ¬ RB a l) : Ev (fun k => batch_Bytes.f k a l) ([], 1) := by
  have hc := bcheck_ev a l
  rw [if_neg h] at hc
  unfold batch_Bytes.f
  refine Ev.bind hc ?_
  simp only [if_neg (show ¬ (1 : Int) = 0 by decide)]
  exact Ev.now _
theorem own_eq (l : List S45) (h : l.length ≤ 100000) : thalwegref04_Own.f l = some l := by
  unfold thalwegref04_Own.f
  rw [if_pos (by simp; omega)]
  rfl
theorem same_l0 (l : List S45) (h : l.length ≤ 100000) : ∀ (d : Nat) (i : Int), 0 ≤ i → (l.length : Int) - i = d → Ev (fun k => thalwegref04_Same.l0 k l l i) true := by
  intro d
  induction d with
  | zero =>
    intro i h0 hd
    refine Ev.from 1 fun k => ?_
    simp only [thalwegref04_Same.l0]
    rw [if_neg (by omega)]
  | succ d ih =>
    intro i h0 hd
    refine Ev.step (f := fun k => _) (fun k => by simp only [thalwegref04_Same.l0]; rfl) ?_
    simp only [if_pos (show i < (l.length : Int) by omega), if_pos h0, beq_self_eq_true, Bool.not_true, Bool.or_self, Bool.false_eq_true, if_false, w64 (x := i + 1) (by omega) (by omega)]
    exact ih (i + 1) (by omega) (by omega)
theorem same_ev (l : List S45) (h : l.length ≤ 100000) : Ev (fun k => thalwegref04_Same.f k l l) true := by
  unfold thalwegref04_Same.f
  simp only [if_true]
  exact same_l0 l h l.length 0 (by omega) (by omega)
theorem rsize_l0 (l : List S45) (hn : l.length ≤ 100000) (hw : ∀ o ∈ l, OW o) : ∀ (d : Nat) (i acc : Int), 0 ≤ i → (l.length : Int) - i = d → 0 ≤ acc → acc ≤ 3 + 24 * i →
    (Rights (l.drop i.toNat) → Ev (fun k => thalwegref05_size.l0 k l acc i) (acc + sums (l.drop i.toNat))) ∧ (¬ Rights (l.drop i.toNat) → Ev (fun k => thalwegref05_size.l0 k l acc i) (-1)) := by
  intro d
  induction d with
  | zero =>
    intro i acc h0 hd ha hb
    rw [List.drop_eq_nil_of_le (by omega)]
    refine ⟨fun _ => Ev.from 1 fun k => ?_, fun h => absurd (fun o ho => by cases ho) h⟩
    simp only [thalwegref05_size.l0]
    rw [if_neg (by omega), sums_nil, Int.add_zero]
  | succ d ih =>
    intro i acc h0 hd ha hb
    have h1 : i < (l.length : Int) := by omega
    have hz := OB_length (rd_T45 l i)
    obtain ⟨w1, w2, w3⟩ := hw _ (obs_mem l i h0 h1)
    rw [obs_get l i h0 h1, sums_cons, ← Int.add_assoc]
    by_cases h : OR (rd_T45 l i)
    · have hi := ih (i + 1) (acc + sz (rd_T45 l i)) (by omega) (by omega) (by rw [sz_yes h]; omega) (by rw [sz_yes h]; omega)
      have go : ∀ r, Ev (fun k => thalwegref05_size.l0 k l (acc + sz (rd_T45 l i)) (i + 1)) r → Ev (fun k => thalwegref05_size.l0 k l acc i) r := by
        intro r hr
        refine Ev.step (f := fun k => _) (fun k => by simp only [thalwegref05_size.l0]; rfl) ?_
        simp only [if_pos h1, if_pos h0]
        refine Ev.bind (robx _ _ _ _ _ _ _ _ _ _ _ _ w1 w2 w3 h) ?_
        rw [show oB (rd_T45 l i).f0 (rd_T45 l i).f1 (rd_T45 l i).f2.f0 (rd_T45 l i).f2.f1 (rd_T45 l i).f2.f2 (rd_T45 l i).f2.f3 (rd_T45 l i).f2.f4 (rd_T45 l i).f2.f5 (rd_T45 l i).f3.f0 (rd_T45 l i).f3.f1 (rd_T45 l i).f3.f2 (rd_T45 l i).f4 = OB (rd_T45 l i) from rfl]
        simp only [if_true, w64 (x := acc + ((OB (rd_T45 l i)).length : Int)) (by omega) (by omega), w64 (x := i + 1) (by omega) (by omega)]
        rw [sz_yes h] at hr
        exact hr
      refine ⟨fun g => go _ (hi.1 fun o ho => g o (List.mem_cons_of_mem _ ho)), fun g => go _ (hi.2 fun g2 => g fun o ho => ?_)⟩
      rcases List.mem_cons.1 ho with rfl | ho
      · exact h
      · exact g2 o ho
    · refine ⟨fun g => absurd (g _ List.mem_cons_self) h, fun _ => ?_⟩
      refine Ev.step (f := fun k => _) (fun k => by simp only [thalwegref05_size.l0]; rfl) ?_
      simp only [if_pos h1, if_pos h0]
      refine Ev.bind (robn _ _ _ _ _ _ _ _ _ _ _ _ h) ?_
      simp only [if_neg (show ¬ (1 : Int) = 0 by decide)]
      exact Ev.now _
theorem rsize_yes (l : List S45) (hn : l.length ≤ 100000) (hw : ∀ o ∈ l, OW o) (h : Rights l) : Ev (fun k => thalwegref05_size.f k l) (3 + sums l) := by
  unfold thalwegref05_size.f
  exact (rsize_l0 l hn hw l.length 0 3 (by omega) (by omega) (by omega) (by omega)).1 h
theorem rsize_no (l : List S45) (hn : l.length ≤ 100000) (hw : ∀ o ∈ l, OW o) (h : ¬ Rights l) : Ev (fun k => thalwegref05_size.f k l) (-1) := by
  unfold thalwegref05_size.f
  exact (rsize_l0 l hn hw l.length 0 3 (by omega) (by omega) (by omega) (by omega)).2 h
theorem rright_ev (a : Int) (l : List S45) (hw : ∀ o ∈ l, OW o) : Ev (fun k => thalwegref05_Right.f k a l) (decide (RB a l)) := by
  unfold thalwegref05_Right.f
  by_cases h1 : a < 0
  · simp only [if_pos h1, decide_eq_false (show ¬ RB a l from fun h => by have := h.1; omega)]; exact Ev.now _
  by_cases h2 : a > 65535
  · simp only [if_neg h1, if_pos h2, decide_eq_false (show ¬ RB a l from fun h => by have := h.1; omega)]; exact Ev.now _
  by_cases h3 : (l.length : Int) < 1
  · simp only [if_neg h1, if_neg h2, if_pos h3, decide_eq_false (show ¬ RB a l from fun h => by have := h.2.1; omega)]; exact Ev.now _
  by_cases h4 : (l.length : Int) > 32
  · simp only [if_neg h1, if_neg h2, if_neg h3, if_pos h4, decide_eq_false (show ¬ RB a l from fun h => by have := h.2.1; omega)]; exact Ev.now _
  simp only [if_neg h1, if_neg h2, if_neg h3, if_neg h4]
  by_cases h5 : Rights l
  · have hs := sums_range l
    refine Ev.bind (rsize_yes l (by omega) hw h5) ?_
    simp only [if_pos (show 3 + sums l ≥ 0 by omega)]
    refine ev_eq (Ev.now _) (bool_same0 ⟨fun g => ⟨by omega, by omega, h5, g⟩, fun g => g.2.2.2⟩)
  · refine Ev.bind (rsize_no l (by omega) hw h5) ?_
    simp only [if_neg (show ¬ (-1 : Int) ≥ 0 by decide), decide_eq_false (show ¬ RB a l from fun h => h5 h.2.2.1)]
    exact Ev.now _
theorem rbytes_l0 (a : Int) (l : List S45) (hn : l.length ≤ 32) (hr : Rights l) (hw : ∀ o ∈ l, OW o) : ∀ (d : Nat) (i : Int) (acc : List Int), 0 ≤ i → (l.length : Int) - i = d → (acc.length : Int) ≤ 3 + 24 * i → Ev (fun k => thalwegref05_Bytes.l0 k acc i a l) (acc ++ (l.drop i.toNat).flatMap OB, 0) := by
  intro d
  induction d with
  | zero =>
    intro i acc h0 hd ha
    refine Ev.from 1 fun k => ?_
    simp only [thalwegref05_Bytes.l0]
    rw [if_neg (by omega), List.drop_eq_nil_of_le (by omega)]
    simp
  | succ d ih =>
    intro i acc h0 hd ha
    have h1 : i < (l.length : Int) := by omega
    have hz := OB_length (rd_T45 l i)
    obtain ⟨w1, w2, w3⟩ := hw _ (obs_mem l i h0 h1)
    refine Ev.step (f := fun k => _) (fun k => by simp only [thalwegref05_Bytes.l0]; rfl) ?_
    rw [obs_get l i h0 h1, List.flatMap_cons, ← List.append_assoc]
    simp only [if_pos h1, if_pos h0]
    refine Ev.bind (robx _ _ _ _ _ _ _ _ _ _ _ _ w1 w2 w3 (hr _ (obs_mem l i h0 h1))) ?_
    have hl : acc.length + (OB (rd_T45 l i)).length < 140737488355328 := by omega
    rw [show oB (rd_T45 l i).f0 (rd_T45 l i).f1 (rd_T45 l i).f2.f0 (rd_T45 l i).f2.f1 (rd_T45 l i).f2.f2 (rd_T45 l i).f2.f3 (rd_T45 l i).f2.f4 (rd_T45 l i).f2.f5 (rd_T45 l i).f3.f0 (rd_T45 l i).f3.f1 (rd_T45 l i).f3.f2 (rd_T45 l i).f4 = OB (rd_T45 l i) from rfl]
    simp only [if_pos hl, w64 (x := i + 1) (by omega) (by omega)]
    exact ih (i + 1) _ (by omega) (by omega) (by rw [List.length_append]; omega)
theorem rbytes_ev (a : Int) (l : List S45) (hw : ∀ o ∈ l, OW o) (h : RB a l) : Ev (fun k => thalwegref05_Bytes.f k a l) (bB a l, 0) := by
  have hc := rright_ev a l hw
  rw [decide_eq_true h] at hc
  unfold thalwegref05_Bytes.f
  refine Ev.bind hc ?_
  simp only [if_true]
  have ha := h.1
  rw [Int.tdiv_eq_ediv_of_nonneg ha.1, Int.tmod_eq_emod_of_nonneg ha.1, w64 (x := a / 256) (by omega) (by omega), Int.emod_emod_of_dvd _ (by decide)]
  have := rbytes_l0 a l h.2.1.2 h.2.2.1 hw l.length 0 [a / 256 % 256, a % 256, (l.length : Int) % 256] (by omega) (by omega) (by simp)
  simpa [bB] using this
theorem rbytes_no (a : Int) (l : List S45) (hw : ∀ o ∈ l, OW o) (h : ¬ RB a l) : Ev (fun k => thalwegref05_Bytes.f k a l) ([], 1) := by
  have hc := rright_ev a l hw
  rw [decide_eq_false h] at hc
  unfold thalwegref05_Bytes.f
  refine Ev.bind hc ?_
  simp only [Bool.false_eq_true, if_false]
  exact Ev.now _
end Go.Proofs.Ytfigbjjaffkidaa.P
namespace Go.Proofs.Ytfigbjjaffkidaa.Pure
open Classical
open Go.RowKit Go.Proofs.Ytfigbjjaffkidaa.P Go.Proofs.YtfigbjjaffkidaaW.PrintWords Go.Proofs.YtfigbjjaffkidaaW.PrintLast Go.Proofs.YtfigbjjaffkidaaW.PrintMore
theorem does_ev (a : Int) (l : List S45) (hw : ∀ o ∈ l, OW o) : Ev (fun k => thalweglaw05_BatchDoes.f k a l) true := by
  unfold thalweglaw05_BatchDoes.f
  by_cases hl : (l.length : Int) > 60
  · simp only [if_pos hl]
    exact Ev.now _
  simp only [if_neg hl, own_eq l (by omega), Option.bind_some]
  have hc := bcheck_ev a l
  have hr := rright_ev a l hw
  by_cases h : RB a l
  · rw [if_pos h] at hc
    rw [decide_eq_true h] at hr
    refine Ev.bind (bbytes_ev a l h) (Ev.bind (rbytes_ev a l hw h) (Ev.bind awake05 ?_))
    simp only [if_true]
    refine Ev.bind hc (Ev.bind hr ?_)
    simp only [show (((0 : Int) == 0) == true) = true by decide, if_true]
    exact Ev.bind (same_ev l (by omega)) (Ev.now _)
  · rw [if_neg h] at hc
    rw [decide_eq_false h] at hr
    refine Ev.bind (bbytes_no a l h) (Ev.bind (rbytes_no a l hw h) (Ev.bind awake05 ?_))
    simp only [if_true]
    refine Ev.bind hc (Ev.bind hr ?_)
    simp only [show (((1 : Int) == 0) == false) = true by decide, if_true]
    exact Ev.bind (same_ev l (by omega)) (Ev.now _)
theorem BatchDoes : thalweglaw05_BatchDoes.Pure := fun x h => Ev.rounds (does_ev _ _ fun o ho => by
  have g := h.2.2 o ho
  exact ⟨g.2.2.1.2.1, g.2.2.1.2.2.2.2.1, g.2.2.2.1.1⟩)
end Go.Proofs.Ytfigbjjaffkidaa.Pure
namespace Go.Proofs.YtfigbjjaffkidaaW.Opn
open Go.RowKit Go.Proofs.YtfigbjjaffkidaaW.PrintWords Go.ChangeShapes Go.WideShapes Go.Deep
def Opens (P : Program) (t : TypeId) {α : Type} (d : Kd α) (wf : α → Prop) : Prop :=
  ∀ {H : Type} (enc : TypeId × Value → H) (w : World) (base : Nat) (spare : Nat → Bool) (held : Bool) (fuel : Nat) (cs : List Value) (y : DataW H × List MemPlace),
    DataW.trod enc P w base spare held fuel t cs = some y → ∃ x : α, d.K w x cs ∧ wf x
theorem opens_int {P : Program} {t : TypeId} {k : IntKind} (ht : P.underlying t = some (.int k)) : Opens P t (Kd.int k) (fun x => (Lit.int k x).wf = true) := by
  intro H enc w base spare held fuel cs y h
  obtain ⟨n, rfl, _, hw⟩ := DataW.trod_int ht h
  exact ⟨n, rfl, hw⟩
theorem opens_bool {P : Program} {t : TypeId} (ht : P.underlying t = some .bool) : Opens P t Kd.bool (fun _ => True) := by
  intro H enc w base spare held fuel cs y h
  obtain ⟨n, rfl, _⟩ := DataW.trod_bool ht h
  exact ⟨n, rfl, trivial⟩
theorem opens_iso {P : Program} {t : TypeId} {α β : Type} {d : Kd α} {wf : α → Prop} (f : β → α) (g : α → β) (hg : ∀ a, f (g a) = a) (h : Opens P t d wf) : Opens P t (Kd.iso d f) (fun b => wf (f b)) := by
  intro H enc w base spare held fuel cs y hy
  obtain ⟨x, hx, hw⟩ := h enc w base spare held fuel cs y hy
  exact ⟨g x, by show d.K w (f (g x)) cs; rw [hg]; exact hx, by show wf (f (g x)); rw [hg]; exact hw⟩
def OpensL (P : Program) : (ts : List TypeId) → {α : Type} → (d : Kd α) → (wf : α → Prop) → Prop := fun ts {α} d wf =>
  ∀ {H : Type} (enc : TypeId × Value → H) (w : World) (base : Nat) (spare : Nat → Bool) (held : Bool) (n : Nat) (cs : List Value) (xs : List (DataW H × List MemPlace)) (off : Nat),
    (∀ (i : Nat) (t : TypeId), ts[i]? = some t → ∃ y, DataW.trod enc P w base spare held n t ((cs.drop (off + ((ts.take i).map P.cellsOf).sum)).take (P.cellsOf t)) = some y) →
    ∃ x : α, d.K w x ((cs.drop off).take ((ts.map P.cellsOf).sum)) ∧ wf x
theorem opensL_one {P : Program} {t : TypeId} {α : Type} {d : Kd α} {wf : α → Prop} (h : Opens P t d wf) : OpensL P [t] d wf := by
  intro H enc w base spare held n cs xs off hx
  obtain ⟨y, hy⟩ := hx 0 t rfl
  simpa using h enc w base spare held n _ y (by simpa using hy)
theorem opensL_cons {P : Program} {t : TypeId} {ts : List TypeId} {α β : Type} {d : Kd α} {d' : Kd β} {wf : α → Prop} {wf' : β → Prop} (h : Opens P t d wf) (h' : OpensL P ts d' wf') :
    OpensL P (t :: ts) (Kd.pair d d') (fun x => wf x.1 ∧ wf' x.2) := by
  intro H enc w base spare held n cs xs off hx
  obtain ⟨y, hy⟩ := hx 0 t rfl
  obtain ⟨x, hk, hw⟩ := h enc w base spare held n _ y (by simpa using hy)
  obtain ⟨x', hk', hw'⟩ := h' enc w base spare held n cs xs (off + P.cellsOf t) (fun i u hu => by
    have := hx (i + 1) u hu
    simpa [Nat.add_assoc] using this)
  refine ⟨(x, x'), ⟨(cs.drop off).take (P.cellsOf t), (cs.drop (off + P.cellsOf t)).take ((ts.map P.cellsOf).sum), ?_, hk, hk'⟩, hw, hw'⟩
  simp only [List.map_cons, List.sum_cons]
  rw [List.take_add, List.drop_drop]
def lineB (P : Program) : List Field → Nat → Bool
  | [], _ => true
  | f :: fs, off => (f.offset == off) && lineB P fs (off + P.cellsOf f.type)
theorem line_at {P : Program} : ∀ (fs : List Field) (off : Nat), lineB P fs off = true → ∀ (i : Nat) (f : Field), fs[i]? = some f → f.offset = off + (((fs.map (·.type)).take i).map P.cellsOf).sum := by
  intro fs
  induction fs with
  | nil => intro off _ i f h; simp at h
  | cons g gs ih =>
    intro off hb i f h
    unfold lineB at hb
    rw [Bool.and_eq_true, beq_iff_eq] at hb
    cases i with
    | zero =>
      simp at h
      subst h
      simpa using hb.1
    | succ i =>
      have := ih _ hb.2 i f (by simpa using h)
      simp only [List.map_cons, List.take_succ_cons, List.sum_cons]
      omega
theorem opens_struct {P : Program} {t : TypeId} {fs : Array Field} {α : Type} {d : Kd α} {wf : α → Prop} (ht : P.underlying t = some (.struct fs)) (hl : lineB P fs.toList 0 = true) (hc : P.cellsOf t = ((fs.toList.map (·.type)).map P.cellsOf).sum)
    (h : OpensL P (fs.toList.map (·.type)) d wf) : Opens P t d wf := by
  intro H enc w base spare held fuel cs y hy
  obtain ⟨xs, n, _, _, hlen, hxl, hf⟩ := DataW.trod_struct ht hy
  obtain ⟨x, hk, hw⟩ := h enc w base spare held n cs xs 0 (fun i u hu => by
    rw [List.getElem?_map, Option.map_eq_some_iff] at hu
    obtain ⟨f, hf0, rfl⟩ := hu
    have hi : i < fs.size := by
      have := (List.getElem?_eq_some_iff.1 hf0).1
      simpa using this
    have h1 := hf i f (by rw [← Array.getElem?_toList]; exact hf0)
    rw [line_at _ 0 hl i f hf0] at h1
    exact ⟨_, h1.trans (List.getElem?_eq_getElem (by omega))⟩)
  rw [← hc, List.drop_zero, ← hlen, List.take_length] at hk
  exact ⟨x, hk, hw⟩
theorem reads_build {P : Program} {e : TypeId} {α : Type} {d : Kd α} {wf : α → Prop} (hs : P.cellsOf e = d.sz) (w : World) (ad : Addr) : ∀ (len : Nat), (∀ i, i < len → ∃ (x : α) (c : List Value), c.length = d.sz ∧ d.K w x c ∧ wf x ∧ ∀ j u, c[j]? = some u → w.cell? (ad.add (i * d.sz + j)) = some u) →
    ∃ xs : List α, xs.length = len ∧ (∀ x ∈ xs, wf x) ∧ ∀ j p, xs[j]? = some p → ∃ c, c.length = d.sz ∧ d.K w p c ∧ ∀ i u, c[i]? = some u → w.cell? (ad.add (j * d.sz + i)) = some u := by
  intro len
  induction len with
  | zero => intro _; exact ⟨[], rfl, by simp, by simp⟩
  | succ n ih =>
    intro h
    obtain ⟨xs, hl, hw, hx⟩ := ih (fun i hi => h i (by omega))
    obtain ⟨x, c, hc, hk, hwx, hcell⟩ := h n (by omega)
    refine ⟨xs ++ [x], by simp [hl], ?_, ?_⟩
    · intro y hy
      rcases List.mem_append.1 hy with hy | hy
      · exact hw y hy
      · rw [List.mem_singleton.1 hy]; exact hwx
    · intro j p hj
      rcases Nat.lt_or_ge j xs.length with hjl | hjl
      · rw [List.getElem?_append_left hjl] at hj
        exact hx j p hj
      · have : j = xs.length := by
          have := (List.getElem?_eq_some_iff.1 hj).1
          simp at this
          omega
        subst this
        have hp : x = p := by simpa using hj
        subst hp
        exact ⟨c, hc, hk, by rw [hl]; exact hcell⟩
theorem opens_slice {P : Program} {t e : TypeId} {α : Type} {d : Kd α} {wf : α → Prop} (ht : P.underlying t = some (.slice e)) (hs : P.cellsOf e = d.sz) (h : Opens P e d wf) : Opens P t (Kd.slice e d) (fun l => l.length ≤ maxLen ∧ ∀ x ∈ l, wf x) := by
  intro H enc w base spare held fuel cs y hy
  rcases open_slice ht hy with ⟨rfl, _⟩ | ⟨a, len, cap, m, n, D, Pl, rfl, hb, hl, hm, hmm, hx, hi⟩
  · exact ⟨[], ⟨none, 0, rfl, Nat.le_refl _, rfl, by simp, by simp⟩, by simp, by simp⟩
  · have hle : len ≤ m := by rw [hmm]; split <;> omega
    obtain ⟨xs, hxl, hwf, hxs⟩ := reads_build (P := P) (e := e) (d := d) (wf := wf) hs w a len (fun i hlt => by
      obtain ⟨cs', hc, ht'⟩ := hi i (by omega)
      obtain ⟨_, hcl, hat⟩ := World.cells?_some hc
      obtain ⟨x, hk, hwx⟩ := h enc w base spare held n cs' _ ht'
      refine ⟨x, cs', by omega, hk, hwx, fun j u hj => ?_⟩
      have hjl := (List.getElem?_eq_some_iff.1 hj).1
      have := hat j (by omega)
      rw [← Go.Deep.add_add, ← hs, this, hj])
    have hm' : len ≤ maxLen := by omega
    subst hxl
    have hm2 : xs.length ≤ 9223372036854775807 := by unfold maxLen at hm'; omega
    exact ⟨xs, ⟨some a, cap, rfl, hl, rfl, hm2, fun _ => ⟨a, rfl, hxs⟩⟩, hm', hwf⟩
end Go.Proofs.YtfigbjjaffkidaaW.Opn
namespace Go.Proofs.Ytfigbjjaffkidaa.batchDoes
open Go.ChangeShapes Go.WideShapes Go.ChangeAt Go.RowKit Go.Proofs.YtfigbjjaffkidaaW Go.Proofs.YtfigbjjaffkidaaW.PrintWords Go.Proofs.Ytfigbjjaffkidaa.P
open Go.ChangeMaps (open_string shut_string)
theorem own : ownKnob Try.prog.godebug = none := by kernel_rfl
theorem laidOut : laidOutB Try.prog = true := by kernel_rfl
theorem opn41 : Opn.Opens Try.prog 41 k41 (fun x => (True ∧ (Lit.int .i64 x.f1).wf = true ∧ (Lit.int .i64 x.f2).wf = true ∧ (Lit.int .i64 x.f3).wf = true ∧ (Lit.int .i64 x.f4).wf = true ∧ (Lit.int .i64 x.f5).wf = true)) :=
  Opn.opens_iso (fun x : S41 => (x.f0, x.f1, x.f2, x.f3, x.f4, x.f5)) (fun a => ⟨a.1, a.2.1, a.2.2.1, a.2.2.2.1, a.2.2.2.2.1, a.2.2.2.2.2⟩) (fun _ => rfl) (Opn.opens_struct Try.underlying41 (by kernel_rfl) (by kernel_rfl) (Opn.opensL_cons (Opn.opens_bool Try.underlying4) (Opn.opensL_cons (Opn.opens_int Try.underlying3) (Opn.opensL_cons (Opn.opens_int Try.underlying3) (Opn.opensL_cons (Opn.opens_int Try.underlying3) (Opn.opensL_cons (Opn.opens_int Try.underlying3) (Opn.opensL_one (Opn.opens_int Try.underlying3))))))))
theorem opn43 : Opn.Opens Try.prog 43 k43 (fun x => ((Lit.int .i64 x.f0).wf = true ∧ (Lit.int .i64 x.f1).wf = true ∧ (Lit.int .i64 x.f2).wf = true)) :=
  Opn.opens_iso (fun x : S43 => (x.f0, x.f1, x.f2)) (fun a => ⟨a.1, a.2.1, a.2.2⟩) (fun _ => rfl) (Opn.opens_struct Try.underlying43 (by kernel_rfl) (by kernel_rfl) (Opn.opensL_cons (Opn.opens_int Try.underlying3) (Opn.opensL_cons (Opn.opens_int Try.underlying3) (Opn.opensL_one (Opn.opens_int Try.underlying3)))))
theorem opn45 : Opn.Opens Try.prog 45 k45 (fun x => ((Lit.int .i64 x.f0).wf = true ∧ (Lit.int .i64 x.f1).wf = true ∧ (True ∧ (Lit.int .i64 x.f2.f1).wf = true ∧ (Lit.int .i64 x.f2.f2).wf = true ∧ (Lit.int .i64 x.f2.f3).wf = true ∧ (Lit.int .i64 x.f2.f4).wf = true ∧ (Lit.int .i64 x.f2.f5).wf = true) ∧ ((Lit.int .i64 x.f3.f0).wf = true ∧ (Lit.int .i64 x.f3.f1).wf = true ∧ (Lit.int .i64 x.f3.f2).wf = true) ∧ (Lit.int .i64 x.f4).wf = true)) :=
  Opn.opens_iso (fun x : S45 => (x.f0, x.f1, x.f2, x.f3, x.f4)) (fun a => ⟨a.1, a.2.1, a.2.2.1, a.2.2.2.1, a.2.2.2.2⟩) (fun _ => rfl) (Opn.opens_struct Try.underlying45 (by kernel_rfl) (by kernel_rfl) (Opn.opensL_cons (Opn.opens_int Try.underlying3) (Opn.opensL_cons (Opn.opens_int Try.underlying3) (Opn.opensL_cons opn41 (Opn.opensL_cons opn43 (Opn.opensL_one (Opn.opens_int Try.underlying3)))))))
theorem opn24 : Opn.Opens Try.prog 24 k24 (fun x => ((Lit.int .i64 x.f0).wf = true ∧ (x.f1.length ≤ maxLen ∧ ∀ x0_ ∈ x.f1, ((Lit.int .i64 x0_.f0).wf = true ∧ (Lit.int .i64 x0_.f1).wf = true ∧ (True ∧ (Lit.int .i64 x0_.f2.f1).wf = true ∧ (Lit.int .i64 x0_.f2.f2).wf = true ∧ (Lit.int .i64 x0_.f2.f3).wf = true ∧ (Lit.int .i64 x0_.f2.f4).wf = true ∧ (Lit.int .i64 x0_.f2.f5).wf = true) ∧ ((Lit.int .i64 x0_.f3.f0).wf = true ∧ (Lit.int .i64 x0_.f3.f1).wf = true ∧ (Lit.int .i64 x0_.f3.f2).wf = true) ∧ (Lit.int .i64 x0_.f4).wf = true)))) :=
  Opn.opens_iso (fun x : S24 => (x.f0, x.f1)) (fun a => ⟨a.1, a.2⟩) (fun _ => rfl) (Opn.opens_struct Try.underlying24 (by kernel_rfl) (by kernel_rfl) (Opn.opensL_cons (Opn.opens_int Try.underlying3) (Opn.opensL_one (Opn.opens_slice Try.underlying22 (by kernel_rfl) opn45))))
set_option maxRecDepth 100000 in
theorem lifted (os : Os) (started : os.Started) (H : Type) (enc : TypeId × Value → H) :
    ReturnsInHanded {} Try.checked os 3 .any (Rows.batchDoesSpec.pre6 enc Try.prog Try.f3 Rows.batchDoesRow.domain false) (Rows.batchDoesSpec.post enc Try.prog Try.f3 false true false false) := by
  refine returnsInHanded_of_change_sized (C := Try.checked) own started (by kernel_rfl) Try.func3
    (ChangeSpec.witness6 (enc := enc) (C := Try.checked) false ⟨#[], #[.agg #[(.int .i64 0), (.slice none 0 0)]], []⟩ 8 (by kernel_rfl) (by kernel_rfl) (by kernel_rfl) (by kernel_rfl)) ?_
  intro W base args ds gs before hval0 hW hcnd hsz0 _
  have hval : ∀ (j : Nat) t v, Try.f3.params[j]? = some t → args[j]? = some v → Value.okWide Try.prog W .any base t v := hval0
  have hW' := hW
  obtain ⟨p, q, hA0, hV, rfl, hfz, hnd⟩ := hW
  have hA : DataW.TrodAll enc Try.prog W 0 (fun _ => true) true Try.f3.params.toList args.toList ds p := hA0
  rw [Try.params3] at hA hval
  obtain ⟨v0, vs0, d0, ds0, p0, q0, hargs, rfl, rfl, h0, r0⟩ := trodAll_cons hA
  obtain ⟨rfl, rfl, rfl⟩ := trodAll_nil r0
  obtain rfl : args = #[v0] := by cases args; simp_all
  obtain ⟨rfl, rfl⟩ := trodVars_none hV
  have k0 := h0
  have lt0 : ∀ x ∈ p0, x.block < W.heap.size := by obtain ⟨m, hm⟩ := k0; exact DataW.trod_lt m _ _ _ hm
  obtain ⟨cs0, hv0, _⟩ := okWide_struct Try.underlying24 (hval 0 24 v0 rfl rfl)
  subst hv0
  obtain ⟨x0, K0, W0⟩ : ∃ x : S24, k24.K W x cs0.toList ∧ ((Lit.int .i64 x.f0).wf = true ∧ (x.f1.length ≤ maxLen ∧ ∀ x0_ ∈ x.f1, ((Lit.int .i64 x0_.f0).wf = true ∧ (Lit.int .i64 x0_.f1).wf = true ∧ (True ∧ (Lit.int .i64 x0_.f2.f1).wf = true ∧ (Lit.int .i64 x0_.f2.f2).wf = true ∧ (Lit.int .i64 x0_.f2.f3).wf = true ∧ (Lit.int .i64 x0_.f2.f4).wf = true ∧ (Lit.int .i64 x0_.f2.f5).wf = true) ∧ ((Lit.int .i64 x0_.f3.f0).wf = true ∧ (Lit.int .i64 x0_.f3.f1).wf = true ∧ (Lit.int .i64 x0_.f3.f2).wf = true) ∧ (Lit.int .i64 x0_.f4).wf = true))) := by
    obtain ⟨fuel, hf⟩ := h0
    exact opn24 enc W 0 (fun _ => true) true fuel _ _ hf
  obtain ⟨A0_1, c0_1, E0, g0_1, C0_1⟩ := k24_open K0
  obtain ⟨cl0⟩ := cs0
  have E0' : cl0 = _ := E0
  subst E0'
  obtain ⟨k, hk⟩ := Pure.BatchDoes x0 W0
  clear hA0 hval0 hsz0
  refine (thalweglaw05_BatchDoes.calls (k := k) (a0_0 := x0.f0) (A0_1 := A0_1) (c0_1 := c0_1) (l0_1 := x0.f1) (r := true) (w := W) (hr0_1 := C0_1) (hc0_1 := g0_1) (h := hk)).mono fun e W' ⟨he, bel⟩ => ?_
  subst he
  exact ⟨_, rfl, _, _, _, [], _, [], hW', trodAll_mk1 (shut_bool Try.underlying4 _), (trodAll_cons_mk (Below.trod laidOut (by kernel_rfl) (of_decide_eq_true (by kernel_rfl)) k0 bel lt0) trodAll_mk0), rfl, bel.frame _, fun h => by cases h⟩
theorem over : Rows.batchDoesRow.holds Try.pinned (OpenSpec.ofChange Rows.batchDoesSpec) :=
  OpenClaim.holds_of_wide 3 Try.f3 rfl rfl rfl rfl rfl rfl rfl ⟨rfl, rfl, rfl, rfl, rfl⟩ rfl rfl rfl rfl rfl (by kernel_rfl) Try.func3 (by kernel_rfl)
    (of_decide_eq_true (by kernel_rfl)) (by unfold Func.isWrapper; first | (rw [if_pos (by decide +kernel)]; kernel_rfl) | (rw [if_neg (by decide +kernel)]; exact ⟨rfl, rfl⟩))
    (fun os started H enc _ => lifted os started H enc)
theorem proved : Rows.BatchDoesSaid := over
end Go.Proofs.Ytfigbjjaffkidaa.batchDoes
namespace Go.Proofs.Ytfigbjjaffkidaa
theorem batchDoes_holds : Rows.BatchDoesSaid := batchDoes.proved
end Go.Proofs.Ytfigbjjaffkidaa
