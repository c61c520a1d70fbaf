/- Walks. -/
import Derived.Test.YtaiklcpmlkpfjaaXBeaconDoesa
import Derived.Test.YtaiklcpmlkpfjaaXBeaconDoesb
set_option linter.unusedVariables false
set_option linter.unusedSimpArgs false
set_option maxHeartbeats 8000000
set_option maxRecDepth 100000
namespace Go.Proofs.Ytaiklcpmlkpfjaa.P
open Go.RowKit YtaiklcpmlkpfjaaW.PrintWords YtaiklcpmlkpfjaaW.PrintLast YtaiklcpmlkpfjaaW.PrintMore
open YtaiklcpmlkpfjaaW.PrintWords renaming below_alloc → YA, pw_below_drewN → YB, below_drew1 → YC, below_step → YD, below_size → YE, blk_drewN → YF, blk_drew → YG, blk_alloc → YH, blk_cell → YI, blk_frozen → YJ, blk_below → YK
open YtaiklcpmlkpfjaaW.PrintWords.Aside0 renaming mk → YL
open List renaming map_toArray → YM, length_take → YN, length_drop → YO
open YtaiklcpmlkpfjaaW.PrintWords.Kd renaming R_alloc → YP, R_drewN → YQ, R_drew → YR
attribute [local go_sem] max2_int min2_int max_two min_two max_three min_three max_four min_four
def thalwegref06_Bytes.l0 : Nat → List Int → Int → Int → List (S59) → Option (List Int × Int)
 | 0, _, _, _, _ => none
 | k + 1, x4, x6, x280000, x280001 => if x6 < (x280001.length : Int) then (if 0 ≤ x6 then ((thalwegref01_Put.f k ((rd_T59 x280001 x6).f1) 4).bind fun bt289 => (if x4.length < 140737488355328 then ((some (x4 ++ [((rd_T59 x280001 x6).f0) % 256] : List Int)).bind fun y294 => (if y294.length + bt289.1.length < 140737488355328 then (thalwegref06_Bytes.l0 k (y294 ++ bt289.1) (wrap64 (x6 + 1)) x280000 x280001) else (none))) else (none))) else (none)) else (some (x4, 0))
def thalwegref06_Bytes.f (k : Nat) (a0_0 : Int) (l0_1 : List (S59)) : Option (List Int × Int) := (thalwegref06_Right.f k a0_0 l0_1).bind fun t280 => (if t280 = true then ((thalwegref01_Put.f k a0_0 4).bind fun bt281 => (if bt281.1.length < 140737488355328 then (thalwegref06_Bytes.l0 k (bt281.1 ++ [((l0_1.length : Int)) % 256]) 0 a0_0 l0_1) else (none))) else (some (([] : List Int), 1)))
theorem thalwegref06_Bytes.mono_l : ∀ k, (∀ y0 y1 y2 y3, LeO (thalwegref06_Bytes.l0 k y0 y1 y2 y3) (thalwegref06_Bytes.l0 (k + 1) y0 y1 y2 y3))
 | 0 => fun _ _ _ _ r h => by simp [thalwegref06_Bytes.l0] at h
 | k + 1 => by
  have ih0 := thalwegref06_Bytes.mono_l k
  ·intro y0 y1 y2 y3
   unfold thalwegref06_Bytes.l0
   repeat' first
   | (with_reducible exact ih0 _ _ _ _)
   | (with_reducible exact thalwegref01_Put.mono _ _ _)
   | (with_reducible exact thalwegref06_Right.mono _ _ _)
   | (with_reducible exact LeO.refl _)
   | (with_reducible exact LeO.none _)
   | (with_reducible refine LeO.ite ?_ ?_)
   | (with_reducible refine LeO.bind ?_ (fun _ => ?_))
   | exact ih0 _ _ _ _
   | exact thalwegref01_Put.mono _ _ _
   | exact thalwegref06_Right.mono _ _ _
   | exact LeO.none _
   | refine LeO.ite ?_ ?_
   | refine LeO.bind ?_ (fun _ => ?_)
theorem thalwegref06_Bytes.mono : ∀ a0 a1 k, LeO (thalwegref06_Bytes.f k a0 a1) (thalwegref06_Bytes.f (k + 1) a0 a1) := by
 intro a0 a1 k
 have ih0 := thalwegref06_Bytes.mono_l k
 unfold thalwegref06_Bytes.f
 repeat' first
   | (with_reducible exact ih0 _ _ _ _)
   | (with_reducible exact thalwegref01_Put.mono _ _ _)
   | (with_reducible exact thalwegref06_Right.mono _ _ _)
   | (with_reducible exact LeO.refl _)
   | (with_reducible exact LeO.none _)
   | (with_reducible refine LeO.ite ?_ ?_)
   | (with_reducible refine LeO.bind ?_ (fun _ => ?_))
   | exact ih0 _ _ _ _
   | exact thalwegref01_Put.mono _ _ _
   | exact thalwegref06_Right.mono _ _ _
   | exact LeO.none _
   | refine LeO.ite ?_ ?_
   | refine LeO.bind ?_ (fun _ => ?_)
theorem thalwegref06_Bytes.calls (k : Nat) (a0_0 : Int) (A0_1 : Option Addr) (c0_1 : Nat) (l0_1 : List (S59)) (r1 : List Int) (r2 : Int) (w : World) (hr0_1 : Kd.C k59 w A0_1 l0_1.length l0_1) (hc0_1 : l0_1.length ≤ c0_1) (h : thalwegref06_Bytes.f k a0_0 l0_1 = some (r1, r2)) :
  Calls Try.prog 16 #[.agg #[.int .i64 a0_0, .slice A0_1 l0_1.length c0_1]] w fun e w' => ∃ v0_ : Value, e = .returned (.tuple #[v0_, .int .i64 r2]) ∧ Kd.R (Kd.int .u8) 5 w' w.heap.size (fun _ => True) v0_ r1 ∧ Below w.heap.size w w' := by
 have hu25 := Try.underlying25
 have HR0_1 := YL hr0_1; have HC0_1 := YL hc0_1; clear hr0_1 hc0_1
 have HB := YL (Below.refl w.heap.size w)
 have H : ((thalwegref06_Right.f k a0_0 l0_1).bind fun t280 => (if t280 = true then ((thalwegref01_Put.f k a0_0 4).bind fun bt281 => (if bt281.1.length < 140737488355328 then (thalwegref06_Bytes.l0 k (bt281.1 ++ [((l0_1.length : Int)) % 256]) 0 a0_0 l0_1) else (none))) else (some (([] : List Int), 1)))) = some (r1, r2) := h
 clear h; replace H := Option.bind_eq_some_iff.mp H; obtain ⟨t280, A20, H⟩ := H
 replace H : (if t280 = true then ((thalwegref01_Put.f k a0_0 4).bind fun bt281 => (if bt281.1.length < 140737488355328 then (thalwegref06_Bytes.l0 k (bt281.1 ++ [((l0_1.length : Int)) % 256]) 0 a0_0 l0_1) else (none))) else (some (([] : List Int), 1))) = some (r1, r2) := H
 have A2 := YL A20; clear A20
 by_cases c3 : t280 = true
 ·subst c3
  have H1 : ((thalwegref01_Put.f k a0_0 4).bind fun bt281 => (if bt281.1.length < 140737488355328 then (thalwegref06_Bytes.l0 k (bt281.1 ++ [((l0_1.length : Int)) % 256]) 0 a0_0 l0_1) else (none))) = some (r1, r2) := by rw [if_pos rfl] at H; exact H
  clear H
  have H := H1
  clear H1; replace H := Option.bind_eq_some_iff.mp H
  obtain ⟨⟨t281, t282⟩, A40, H⟩ := H
  replace H : (if t281.length < 140737488355328 then (thalwegref06_Bytes.l0 k (t281 ++ [((l0_1.length : Int)) % 256]) 0 a0_0 l0_1) else (none)) = some (r1, r2) := H
  have A4 := YL A40; clear A40
  by_cases c5 : t281.length < 140737488355328
  rotate_left
  ·rw [if_neg c5] at H
   exact absurd H (by simp)
  rw [if_pos c5] at H; have LMc5 := YL c5; clear c5
  obtain ⟨y285, hy285⟩ : ∃ y_ : List Int, y_ = (t281 ++ [((l0_1.length : Int)) % 256]) := ⟨_, rfl⟩
  replace H : (thalwegref06_Bytes.l0 k y285 0 a0_0 l0_1) = some (r1, r2) := by first | (rw [hy285]; with_reducible exact H) | (have H2_ := (Option.bind_some _ _).symm.trans H; rw [hy285]; with_reducible exact H2_) | (have H2_ := (Option.bind_some _ _).symm.trans H; with_reducible exact H2_) | with_reducible exact H | (rw [hy285]; exact H) | exact H
  have Ny285 := YL hy285; clear hy285
  have H' := YL H
  clear H
  go_enter Try.func16, Try.ntmps16
  go_wp2_with (first | ((with_reducible refine gate_dst (N := 1) rfl ?_); refine box_event ?hg (N := 1) ?hd (cs := #[.int .i64 a0_0, .slice A0_1 l0_1.length c0_1]) (t := 25) ?hr ?_; (case hd => rfl); (case hg => rfl); (case hr => first | (go_simp; done) | (go_simp; rfl)); intro gb279 hg w6 hbox hb; have n0_ := YL (YD (by repeat (first | (with_reducible first | exact HB.out | apply YA | apply YB | apply YC) | exact HB.out)) hb); have n1_ := YL (hbox); have n2_ := YL ((by rw [hg]; exact (YE (by repeat (first | (with_reducible first | exact HB.out | apply YA | apply YB | apply YC) | exact HB.out))) : w.heap.size ≤ gb279)); have n3_ := YL ((by rw [hg]; exact (YE (by repeat (first | (with_reducible first | exact HB.out | apply YA | apply YB | apply YC) | exact HB.out))) : w.heap.size ≤ gb279)); clear HB; have HB := n0_; have BK279 := n1_; have GW279 := n2_; have GE279 := n3_; clear n0_ n1_ n2_ n3_; clear hb hbox hg; have q7_0 : w6.cell? ⟨gb279, 0, none⟩ = some (.int .i64 a0_0) := (YI BK279.out 0).trans rfl; have q7_1 : w6.cell? ⟨gb279, 1, none⟩ = some (.slice A0_1 l0_1.length c0_1) := (YI BK279.out 1).trans rfl; have f7_0 := YJ BK279.out 0; have f7_1 := YJ BK279.out 1) | ((with_reducible refine gate_callee (f := 23) rfl ?_); refine goesL_ (some 10) rfl rfl Try.func23 (by kernel_rfl) rfl #[.agg #[.int .i64 a0_0, .slice A0_1 l0_1.length c0_1]] rfl (by (try simp only [YM, List.map_cons, List.map_nil]); first | done | rfl | (simp only [YO, YN]; rfl)) ?_; (with_reducible refine (thalwegref06_Right.calls k a0_0 _ _ l0_1 true _ ?side1 ?side2 A2.out).mono ?_); (case side1 => repeat (first | exact (Kd.C_below HR0_1.out HB.out) | (with_reducible refine Kd.C_alloc ?_ _) | (with_reducible refine Kd.C_drewN ?_ _) | (with_reducible refine Kd.C_drew ?_))); (case side2 => exact HC0_1.out); rintro e w8 ⟨rfl, hb⟩; refine ⟨_, rfl, ?_⟩; have n0_ := YL (YK (g := gb279) (o := .cells #[.int .i64 a0_0, .slice A0_1 l0_1.length c0_1] 25 (0, 0)) (by (with_reducible repeat (first | refine YF ?_ _ | refine YG ?_ | refine YH ?_ _)); exact BK279.out) hb); have n1_ := YL (YD (by repeat (first | (with_reducible first | exact HB.out | apply YA | apply YB | apply YC | refine below_set ?_ GE279.out) | exact HB.out)) hb); clear BK279; clear HB; have BK279 := n0_; have HB := n1_; clear n0_ n1_; (try clear hb); (try clear hb2); (try clear hk); (try clear hi); have q9_0 : w8.cell? ⟨gb279, 0, none⟩ = some (.int .i64 a0_0) := (YI BK279.out 0).trans rfl; have q9_1 : w8.cell? ⟨gb279, 1, none⟩ = some (.slice A0_1 l0_1.length c0_1) := (YI BK279.out 1).trans rfl; have f9_0 := YJ BK279.out 0; have f9_1 := YJ BK279.out 1) | ((with_reducible refine gate_callee (f := 32) rfl ?_); refine goesL_ (some 15) rfl rfl Try.func32 (by kernel_rfl) rfl #[.int .i64 a0_0, .int .i64 4] rfl (by (try simp only [YM, List.map_cons, List.map_nil]); first | done | rfl | (simp only [YO, YN]; rfl)) ?_; (with_reducible refine (thalwegref01_Put.calls k a0_0 4 t281 t282 _ A4.out).mono ?_); rintro e w10 ⟨v283, rfl, ho0, hb⟩; refine ⟨_, rfl, ?_⟩; have n0_ := YL (Kd.R_lower ho0 (YE (by repeat (first | (with_reducible first | exact HB.out | apply YA | apply YB | apply YC | refine below_set ?_ GE279.out) | exact HB.out)))); have n1_ := YL (YK (g := gb279) (o := .cells #[.int .i64 a0_0, .slice A0_1 l0_1.length c0_1] 25 (0, 0)) (by (with_reducible repeat (first | refine YF ?_ _ | refine YG ?_ | refine YH ?_ _)); exact BK279.out) hb); have n2_ := YL (YD (by repeat (first | (with_reducible first | exact HB.out | apply YA | apply YB | apply YC | refine below_set ?_ GE279.out) | exact HB.out)) hb); clear BK279; clear HB; have HO284 := n0_; have BK279 := n1_; have HB := n2_; clear n0_ n1_ n2_; (try clear hb); (try clear hb2); (try clear hk); (try clear hi); (try clear ho0); have q11_0 : w10.cell? ⟨gb279, 0, none⟩ = some (.int .i64 a0_0) := (YI BK279.out 0).trans rfl; have q11_1 : w10.cell? ⟨gb279, 1, none⟩ = some (.slice A0_1 l0_1.length c0_1) := (YI BK279.out 1).trans rfl; have f11_0 := YJ BK279.out 0; have f11_1 := YJ BK279.out 1) | ((with_reducible refine gate_builtin (b := .append) (xs := #[.tmp 18, .tmp 23]) rfl ?_); at_builtin; refine Kd.R_append (Kd.int .u8) (w0 := w) w.heap.size rfl (.tmp 18) (.tmp 23) 22 5 (.int .u8 0) 1 rfl Try.underlying22 info5 rfl (by decide) (by omega) v283 t281 (((l0_1.length : Int)) % 256) [.int .u8 (((l0_1.length : Int)) % 256)] (fun _ => True) (fun _ => False) rfl rfl ?aP (fun _ hk => hk.elim) ?aF ?aO ?aB ?aS ?aL ?_; (case aP => exact rfl); (case aB => exact (by repeat (first | (with_reducible first | exact HB.out | apply YA | apply YB | apply YC | refine below_set ?_ GE279.out) | exact HB.out))); (case aF => exact (fun _ _ => trivial)); (case aO => exact (by (with_reducible repeat (first | apply YP | apply YQ | apply YR)); exact HO284.out)); (case aS => exact (YE (by repeat (first | (with_reducible first | exact HB.out | apply YA | apply YB | apply YC | refine below_set ?_ GE279.out) | exact HB.out)))); (case aL => have := LMc5.out; omega); intro v286 w12 ho hb hg hat; rw [← Ny285.out] at ho; have n0_ := YL (blk_grown (g := gb279) (o := .cells #[.int .i64 a0_0, .slice A0_1 l0_1.length c0_1] 25 (0, 0)) (by (with_reducible repeat (first | refine YF ?_ _ | refine YG ?_ | refine YH ?_ _)); exact BK279.out) hg (Kd.R_ne HO284.out BK279.out (by decide))); have n1_ := YL (hb); have n2_ := YL (ho); clear BK279; clear HB; clear HO284; have BK279 := n0_; have HB := n1_; have HO287 := n2_; clear n0_ n1_ n2_; clear ho hb hg hat))
  go_loopg [4, 6] k (fun kq v4 v6 w' => ∃ (x4_1 : List Int) (x6_1 : Int), v6 = .int .i64 x6_1 ∧ Aside0 (thalwegref06_Bytes.l0 kq x4_1 x6_1 a0_0 l0_1 = some (r1, r2)) ∧ Aside0 (kq ≤ k) ∧ Aside0 (Kd.R (Kd.int .u8) 5 w' w.heap.size (fun _ => True) v4 x4_1) ∧ Aside0 (w'.heap[gb279]? = some (.cells #[.int .i64 a0_0, (.slice A0_1 l0_1.length c0_1)] 25 (0, 0))) ∧ Aside0 (Below w.heap.size w w'))
  case atStart => exact ⟨(y285), (0), (by first | rfl | (simp; done) | (simp [*]; done)), H', ⟨Nat.le_refl _⟩, ⟨by (with_reducible repeat (first | apply YP | apply YQ | apply YR)); exact HO287.out⟩, ⟨by (with_reducible repeat (first | refine YF ?_ _ | refine YG ?_ | refine YH ?_ _)); exact BK279.out⟩, ⟨by repeat (first | (with_reducible first | exact HB.out | apply YA | apply YB | apply YC | refine below_set ?_ GE279.out) | exact HB.out)⟩⟩
  case round =>
   clear H'
   try clear c1; try clear c2
   try clear p2; try clear c3
   try clear c5; try clear q11_0
   try clear q11_1; try clear q7_0
   try clear q7_1; try clear q9_0
   try clear q9_1; try clear f11_0
   try clear f11_1; try clear f7_0
   try clear f7_1; try clear f9_0; try clear f9_1
   obtain ⟨x4_1, x6_1, rfl, HA, HK1, HO_4, BK279, HB⟩ := hrel
   cases gk with
   | zero => exact absurd HA.out (by simp [thalwegref06_Bytes.l0])
   | succ k1 =>
    have H := HA.out
    clear HA
    simp only [thalwegref06_Bytes.l0] at H
    by_cases c13 : x6_1 < (l0_1.length : Int)
    ·rw [if_pos c13] at H
     have c13b0 : decide (x6_1 < (l0_1.length : Int)) = true := decide_eq_true c13
     clear c13
     by_cases c14 : 0 ≤ x6_1
     rotate_left
     ·rw [if_neg c14] at H
      exact absurd H (by simp)
     rw [if_pos c14] at H; have c14b0 : decide (0 ≤ x6_1) = true := decide_eq_true c14; clear c14; replace H := Option.bind_eq_some_iff.mp H
     obtain ⟨⟨t289, t290⟩, A150, H⟩ := H
     replace H : (if x4_1.length < 140737488355328 then ((some (x4_1 ++ [((rd_T59 l0_1 x6_1).f0) % 256] : List Int)).bind fun y294 => (if y294.length + t289.length < 140737488355328 then (thalwegref06_Bytes.l0 k1 (y294 ++ t289) (wrap64 (x6_1 + 1)) a0_0 l0_1) else (none))) else (none)) = some (r1, r2) := H
     have A15 := YL A150; clear A150
     by_cases c16 : x4_1.length < 140737488355328
     rotate_left
     ·rw [if_neg c16] at H
      exact absurd H (by simp)
     rw [if_pos c16] at H; have LMc16 := YL c16; clear c16
     obtain ⟨y294, hy294⟩ : ∃ y_ : List Int, y_ = (x4_1 ++ [((rd_T59 l0_1 x6_1).f0) % 256]) := ⟨_, rfl⟩
     replace H : (if y294.length + t289.length < 140737488355328 then (thalwegref06_Bytes.l0 k1 (y294 ++ t289) (wrap64 (x6_1 + 1)) a0_0 l0_1) else (none)) = some (r1, r2) := by first | (rw [hy294]; with_reducible exact H) | (have H2_ := (Option.bind_some _ _).symm.trans H; rw [hy294]; with_reducible exact H2_) | (have H2_ := (Option.bind_some _ _).symm.trans H; with_reducible exact H2_) | with_reducible exact H | (rw [hy294]; exact H) | exact H
     have Ny294 := YL hy294; clear hy294
     by_cases c17 : y294.length + t289.length < 140737488355328
     rotate_left
     ·rw [if_neg c17] at H
      exact absurd H (by simp)
     rw [if_pos c17] at H; have LMc17 := YL c17; clear c17
     obtain ⟨y297, hy297⟩ : ∃ y_ : List Int, y_ = (y294 ++ t289) := ⟨_, rfl⟩
     replace H : (thalwegref06_Bytes.l0 k1 y297 (wrap64 (x6_1 + 1)) a0_0 l0_1) = some (r1, r2) := by first | (rw [hy297]; with_reducible exact H) | (have H2_ := (Option.bind_some _ _).symm.trans H; rw [hy297]; with_reducible exact H2_) | (have H2_ := (Option.bind_some _ _).symm.trans H; with_reducible exact H2_) | with_reducible exact H | (rw [hy297]; exact H) | exact H
     have Ny297 := YL hy297; clear hy297
     have H' := YL H
     clear H
     have q18_0 : wr.cell? ⟨gb279, 0, none⟩ = some (.int .i64 a0_0) := (YI BK279.out 0).trans rfl
     have q18_1 : wr.cell? ⟨gb279, 1, none⟩ = some (.slice A0_1 l0_1.length c0_1) := (YI BK279.out 1).trans rfl
     have f18_0 := YJ BK279.out 0
     have f18_1 := YJ BK279.out 1
     have p288 : 0 ≤ (x6_1 : Int) := of_decide_eq_true (by first | (with_reducible assumption) | assumption)
     have q288 : x6_1 < (l0_1.length : Int) := of_decide_eq_true (by first | (with_reducible assumption) | assumption)
     obtain ⟨ad288, e288, hx288_0, hx288_1⟩ := at_T59 HR0_1.out x6_1 p288 q288
     cases e288
     replace hx288_0 := (HB.out.cell (World.block_lt_of_cell? w _ hx288_0)).trans hx288_0
     replace hx288_1 := (HB.out.cell (World.block_lt_of_cell? w _ hx288_1)).trans hx288_1
     replace p288 := eq_true p288
     replace q288 := eq_true q288
     go_wp2_with (first | ((with_reducible refine gate_callee (f := 32) rfl ?_); refine goesL_ (some 39) rfl rfl Try.func32 (by kernel_rfl) rfl #[.int .i64 ((rd_T59 l0_1 x6_1).f1), .int .i64 4] rfl (by (try simp only [YM, List.map_cons, List.map_nil]); first | done | rfl | (simp only [YO, YN]; rfl)) ?_; (with_reducible refine (thalwegref01_Put.calls k1 ((rd_T59 l0_1 x6_1).f1) 4 t289 t290 _ A15.out).mono ?_); rintro e w19 ⟨v291, rfl, ho0, hb⟩; refine ⟨_, rfl, ?_⟩; have n0_ := YL (Kd.R_elder' (by (with_reducible repeat (first | apply YP | apply YQ | apply YR)); exact HO_4.out) (Kd.R_base ho0) hb); have n1_ := YL (Kd.R_lower (Kd.R_new' ho0 (Kd.R_lt (by (with_reducible repeat (first | apply YP | apply YQ | apply YR)); exact HO_4.out))) (YE (by repeat (first | (with_reducible first | exact HB.out | apply YA | apply YB | apply YC | refine below_set ?_ GE279.out) | exact HB.out)))); have n2_ := YL (YK (g := gb279) (o := .cells #[.int .i64 a0_0, .slice (some ad288) l0_1.length c0_1] 25 (0, 0)) (by (with_reducible repeat (first | refine YF ?_ _ | refine YG ?_ | refine YH ?_ _)); exact BK279.out) hb); have n3_ := YL (YD (by repeat (first | (with_reducible first | exact HB.out | apply YA | apply YB | apply YC | refine below_set ?_ GE279.out) | exact HB.out)) hb); clear HO_4; clear BK279; clear HB; have HO_4 := n0_; have HO292 := n1_; have BK279 := n2_; have HB := n3_; clear n0_ n1_ n2_ n3_; (try clear hb); (try clear hb2); (try clear hk); (try clear hi); (try clear ho0); have q20_0 : w19.cell? ⟨gb279, 0, none⟩ = some (.int .i64 a0_0) := (YI BK279.out 0).trans rfl; have q20_1 : w19.cell? ⟨gb279, 1, none⟩ = some (.slice (some ad288) l0_1.length c0_1) := (YI BK279.out 1).trans rfl; have f20_0 := YJ BK279.out 0; have f20_1 := YJ BK279.out 1; have p293 : 0 ≤ (x6_1 : Int) := of_decide_eq_true (by first | (with_reducible assumption) | assumption); have q293 : x6_1 < (l0_1.length : Int) := of_decide_eq_true (by first | (with_reducible assumption) | assumption); obtain ⟨ad293, e293, hx293_0, hx293_1⟩ := at_T59 HR0_1.out x6_1 p293 q293; obtain rfl : ad288 = ad293 := (by injection e293); replace hx293_0 := (HB.out.cell (World.block_lt_of_cell? w _ hx293_0)).trans hx293_0; replace hx293_1 := (HB.out.cell (World.block_lt_of_cell? w _ hx293_1)).trans hx293_1; replace p293 := eq_true p293; replace q293 := eq_true q293) | ((with_reducible refine gate_builtin (b := .append) (xs := #[.tmp 42, .tmp 50]) rfl ?_); at_builtin; refine Kd.R_append (Kd.int .u8) (w0 := w) w.heap.size rfl (.tmp 42) (.tmp 50) 22 5 (.int .u8 0) 1 rfl Try.underlying22 info5 rfl (by decide) (by omega) u4 x4_1 (((rd_T59 l0_1 x6_1).f0) % 256) [.int .u8 (((rd_T59 l0_1 x6_1).f0) % 256)] (fun k_ => some k_ ≠ (v291 : Value).ownBlock) (fun _ => False) rfl rfl ?aP (fun _ hk => hk.elim) ?aF ?aO ?aB ?aS ?aL ?_; (case aP => exact rfl); (case aB => exact (by repeat (first | (with_reducible first | exact HB.out | apply YA | apply YB | apply YC | refine below_set ?_ GE279.out) | exact HB.out))); (case aF => exact (fun k_ hk => Kd.fresh' (Kd.R_lt (by (with_reducible repeat (first | apply YP | apply YQ | apply YR)); exact HO292.out)) k_ hk)); (case aO => exact (by (with_reducible repeat (first | apply YP | apply YQ | apply YR)); exact Kd.R_mono HO_4.out (fun _ hk => by first | exact hk.2 | exact trivial | (simp [hk]; done) | simp_all))); (case aS => exact (YE (by repeat (first | (with_reducible first | exact HB.out | apply YA | apply YB | apply YC | refine below_set ?_ GE279.out) | exact HB.out)))); (case aL => have := LMc16.out; omega); intro v295 w21 ho hb hg hat; rw [← Ny294.out] at ho; have n0_ := YL (blk_grown (g := gb279) (o := .cells #[.int .i64 a0_0, .slice (some ad288) l0_1.length c0_1] 25 (0, 0)) (by (with_reducible repeat (first | refine YF ?_ _ | refine YG ?_ | refine YH ?_ _)); exact BK279.out) hg (Kd.R_ne HO_4.out BK279.out (by decide))); have n1_ := YL (Kd.R_after (ok := (fun _ => True)) (by (with_reducible repeat (first | apply YP | apply YQ | apply YR)); exact HO292.out) hg hat); have n2_ := YL (hb); have n3_ := YL (ho); clear BK279; clear HO292; clear HB; clear HO_4; have BK279 := n0_; have HO292 := n1_; have HB := n2_; have HO296 := n3_; clear n0_ n1_ n2_ n3_; clear ho hb hg hat; obtain ⟨Ao23, co23, eo23⟩ := Kd.R_slice HO292.out; subst eo23) | ((with_reducible refine gate_builtin (b := .append) (xs := #[.tmp 52, .tmp 53]) rfl ?_); at_builtin; refine Kd.R_append_rows (Kd.int .u8) (w0 := w) w.heap.size rfl (.tmp 52) (.tmp 53) 22 5 (.int .u8 0) 1 rfl Try.underlying22 info5 rfl (by decide) (by omega) v295 y294 t289 _ _ _ (fun k_ => some k_ ≠ (.slice Ao23 t289.length co23 : Value).ownBlock) (fun _ => False) rfl rfl ?aO ?aR (fun _ _ h => h) (fun _ h => h.elim) ?aF ?aB ?aS ?aL ?_; (case aR => repeat (first | exact (Kd.R_reads' HO292.out).2.2 | (with_reducible refine Kd.C_alloc ?_ _) | (with_reducible refine Kd.C_drewN ?_ _) | (with_reducible refine Kd.C_drew ?_))); (case aB => exact (by repeat (first | (with_reducible first | exact HB.out | apply YA | apply YB | apply YC | refine below_set ?_ GE279.out) | exact HB.out))); (case aF => exact (fun k_ hk => Kd.fresh' (Kd.R_lt (by (with_reducible repeat (first | apply YP | apply YQ | apply YR)); exact HO292.out)) k_ hk)); (case aO => exact (by (with_reducible repeat (first | apply YP | apply YQ | apply YR)); exact HO296.out)); (case aS => exact (YE (by repeat (first | (with_reducible first | exact HB.out | apply YA | apply YB | apply YC | refine below_set ?_ GE279.out) | exact HB.out)))); (case aL => have := LMc17.out; omega); intro v298 w22 ho hb hg hat; rw [← Ny297.out] at ho; have n0_ := YL (blk_grown (g := gb279) (o := .cells #[.int .i64 a0_0, .slice (some ad288) l0_1.length c0_1] 25 (0, 0)) (by (with_reducible repeat (first | refine YF ?_ _ | refine YG ?_ | refine YH ?_ _)); exact BK279.out) hg (Kd.R_ne HO296.out BK279.out (by decide))); have n1_ := YL (Kd.R_after (ok := (fun _ => True)) (by (with_reducible repeat (first | apply YP | apply YQ | apply YR)); exact HO292.out) hg hat); have n2_ := YL (hb); have n3_ := YL (ho); clear BK279; clear HO292; clear HB; clear HO296; have BK279 := n0_; have HO292 := n1_; have HB := n2_; have HO299 := n3_; clear n0_ n1_ n2_ n3_; clear ho hb hg hat))
     go_roundg k1
     case measure => have := HK1.out; omega
     case rel => exact ⟨(y297), (wrap64 (x6_1 + 1)), (by first | rfl | (simp; done) | (simp [*]; done)), H', ⟨by have := HK1.out; omega⟩, ⟨by (with_reducible repeat (first | apply YP | apply YQ | apply YR)); exact Kd.R_mono HO299.out (fun _ hk => trivial)⟩, ⟨by (with_reducible repeat (first | refine YF ?_ _ | refine YG ?_ | refine YH ?_ _)); exact BK279.out⟩, ⟨by repeat (first | (with_reducible first | exact HB.out | apply YA | apply YB | apply YC | refine below_set ?_ GE279.out) | exact HB.out)⟩⟩
    rw [if_neg c13] at H
    have c13b0 : decide (x6_1 < (l0_1.length : Int)) = false := decide_eq_false c13
    clear c13
    simp only [Option.some.injEq, Prod.mk.injEq] at H
    obtain ⟨rfl, rfl⟩ := H
    have q24_0 : wr.cell? ⟨gb279, 0, none⟩ = some (.int .i64 a0_0) := (YI BK279.out 0).trans rfl
    have q24_1 : wr.cell? ⟨gb279, 1, none⟩ = some (.slice A0_1 l0_1.length c0_1) := (YI BK279.out 1).trans rfl
    have f24_0 := YJ BK279.out 0
    have f24_1 := YJ BK279.out 1
    go_wp2
    go_ret2
    exact ⟨_, by first | rfl | (simp [errW_none, errW_some] <;> rfl) | (simp [*, errW_none, errW_some] <;> rfl), by (with_reducible repeat (first | apply YP | apply YQ | apply YR)); exact HO_4.out, by repeat (first | (with_reducible first | exact HB.out | apply YA | apply YB | apply YC | refine below_set ?_ GE279.out) | exact HB.out)⟩
 replace c3 := Bool.eq_false_iff.mpr c3
 subst c3
 have H1 : (some (([] : List Int), 1)) = some (r1, r2) := by rw [if_neg (show ¬ (false = true) by decide)] at H; exact H
 clear H
 have H := H1
 clear H1
 simp only [Option.some.injEq, Prod.mk.injEq] at H
 obtain ⟨rfl, rfl⟩ := H
 go_enter Try.func16, Try.ntmps16
 go_wp2_with (first | ((with_reducible refine gate_dst (N := 1) rfl ?_); refine box_event ?hg (N := 1) ?hd (cs := #[.int .i64 a0_0, .slice A0_1 l0_1.length c0_1]) (t := 25) ?hr ?_; (case hd => rfl); (case hg => rfl); (case hr => first | (go_simp; done) | (go_simp; rfl)); intro gb279 hg w25 hbox hb; have n0_ := YL (YD (by repeat (first | (with_reducible first | exact HB.out | apply YA | apply YB | apply YC) | exact HB.out)) hb); have n1_ := YL (hbox); have n2_ := YL ((by rw [hg]; exact (YE (by repeat (first | (with_reducible first | exact HB.out | apply YA | apply YB | apply YC) | exact HB.out))) : w.heap.size ≤ gb279)); have n3_ := YL ((by rw [hg]; exact (YE (by repeat (first | (with_reducible first | exact HB.out | apply YA | apply YB | apply YC) | exact HB.out))) : w.heap.size ≤ gb279)); clear HB; have HB := n0_; have BK279 := n1_; have GW279 := n2_; have GE279 := n3_; clear n0_ n1_ n2_ n3_; clear hb hbox hg; have q26_0 : w25.cell? ⟨gb279, 0, none⟩ = some (.int .i64 a0_0) := (YI BK279.out 0).trans rfl; have q26_1 : w25.cell? ⟨gb279, 1, none⟩ = some (.slice A0_1 l0_1.length c0_1) := (YI BK279.out 1).trans rfl; have f26_0 := YJ BK279.out 0; have f26_1 := YJ BK279.out 1) | ((with_reducible refine gate_callee (f := 23) rfl ?_); refine goesL_ (some 10) rfl rfl Try.func23 (by kernel_rfl) rfl #[.agg #[.int .i64 a0_0, .slice A0_1 l0_1.length c0_1]] rfl (by (try simp only [YM, List.map_cons, List.map_nil]); first | done | rfl | (simp only [YO, YN]; rfl)) ?_; (with_reducible refine (thalwegref06_Right.calls k a0_0 _ _ l0_1 false _ ?side1 ?side2 A2.out).mono ?_); (case side1 => repeat (first | exact (Kd.C_below HR0_1.out HB.out) | (with_reducible refine Kd.C_alloc ?_ _) | (with_reducible refine Kd.C_drewN ?_ _) | (with_reducible refine Kd.C_drew ?_))); (case side2 => exact HC0_1.out); rintro e w27 ⟨rfl, hb⟩; refine ⟨_, rfl, ?_⟩; have n0_ := YL (YK (g := gb279) (o := .cells #[.int .i64 a0_0, .slice A0_1 l0_1.length c0_1] 25 (0, 0)) (by (with_reducible repeat (first | refine YF ?_ _ | refine YG ?_ | refine YH ?_ _)); exact BK279.out) hb); have n1_ := YL (YD (by repeat (first | (with_reducible first | exact HB.out | apply YA | apply YB | apply YC | refine below_set ?_ GE279.out) | exact HB.out)) hb); clear BK279; clear HB; have BK279 := n0_; have HB := n1_; clear n0_ n1_; (try clear hb); (try clear hb2); (try clear hk); (try clear hi)))
 go_ret2
 exact ⟨_, by first | rfl | (simp [errW_none, errW_some] <;> rfl) | (simp [*, errW_none, errW_some] <;> rfl), by first | exact Kd.R_nil _ _ _ _ _ | exact Kd.N_nil _ _ _ _ _ | exact Kd.V_nil _ _ _ _ _ | exact Kd.Q_nil _ _ _ _ _ | exact Kd.S_nil _ _ _ _ _, by repeat (first | (with_reducible first | exact HB.out | apply YA | apply YB | apply YC | refine below_set ?_ GE279.out) | exact HB.out)⟩
end Go.Proofs.Ytaiklcpmlkpfjaa.P
namespace Go.Proofs.Ytaiklcpmlkpfjaa.P
open Go.RowKit YtaiklcpmlkpfjaaW.PrintWords YtaiklcpmlkpfjaaW.PrintLast YtaiklcpmlkpfjaaW.PrintMore
open YtaiklcpmlkpfjaaW.PrintWords renaming below_alloc → YA, pw_below_drewN → YB, below_drew1 → YC, blk_cell → YD, blk_frozen → YE
open YtaiklcpmlkpfjaaW.PrintWords.Aside0 renaming mk → YF
attribute [local go_sem] max2_int min2_int max_two min_two max_three min_three max_four min_four
def thalwegref06_Heard.l0 : Nat → Int → Int → Int → List (S59) → Option (Int × Bool)
 | 0, _, _, _, _ => none
 | k + 1, x1, x6, x301000, x301001 => if x6 < (x301001.length : Int) then (if 0 ≤ x6 then (if ((rd_T59 x301001 x6).f0) = x1 then (some ((rd_T59 x301001 x6).f1, true)) else (thalwegref06_Heard.l0 k x1 (wrap64 (x6 + 1)) x301000 x301001)) else (none)) else (some (0, false))
def thalwegref06_Heard.f (k : Nat) (a0_0 : Int) (l0_1 : List (S59)) (a1 : Int) : Option (Int × Bool) := thalwegref06_Heard.l0 k a1 0 a0_0 l0_1
theorem thalwegref06_Heard.mono_l : ∀ k, (∀ y0 y1 y2 y3, LeO (thalwegref06_Heard.l0 k y0 y1 y2 y3) (thalwegref06_Heard.l0 (k + 1) y0 y1 y2 y3))
 | 0 => fun _ _ _ _ r h => by simp [thalwegref06_Heard.l0] at h
 | k + 1 => by
  have ih0 := thalwegref06_Heard.mono_l k
  ·intro y0 y1 y2 y3
   unfold thalwegref06_Heard.l0
   repeat' first
   | (with_reducible exact ih0 _ _ _ _)
   | (with_reducible exact LeO.refl _)
   | (with_reducible exact LeO.none _)
   | (with_reducible refine LeO.ite ?_ ?_)
   | (with_reducible refine LeO.bind ?_ (fun _ => ?_))
   | exact ih0 _ _ _ _
   | exact LeO.none _
   | refine LeO.ite ?_ ?_
   | refine LeO.bind ?_ (fun _ => ?_)
theorem thalwegref06_Heard.mono : ∀ a0 a1 a2 k, LeO (thalwegref06_Heard.f k a0 a1 a2) (thalwegref06_Heard.f (k + 1) a0 a1 a2) := by
 intro a0 a1 a2 k
 have ih0 := thalwegref06_Heard.mono_l k
 unfold thalwegref06_Heard.f
 repeat' first
   | (with_reducible exact ih0 _ _ _ _)
   | (with_reducible exact LeO.refl _)
   | (with_reducible exact LeO.none _)
   | (with_reducible refine LeO.ite ?_ ?_)
   | (with_reducible refine LeO.bind ?_ (fun _ => ?_))
   | exact ih0 _ _ _ _
   | exact LeO.none _
   | refine LeO.ite ?_ ?_
   | refine LeO.bind ?_ (fun _ => ?_)
theorem thalwegref06_Heard.calls (k : Nat) (a0_0 : Int) (A0_1 : Option Addr) (c0_1 : Nat) (l0_1 : List (S59)) (a1 : Int) (r1 : Int) (r2 : Bool) (w : World) (hr0_1 : Kd.C k59 w A0_1 l0_1.length l0_1) (hc0_1 : l0_1.length ≤ c0_1) (h : thalwegref06_Heard.f k a0_0 l0_1 a1 = some (r1, r2)) :
  Calls Try.prog 18 #[.agg #[.int .i64 a0_0, .slice A0_1 l0_1.length c0_1], .int .i64 a1] w fun e w' => e = .returned (.tuple #[.int .i64 r1, .bool r2]) ∧ Below w.heap.size w w' := by
 have hu25 := Try.underlying25
 have HR0_1 := YF hr0_1; have HC0_1 := YF hc0_1; clear hr0_1 hc0_1
 have HB := YF (Below.refl w.heap.size w)
 have H : (thalwegref06_Heard.l0 k a1 0 a0_0 l0_1) = some (r1, r2) := h
 clear h
 have H' := YF H
 clear H
 go_enter Try.func18, Try.ntmps18
 go_wp2_with (first | ((with_reducible refine gate_dst (N := 2) rfl ?_); refine box_event ?hg (N := 2) ?hd (cs := #[.int .i64 a0_0, .slice A0_1 l0_1.length c0_1]) (t := 25) ?hr ?_; (case hd => rfl); (case hg => rfl); (case hr => first | (go_simp; done) | (go_simp; rfl)); intro gb300 hg w3 hbox hb; have n0_ := YF (below_step (by repeat (first | (with_reducible first | exact HB.out | apply YA | apply YB | apply YC) | exact HB.out)) hb); have n1_ := YF (hbox); have n2_ := YF ((by rw [hg]; exact (below_size (by repeat (first | (with_reducible first | exact HB.out | apply YA | apply YB | apply YC) | exact HB.out))) : w.heap.size ≤ gb300)); have n3_ := YF ((by rw [hg]; exact (below_size (by repeat (first | (with_reducible first | exact HB.out | apply YA | apply YB | apply YC) | exact HB.out))) : w.heap.size ≤ gb300)); clear HB; have HB := n0_; have BK300 := n1_; have GW300 := n2_; have GE300 := n3_; clear n0_ n1_ n2_ n3_; clear hb hbox hg))
 go_loopg [6] k (fun kq v6 w' => ∃ (x6_1 : Int), v6 = .int .i64 x6_1 ∧ Aside0 (thalwegref06_Heard.l0 kq a1 x6_1 a0_0 l0_1 = some (r1, r2)) ∧ Aside0 (kq ≤ k) ∧ Aside0 (w'.heap[gb300]? = some (.cells #[.int .i64 a0_0, (.slice A0_1 l0_1.length c0_1)] 25 (0, 0))) ∧ Aside0 (Below w.heap.size w w'))
 case atStart => exact ⟨(0), (by first | rfl | (simp; done) | (simp [*]; done)), H', ⟨Nat.le_refl _⟩, ⟨by (with_reducible repeat (first | refine blk_drewN ?_ _ | refine blk_drew ?_ | refine blk_alloc ?_ _)); exact BK300.out⟩, ⟨by repeat (first | (with_reducible first | exact HB.out | apply YA | apply YB | apply YC | refine below_set ?_ GE300.out) | exact HB.out)⟩⟩
 case round =>
  clear H'
  try clear c1; try clear p2
  obtain ⟨x6_1, rfl, HA, HK1, BK300, HB⟩ := hrel
  cases gk with
  | zero => exact absurd HA.out (by simp [thalwegref06_Heard.l0])
  | succ k1 =>
   have H := HA.out
   clear HA
   simp only [thalwegref06_Heard.l0] at H
   by_cases c4 : x6_1 < (l0_1.length : Int)
   ·rw [if_pos c4] at H
    have c4b0 : decide (x6_1 < (l0_1.length : Int)) = true := decide_eq_true c4
    clear c4
    by_cases c5 : 0 ≤ x6_1
    rotate_left
    ·rw [if_neg c5] at H
     exact absurd H (by simp)
    rw [if_pos c5] at H; have c5b0 : decide (0 ≤ x6_1) = true := decide_eq_true c5; clear c5
    by_cases c6 : ((rd_T59 l0_1 x6_1).f0) = a1
    ·rw [if_pos c6] at H
     have c6b0 : (((rd_T59 l0_1 x6_1).f0) == a1) = true := beq_iff_eq.mpr c6
     have c6b1 : (((rd_T59 l0_1 x6_1).f0) != a1) = false := bne_eq_false_iff_eq.mpr c6
     clear c6
     simp only [Option.some.injEq, Prod.mk.injEq] at H
     obtain ⟨rfl, rfl⟩ := H
     have q7_0 : wr.cell? ⟨gb300, 0, none⟩ = some (.int .i64 a0_0) := (YD BK300.out 0).trans rfl
     have q7_1 : wr.cell? ⟨gb300, 1, none⟩ = some (.slice A0_1 l0_1.length c0_1) := (YD BK300.out 1).trans rfl
     have f7_0 := YE BK300.out 0
     have f7_1 := YE BK300.out 1
     have p301 : 0 ≤ (x6_1 : Int) := of_decide_eq_true (by first | (with_reducible assumption) | assumption)
     have q301 : x6_1 < (l0_1.length : Int) := of_decide_eq_true (by first | (with_reducible assumption) | assumption)
     obtain ⟨ad301, e301, hx301_0, hx301_1⟩ := at_T59 HR0_1.out x6_1 p301 q301
     cases e301
     replace hx301_0 := (HB.out.cell (World.block_lt_of_cell? w _ hx301_0)).trans hx301_0
     replace hx301_1 := (HB.out.cell (World.block_lt_of_cell? w _ hx301_1)).trans hx301_1
     replace p301 := eq_true p301
     replace q301 := eq_true q301
     have p302 : 0 ≤ (x6_1 : Int) := of_decide_eq_true (by first | (with_reducible assumption) | assumption)
     have q302 : x6_1 < (l0_1.length : Int) := of_decide_eq_true (by first | (with_reducible assumption) | assumption)
     obtain ⟨ad302, e302, hx302_0, hx302_1⟩ := at_T59 HR0_1.out x6_1 p302 q302
     obtain rfl : ad301 = ad302 := (by injection e302)
     replace hx302_0 := (HB.out.cell (World.block_lt_of_cell? w _ hx302_0)).trans hx302_0
     replace hx302_1 := (HB.out.cell (World.block_lt_of_cell? w _ hx302_1)).trans hx302_1
     replace p302 := eq_true p302
     replace q302 := eq_true q302
     go_wp2
     go_ret2
     exact ⟨by first | rfl | (simp [errW_none, errW_some] <;> rfl) | (simp [*, errW_none, errW_some] <;> rfl), by repeat (first | (with_reducible first | exact HB.out | apply YA | apply YB | apply YC | refine below_set ?_ GE300.out) | exact HB.out)⟩
    rw [if_neg c6] at H
    have c6b0 : (((rd_T59 l0_1 x6_1).f0) == a1) = false := beq_eq_false_iff_ne.mpr c6
    have c6b1 : (((rd_T59 l0_1 x6_1).f0) != a1) = true := bne_iff_ne.mpr c6
    have H' := YF H
    clear H
    have q8_0 : wr.cell? ⟨gb300, 0, none⟩ = some (.int .i64 a0_0) := (YD BK300.out 0).trans rfl
    have q8_1 : wr.cell? ⟨gb300, 1, none⟩ = some (.slice A0_1 l0_1.length c0_1) := (YD BK300.out 1).trans rfl
    have f8_0 := YE BK300.out 0
    have f8_1 := YE BK300.out 1
    have p301 : 0 ≤ (x6_1 : Int) := of_decide_eq_true (by first | (with_reducible assumption) | assumption)
    have q301 : x6_1 < (l0_1.length : Int) := of_decide_eq_true (by first | (with_reducible assumption) | assumption)
    obtain ⟨ad301, e301, hx301_0, hx301_1⟩ := at_T59 HR0_1.out x6_1 p301 q301
    cases e301
    replace hx301_0 := (HB.out.cell (World.block_lt_of_cell? w _ hx301_0)).trans hx301_0
    replace hx301_1 := (HB.out.cell (World.block_lt_of_cell? w _ hx301_1)).trans hx301_1
    replace p301 := eq_true p301
    replace q301 := eq_true q301
    go_wp2
    go_roundg k1
    case measure => have := HK1.out; omega
    case rel => exact ⟨(wrap64 (x6_1 + 1)), (by first | rfl | (simp; done) | (simp [*]; done)), H', ⟨by have := HK1.out; omega⟩, ⟨by (with_reducible repeat (first | refine blk_drewN ?_ _ | refine blk_drew ?_ | refine blk_alloc ?_ _)); exact BK300.out⟩, ⟨by repeat (first | (with_reducible first | exact HB.out | apply YA | apply YB | apply YC | refine below_set ?_ GE300.out) | exact HB.out)⟩⟩
   rw [if_neg c4] at H
   have c4b0 : decide (x6_1 < (l0_1.length : Int)) = false := decide_eq_false c4
   clear c4
   simp only [Option.some.injEq, Prod.mk.injEq] at H
   obtain ⟨rfl, rfl⟩ := H
   have q9_0 : wr.cell? ⟨gb300, 0, none⟩ = some (.int .i64 a0_0) := (YD BK300.out 0).trans rfl
   have q9_1 : wr.cell? ⟨gb300, 1, none⟩ = some (.slice A0_1 l0_1.length c0_1) := (YD BK300.out 1).trans rfl
   have f9_0 := YE BK300.out 0
   have f9_1 := YE BK300.out 1
   go_wp2
   go_ret2
   exact ⟨by first | rfl | (simp [errW_none, errW_some] <;> rfl) | (simp [*, errW_none, errW_some] <;> rfl), by repeat (first | (with_reducible first | exact HB.out | apply YA | apply YB | apply YC | refine below_set ?_ GE300.out) | exact HB.out)⟩
end Go.Proofs.Ytaiklcpmlkpfjaa.P
namespace Go.Proofs.Ytaiklcpmlkpfjaa.P
open Go.RowKit YtaiklcpmlkpfjaaW.PrintWords YtaiklcpmlkpfjaaW.PrintLast YtaiklcpmlkpfjaaW.PrintMore
open YtaiklcpmlkpfjaaW.PrintWords renaming below_alloc → YA, pw_below_drewN → YB, below_drew1 → YC, below_step → YD, below_size → YE, blk_drewN → YF, blk_drew → YG, blk_alloc → YH, blk_cell → YI, blk_frozen → YJ, blk_below → YK
open YtaiklcpmlkpfjaaW.PrintWords.Aside0 renaming mk → YL
open List renaming setIfInBounds_toArray → YM, set_cons_zero → YN, set_cons_succ → YO
open YtaiklcpmlkpfjaaW.PrintWords.Kd renaming R_alloc → YP, R_drewN → YQ, R_drew → YR, R_below → YS
attribute [local go_sem] max2_int min2_int max_two min_two max_three min_three max_four min_four
mutual
def thalwegref06_With.l0 : Nat → Int → Int → Bool → Int → Int → List (S59) → Int → List (S59) → Option (Int × (List (S59)) × Int)
 | 0, _, _, _, _, _, _, _, _ => none
 | k + 1, x1, x2, x9, x10, x304000, x304001, x306000, x306001 => if x10 < (x304001.length : Int) then (if x9 = true then (thalwegref06_With.j1 k x1 x2 true x10 false x304000 x304001 x306000 x306001) else (if 0 ≤ x10 then (thalwegref06_With.j1 k x1 x2 false x10 (decide (((rd_T59 x304001 x10).f0) ≥ x1)) x304000 x304001 x306000 x306001) else (none))) else (if x9 = true then (thalwegref06_With.j2 k x304000 x304001 x306000 x306001) else (if x306001.length < 8796093022208 then (thalwegref06_With.j2 k x304000 x304001 x306000 (x306001 ++ [(⟨x1, x2⟩ : S59)])) else (none)))
def thalwegref06_With.j1 : Nat → Int → Int → Bool → Int → Bool → Int → List (S59) → Int → List (S59) → Option (Int × (List (S59)) × Int)
 | 0, _, _, _, _, _, _, _, _, _ => none
 | k + 1, x1, x2, x9, x10, x32, x304000, x304001, x306000, x306001 => if x32 = true then (if x306001.length < 8796093022208 then ((some (x306001 ++ [(⟨x1, x2⟩ : S59)] : List (S59))).bind fun y307 => (if 0 ≤ x10 then (if x10 < (x304001.length : Int) then (if ((rd_T59 x304001 x10).f0) = x1 then (thalwegref06_With.l0 k x1 x2 true (wrap64 (x10 + 1)) x304000 x304001 x306000 y307) else (if y307.length < 8796093022208 then (thalwegref06_With.l0 k x1 x2 true (wrap64 (x10 + 1)) x304000 x304001 x306000 (y307 ++ [(⟨(rd_T59 x304001 x10).f0, (rd_T59 x304001 x10).f1⟩ : S59)])) else (none))) else (none)) else (none))) else (none)) else (if 0 ≤ x10 then (if x10 < (x304001.length : Int) then (if ((rd_T59 x304001 x10).f0) = x1 then (thalwegref06_With.l0 k x1 x2 x9 (wrap64 (x10 + 1)) x304000 x304001 x306000 x306001) else (if x306001.length < 8796093022208 then (thalwegref06_With.l0 k x1 x2 x9 (wrap64 (x10 + 1)) x304000 x304001 x306000 (x306001 ++ [(⟨(rd_T59 x304001 x10).f0, (rd_T59 x304001 x10).f1⟩ : S59)])) else (none))) else (none)) else (none))
def thalwegref06_With.j2 : Nat → Int → List (S59) → Int → List (S59) → Option (Int × (List (S59)) × Int)
 | 0, _, _, _, _ => none
 | k + 1, x304000, x304001, x306000, x306001 => (thalwegref06_Right.f k x304000 x304001).bind fun t323 => (if t323 = true then ((thalwegref06_Right.f k x306000 x306001).bind fun t324 => (if t324 = true then (some (x306000, x306001, 0)) else (some (0, ([] : List (S59)), 1)))) else (some (0, ([] : List (S59)), 1)))
end
def thalwegref06_With.f (k : Nat) (a0_0 : Int) (l0_1 : List (S59)) (a1 : Int) (a2 : Int) : Option (Int × (List (S59)) × Int) := thalwegref06_With.l0 k a1 a2 false 0 a0_0 l0_1 a0_0 ([] : List (S59))
theorem thalwegref06_With.mono_l : ∀ k, (∀ y0 y1 y2 y3 y4 y5 y6 y7, LeO (thalwegref06_With.l0 k y0 y1 y2 y3 y4 y5 y6 y7) (thalwegref06_With.l0 (k + 1) y0 y1 y2 y3 y4 y5 y6 y7)) ∧ (∀ y0 y1 y2 y3 y4 y5 y6 y7 y8, LeO (thalwegref06_With.j1 k y0 y1 y2 y3 y4 y5 y6 y7 y8) (thalwegref06_With.j1 (k + 1) y0 y1 y2 y3 y4 y5 y6 y7 y8)) ∧ (∀ y0 y1 y2 y3, LeO (thalwegref06_With.j2 k y0 y1 y2 y3) (thalwegref06_With.j2 (k + 1) y0 y1 y2 y3))
 | 0 => ⟨fun _ _ _ _ _ _ _ _ r h => by simp [thalwegref06_With.l0] at h, fun _ _ _ _ _ _ _ _ _ r h => by simp [thalwegref06_With.j1] at h, fun _ _ _ _ r h => by simp [thalwegref06_With.j2] at h⟩
 | k + 1 => by
  obtain ⟨ih0, ih1, ih2⟩ := thalwegref06_With.mono_l k
  refine ⟨?_, ?_, ?_⟩
  ·intro y0 y1 y2 y3 y4 y5 y6 y7
   unfold thalwegref06_With.l0
   repeat' first
   | (with_reducible exact ih0 _ _ _ _ _ _ _ _)
   | (with_reducible exact ih1 _ _ _ _ _ _ _ _ _)
   | (with_reducible exact ih2 _ _ _ _)
   | (with_reducible exact thalwegref06_Right.mono _ _ _)
   | (with_reducible exact LeO.refl _)
   | (with_reducible exact LeO.none _)
   | (with_reducible refine LeO.ite ?_ ?_)
   | (with_reducible refine LeO.bind ?_ (fun _ => ?_))
   | exact ih0 _ _ _ _ _ _ _ _
   | exact ih1 _ _ _ _ _ _ _ _ _
   | exact ih2 _ _ _ _
   | exact thalwegref06_Right.mono _ _ _
   | exact LeO.none _
   | refine LeO.ite ?_ ?_
   | refine LeO.bind ?_ (fun _ => ?_)
  ·intro y0 y1 y2 y3 y4 y5 y6 y7 y8
   unfold thalwegref06_With.j1
   repeat' first
   | (with_reducible exact ih0 _ _ _ _ _ _ _ _)
   | (with_reducible exact ih1 _ _ _ _ _ _ _ _ _)
   | (with_reducible exact ih2 _ _ _ _)
   | (with_reducible exact thalwegref06_Right.mono _ _ _)
   | (with_reducible exact LeO.refl _)
   | (with_reducible exact LeO.none _)
   | (with_reducible refine LeO.ite ?_ ?_)
   | (with_reducible refine LeO.bind ?_ (fun _ => ?_))
   | exact ih0 _ _ _ _ _ _ _ _
   | exact ih1 _ _ _ _ _ _ _ _ _
   | exact ih2 _ _ _ _
   | exact thalwegref06_Right.mono _ _ _
   | exact LeO.none _
   | refine LeO.ite ?_ ?_
   | refine LeO.bind ?_ (fun _ => ?_)
  intro y0 y1 y2 y3
  unfold thalwegref06_With.j2
  repeat' first
  | (with_reducible exact ih0 _ _ _ _ _ _ _ _)
  | (with_reducible exact ih1 _ _ _ _ _ _ _ _ _)
  | (with_reducible exact ih2 _ _ _ _)
  | (with_reducible exact thalwegref06_Right.mono _ _ _)
  | (with_reducible exact LeO.refl _)
  | (with_reducible exact LeO.none _)
  | (with_reducible refine LeO.ite ?_ ?_)
  | (with_reducible refine LeO.bind ?_ (fun _ => ?_))
  | exact ih0 _ _ _ _ _ _ _ _
  | exact ih1 _ _ _ _ _ _ _ _ _
  | exact ih2 _ _ _ _
  | exact thalwegref06_Right.mono _ _ _
  | exact LeO.none _
  | refine LeO.ite ?_ ?_
  | refine LeO.bind ?_ (fun _ => ?_)
theorem thalwegref06_With.mono : ∀ a0 a1 a2 a3 k, LeO (thalwegref06_With.f k a0 a1 a2 a3) (thalwegref06_With.f (k + 1) a0 a1 a2 a3) := by
 intro a0 a1 a2 a3 k
 obtain ⟨ih0, ih1, ih2⟩ := thalwegref06_With.mono_l k
 unfold thalwegref06_With.f
 repeat' first
   | (with_reducible exact ih0 _ _ _ _ _ _ _ _)
   | (with_reducible exact ih1 _ _ _ _ _ _ _ _ _)
   | (with_reducible exact ih2 _ _ _ _)
   | (with_reducible exact thalwegref06_Right.mono _ _ _)
   | (with_reducible exact LeO.refl _)
   | (with_reducible exact LeO.none _)
   | (with_reducible refine LeO.ite ?_ ?_)
   | (with_reducible refine LeO.bind ?_ (fun _ => ?_))
   | exact ih0 _ _ _ _ _ _ _ _
   | exact ih1 _ _ _ _ _ _ _ _ _
   | exact ih2 _ _ _ _
   | exact thalwegref06_Right.mono _ _ _
   | exact LeO.none _
   | refine LeO.ite ?_ ?_
   | refine LeO.bind ?_ (fun _ => ?_)
def thalwegref06_With.T10 : Bool × List (List Nat × List Nat) := (true, [([], []), ([0], [0]), ([], []), ([2], [2]), ([], []), ([3, 4], [3, 4]), ([5], [5]), ([6], [6]), ([1, 7], [1, 7]), ([0, 1, 2, 3, 4, 5, 6, 7, 8], []), ([9, 8, 8, 0, 1, 2, 3, 4, 5, 6, 7, 8], [8, 9])])
def thalwegref06_With.B10 : List Nat := [0, 1, 0, 4, 0, 28, 60, 124, 255, 511, 1023]
theorem thalwegref06_With.tab10 : rtab .any (opsOf Try.f19 10) = thalwegref06_With.T10 := by kernel_rfl
theorem thalwegref06_With.bits10 : waitsOk thalwegref06_With.T10.2 thalwegref06_With.B10 = true := by kernel_rfl
theorem thalwegref06_With.calls (k : Nat) (a0_0 : Int) (A0_1 : Option Addr) (c0_1 : Nat) (l0_1 : List (S59)) (a1 : Int) (a2 : Int) (r1 : Int) (r2 : List (S59)) (r3 : Int) (w : World) (hr0_1 : Kd.C k59 w A0_1 l0_1.length l0_1) (hc0_1 : l0_1.length ≤ c0_1) (h : thalwegref06_With.f k a0_0 l0_1 a1 a2 = some (r1, r2, r3)) :
  Calls Try.prog 19 #[.agg #[.int .i64 a0_0, .slice A0_1 l0_1.length c0_1], .int .i64 a1, .int .i64 a2] w fun e w' => ∃ v1_ : Value, e = .returned (.tuple #[.agg #[.int .i64 r1, v1_], .int .i64 r3]) ∧ Kd.R k59 59 w' w.heap.size (fun _ => True) v1_ r2 ∧ Below w.heap.size w w' := by
 have hu25 := Try.underlying25
 have hu59 := Try.underlying59
 have HR0_1 := YL hr0_1; have HC0_1 := YL hc0_1; clear hr0_1 hc0_1
 have HB := YL (Below.refl w.heap.size w)
 have H : (thalwegref06_With.l0 k a1 a2 false 0 a0_0 l0_1 a0_0 ([] : List (S59))) = some (r1, r2, r3) := h
 clear h
 have H' := YL H
 clear H
 go_enter Try.func19, Try.ntmps19
 go_wp2_with (first | ((with_reducible refine gate_dst (N := 3) rfl ?_); refine box_event ?hg (N := 3) ?hd (cs := #[.int .i64 a0_0, .slice A0_1 l0_1.length c0_1]) (t := 25) ?hr ?_; (case hd => rfl); (case hg => rfl); (case hr => first | (go_simp; done) | (go_simp; rfl)); intro gb303 hg w4 hbox hb; have n0_ := YL (YD (by repeat (first | (with_reducible first | exact HB.out | apply YA | apply YB | apply YC) | exact HB.out)) hb); have n1_ := YL (hbox); have n2_ := YL ((by rw [hg]; exact (YE (by repeat (first | (with_reducible first | exact HB.out | apply YA | apply YB | apply YC) | exact HB.out))) : w.heap.size ≤ gb303)); have n3_ := YL ((by rw [hg]; exact (YE (by repeat (first | (with_reducible first | exact HB.out | apply YA | apply YB | apply YC) | exact HB.out))) : w.heap.size ≤ gb303)); clear HB; have HB := n0_; have BK303 := n1_; have GW303 := n2_; have GE303 := n3_; clear n0_ n1_ n2_ n3_; clear hb hbox hg) | ((with_reducible refine gate_dst (N := 6) rfl ?_); refine box_event ?hg (N := 6) ?hd (cs := #[.int .i64 0, .slice none 0 0]) (t := 25) ?hr ?_; (case hd => rfl); (case hg => rfl); (case hr => first | (go_simp; done) | (go_simp; rfl)); intro gb304 hg w5 hbox hb; have n0_ := YL (YK (g := gb303) (o := .cells #[.int .i64 a0_0, .slice A0_1 l0_1.length c0_1] 25 (0, 0)) (by (with_reducible repeat (first | refine YF ?_ _ | refine YG ?_ | refine YH ?_ _)); exact BK303.out) hb); have n1_ := YL (YD (by repeat (first | (with_reducible first | exact HB.out | apply YA | apply YB | apply YC | refine below_set ?_ GE303.out) | exact HB.out)) hb); have n2_ := YL (hbox); have n3_ := YL ((by rw [hg]; exact (YE (by repeat (first | (with_reducible first | exact HB.out | apply YA | apply YB | apply YC | refine below_set ?_ GE303.out) | exact HB.out))) : w.heap.size ≤ gb304)); have n4_ := YL ((by rw [hg]; exact (YE (by repeat (first | (with_reducible first | exact HB.out | apply YA | apply YB | apply YC | refine below_set ?_ GE303.out) | exact HB.out))) : w.heap.size ≤ gb304)); have n5_ := YL ((by rw [hg]; exact Nat.ne_of_lt (blk_lt (g := gb303) (o := .cells #[.int .i64 a0_0, .slice A0_1 l0_1.length c0_1] 25 (0, 0)) (by (with_reducible repeat (first | refine YF ?_ _ | refine YG ?_ | refine YH ?_ _)); exact BK303.out)) : gb303 ≠ gb304)); have n6_ := YL ((by rw [hg]; exact Nat.ne_of_gt (blk_lt (g := gb303) (o := .cells #[.int .i64 a0_0, .slice A0_1 l0_1.length c0_1] 25 (0, 0)) (by (with_reducible repeat (first | refine YF ?_ _ | refine YG ?_ | refine YH ?_ _)); exact BK303.out)) : gb304 ≠ gb303)); clear BK303; clear HB; have BK303 := n0_; have HB := n1_; have BK304 := n2_; have GW304 := n3_; have GE304 := n4_; have NB303_304 := n5_; have NB304_303 := n6_; clear n0_ n1_ n2_ n3_ n4_ n5_ n6_; clear hb hbox hg; have hnb6 := NB303_304.out; have hnc6 := NB304_303.out; have q7_0 : w5.cell? ⟨gb303, 0, none⟩ = some (.int .i64 a0_0) := (YI BK303.out 0).trans rfl; have q7_1 : w5.cell? ⟨gb303, 1, none⟩ = some (.slice A0_1 l0_1.length c0_1) := (YI BK303.out 1).trans rfl; have f7_0 := YJ BK303.out 0; have f7_1 := YJ BK303.out 1) | ((with_reducible refine gate_dst (N := 8) rfl ?_); refine box_event ?hg (N := 8) ?hd (cs := #[.int .i64 0, .slice none 0 0]) (t := 25) ?hr ?_; (case hd => rfl); (case hg => rfl); (case hr => first | (go_simp; done) | (go_simp; rfl)); intro gb305 hg w8 hbox hb; have n0_ := YL (YK (g := gb303) (o := .cells #[.int .i64 a0_0, .slice A0_1 l0_1.length c0_1] 25 (0, 0)) (by (with_reducible repeat (first | refine YF ?_ _ | refine YG ?_ | refine YH ?_ _)); exact BK303.out) hb); have n1_ := YL (YK (g := gb304) (o := .cells #[.int .i64 0, .slice none 0 0] 25 (0, 0)) (by (with_reducible repeat (first | refine YF ?_ _ | refine YG ?_ | refine YH ?_ _)); exact BK304.out) hb); have n2_ := YL (YD (by repeat (first | (with_reducible first | exact HB.out | apply YA | apply YB | apply YC | refine below_set ?_ GE303.out | refine below_set ?_ GE304.out) | exact HB.out)) hb); have n3_ := YL (hbox); have n4_ := YL ((by rw [hg]; exact (YE (by repeat (first | (with_reducible first | exact HB.out | apply YA | apply YB | apply YC | refine below_set ?_ GE303.out | refine below_set ?_ GE304.out) | exact HB.out))) : w.heap.size ≤ gb305)); have n5_ := YL ((by rw [hg]; exact (YE (by repeat (first | (with_reducible first | exact HB.out | apply YA | apply YB | apply YC | refine below_set ?_ GE303.out | refine below_set ?_ GE304.out) | exact HB.out))) : w.heap.size ≤ gb305)); have n6_ := YL ((by rw [hg]; exact Nat.ne_of_lt (blk_lt (g := gb303) (o := .cells #[.int .i64 a0_0, .slice A0_1 l0_1.length c0_1] 25 (0, 0)) (by (with_reducible repeat (first | refine YF ?_ _ | refine YG ?_ | refine YH ?_ _)); exact BK303.out)) : gb303 ≠ gb305)); have n7_ := YL ((by rw [hg]; exact Nat.ne_of_gt (blk_lt (g := gb303) (o := .cells #[.int .i64 a0_0, .slice A0_1 l0_1.length c0_1] 25 (0, 0)) (by (with_reducible repeat (first | refine YF ?_ _ | refine YG ?_ | refine YH ?_ _)); exact BK303.out)) : gb305 ≠ gb303)); have n8_ := YL ((by rw [hg]; exact Nat.ne_of_lt (blk_lt (g := gb304) (o := .cells #[.int .i64 0, .slice none 0 0] 25 (0, 0)) (by (with_reducible repeat (first | refine YF ?_ _ | refine YG ?_ | refine YH ?_ _)); exact BK304.out)) : gb304 ≠ gb305)); have n9_ := YL ((by rw [hg]; exact Nat.ne_of_gt (blk_lt (g := gb304) (o := .cells #[.int .i64 0, .slice none 0 0] 25 (0, 0)) (by (with_reducible repeat (first | refine YF ?_ _ | refine YG ?_ | refine YH ?_ _)); exact BK304.out)) : gb305 ≠ gb304)); clear BK303; clear BK304; clear HB; have BK303 := n0_; have BK304 := n1_; have HB := n2_; have BK305 := n3_; have GW305 := n4_; have GE305 := n5_; have NB303_305 := n6_; have NB305_303 := n7_; have NB304_305 := n8_; have NB305_304 := n9_; clear n0_ n1_ n2_ n3_ n4_ n5_ n6_ n7_ n8_ n9_; clear hb hbox hg; have hnb9 := NB305_303.out; have hnc9 := NB303_305.out; have hnb10 := NB305_304.out; have hnc10 := NB304_305.out; have q11_0 : w8.cell? ⟨gb305, 0, none⟩ = some (.int .i64 0) := (YI BK305.out 0).trans rfl; have q11_1 : w8.cell? ⟨gb305, 1, none⟩ = some (.slice none 0 0) := (YI BK305.out 1).trans rfl; have f11_0 := YJ BK305.out 0; have f11_1 := YJ BK305.out 1))
 go_loopg [9, 10] k (fun kq v9 v10 w' => ∃ (x9_1 : Bool) (x10_1 : Int) (x306001_1 : List (S59)) (u306001 : Value), v9 = .bool x9_1 ∧ v10 = .int .i64 x10_1 ∧ Aside0 (thalwegref06_With.l0 kq a1 a2 x9_1 x10_1 a0_0 l0_1 a0_0 x306001_1 = some (r1, r2, r3)) ∧ Aside0 (kq ≤ k) ∧ Aside0 (Kd.R k59 59 w' w.heap.size (fun _ => True) u306001 x306001_1) ∧ Aside0 (w'.heap[gb303]? = some (.cells #[.int .i64 a0_0, (.slice A0_1 l0_1.length c0_1)] 25 (0, 0))) ∧ Aside0 (w'.heap[gb304]? = some (.cells #[.int .i64 0, (.slice none 0 0)] 25 (0, 0))) ∧ Aside0 (w'.heap[gb305]? = some (.cells #[.int .i64 a0_0, u306001] 25 (0, 0))) ∧ Aside0 (Below w.heap.size w w'))
 case atStart => exact ⟨(false), (0), (([] : List (S59))), (.slice none 0 0), (by first | rfl | (simp; done) | (simp [*]; done)), (by first | rfl | (simp; done) | (simp [*]; done)), H', ⟨Nat.le_refl _⟩, ⟨by first | exact Kd.R_nil _ _ _ _ _ | exact Kd.N_nil _ _ _ _ _ | exact Kd.V_nil _ _ _ _ _ | exact Kd.Q_nil _ _ _ _ _ | exact Kd.S_nil _ _ _ _ _⟩, ⟨by (with_reducible repeat (first | refine YF ?_ _ | refine YG ?_ | refine YH ?_ _)); refine blk_far ?_ NB303_305.out _; (with_reducible repeat (first | refine YF ?_ _ | refine YG ?_ | refine YH ?_ _)); refine blk_far ?_ NB303_305.out _; (with_reducible repeat (first | refine YF ?_ _ | refine YG ?_ | refine YH ?_ _)); exact BK303.out⟩, ⟨by (with_reducible repeat (first | refine YF ?_ _ | refine YG ?_ | refine YH ?_ _)); refine blk_far ?_ NB304_305.out _; (with_reducible repeat (first | refine YF ?_ _ | refine YG ?_ | refine YH ?_ _)); refine blk_far ?_ NB304_305.out _; (with_reducible repeat (first | refine YF ?_ _ | refine YG ?_ | refine YH ?_ _)); exact BK304.out⟩, ⟨by (with_reducible repeat (first | refine YF ?_ _ | refine YG ?_ | refine YH ?_ _)); refine blk_put (cs := #[.int .i64 a0_0, .slice none 0 0]) ?_ 1 _ rfl; (with_reducible repeat (first | refine YF ?_ _ | refine YG ?_ | refine YH ?_ _)); refine blk_put (cs := #[.int .i64 0, .slice none 0 0]) ?_ 0 _ rfl; (with_reducible repeat (first | refine YF ?_ _ | refine YG ?_ | refine YH ?_ _)); exact BK305.out⟩, ⟨by repeat (first | (with_reducible first | exact HB.out | apply YA | apply YB | apply YC | refine below_set ?_ GE303.out | refine below_set ?_ GE304.out | refine below_set ?_ GE305.out) | exact HB.out)⟩⟩
 case round =>
  clear H'
  try clear c1; try clear p2
  try clear c6; try clear c9
  try clear c10; try clear q11_0
  try clear q11_1; try clear q7_0
  try clear q7_1; try clear f11_0
  try clear f11_1; try clear f7_0; try clear f7_1
  obtain ⟨x9_1, x10_1, x306001_1, u306001, rfl, rfl, HA, HK1, HO_306001, BK303, BK304, BK305, HB⟩ := hrel
  cases gk with
  | zero => exact absurd HA.out (by simp [thalwegref06_With.l0])
  | succ k1 =>
   have H := HA.out
   clear HA
   simp only [thalwegref06_With.l0] at H
   by_cases c12 : x10_1 < (l0_1.length : Int)
   ·rw [if_pos c12] at H
    have c12b0 : decide (x10_1 < (l0_1.length : Int)) = true := decide_eq_true c12
    clear c12; have HC13 := YL H; clear H
    have hnb14 := NB303_304.out
    have hnc14 := NB304_303.out
    have hnb15 := NB303_305.out
    have hnc15 := NB305_303.out
    have q16_0 : wr.cell? ⟨gb303, 0, none⟩ = some (.int .i64 a0_0) := (YI BK303.out 0).trans rfl
    have q16_1 : wr.cell? ⟨gb303, 1, none⟩ = some (.slice A0_1 l0_1.length c0_1) := (YI BK303.out 1).trans rfl
    have f16_0 := YJ BK303.out 0
    have f16_1 := YJ BK303.out 1
    go_upto_region 6 with (fail)
    go_cut [32] (fun v32 wc => ∃ (kq : Nat) (x32_12 : Bool), v32 = .bool x32_12 ∧ Aside0 (thalwegref06_With.j1 kq a1 a2 x9_1 x10_1 x32_12 a0_0 l0_1 a0_0 x306001_1 = some (r1, r2, r3)) ∧ Aside0 (kq ≤ k1) ∧ Aside0 (Kd.R k59 59 wc w.heap.size (fun _ => True) u306001 x306001_1) ∧ Aside0 (wc.heap[gb303]? = some (.cells #[.int .i64 a0_0, (.slice A0_1 l0_1.length c0_1)] 25 (0, 0))) ∧ Aside0 (wc.heap[gb304]? = some (.cells #[.int .i64 0, (.slice none 0 0)] 25 (0, 0))) ∧ Aside0 (wc.heap[gb305]? = some (.cells #[.int .i64 a0_0, u306001] 25 (0, 0))) ∧ Aside0 (Below w.heap.size w wc))
    case first =>
     have H := HC13.out
     clear HC13
     by_cases c17 : x9_1 = true
     ·subst c17
      have H1 : (thalwegref06_With.j1 k1 a1 a2 true x10_1 false a0_0 l0_1 a0_0 x306001_1) = some (r1, r2, r3) := by rw [if_pos rfl] at H; exact H
      clear H
      have H := H1
      clear H1
      have H' := YL H
      clear H
      go_wp2
      go_meet
      case rel => exact ⟨_, (false), (by first | rfl | (simp; done) | (simp [*]; done)), H', ⟨by have := HK1.out; first | omega | exact Nat.le_refl _⟩, ⟨by (with_reducible repeat (first | apply YP | apply YQ | apply YR)); exact HO_306001.out⟩, ⟨by (with_reducible repeat (first | refine YF ?_ _ | refine YG ?_ | refine YH ?_ _)); exact BK303.out⟩, ⟨by (with_reducible repeat (first | refine YF ?_ _ | refine YG ?_ | refine YH ?_ _)); exact BK304.out⟩, ⟨by (with_reducible repeat (first | refine YF ?_ _ | refine YG ?_ | refine YH ?_ _)); exact BK305.out⟩, ⟨by repeat (first | (with_reducible first | exact HB.out | apply YA | apply YB | apply YC | refine below_set ?_ GE303.out | refine below_set ?_ GE304.out | refine below_set ?_ GE305.out) | exact HB.out)⟩⟩
     replace c17 := Bool.eq_false_iff.mpr c17
     subst c17
     have H1 : (if 0 ≤ x10_1 then (thalwegref06_With.j1 k1 a1 a2 false x10_1 (decide (((rd_T59 l0_1 x10_1).f0) ≥ a1)) a0_0 l0_1 a0_0 x306001_1) else (none)) = some (r1, r2, r3) := by rw [if_neg (show ¬ (false = true) by decide)] at H; exact H
     clear H
     have H := H1
     clear H1
     by_cases c18 : 0 ≤ x10_1
     rotate_left
     ·rw [if_neg c18] at H
      exact absurd H (by simp)
     rw [if_pos c18] at H; have c18b0 : decide (0 ≤ x10_1) = true := decide_eq_true c18; clear c18
     (first | rw [c18b0] | (simp only [i64_w, i32_w]; rw [c18b0]) | rw [c18b1] | skip)
     have H' := YL H
     clear H
     have hnb19 := NB303_304.out
     have hnc19 := NB304_303.out
     have hnb20 := NB303_305.out
     have hnc20 := NB305_303.out
     have q21_0 : wr.cell? ⟨gb303, 0, none⟩ = some (.int .i64 a0_0) := (YI BK303.out 0).trans rfl
     have q21_1 : wr.cell? ⟨gb303, 1, none⟩ = some (.slice A0_1 l0_1.length c0_1) := (YI BK303.out 1).trans rfl
     have f21_0 := YJ BK303.out 0
     have f21_1 := YJ BK303.out 1
     have p306 : 0 ≤ (x10_1 : Int) := of_decide_eq_true (by first | (with_reducible assumption) | assumption)
     have q306 : x10_1 < (l0_1.length : Int) := of_decide_eq_true (by first | (with_reducible assumption) | assumption)
     obtain ⟨ad306, e306, hx306_0, hx306_1⟩ := at_T59 HR0_1.out x10_1 p306 q306
     cases e306
     replace hx306_0 := (HB.out.cell (World.block_lt_of_cell? w _ hx306_0)).trans hx306_0
     replace hx306_1 := (HB.out.cell (World.block_lt_of_cell? w _ hx306_1)).trans hx306_1
     replace p306 := eq_true p306
     replace q306 := eq_true q306
     go_wp2
     go_meet
     case rel => exact ⟨_, (decide (((rd_T59 l0_1 x10_1).f0) ≥ a1)), (by first | rfl | (simp; done) | (simp [*]; done)), H', ⟨by have := HK1.out; first | omega | exact Nat.le_refl _⟩, ⟨by (with_reducible repeat (first | apply YP | apply YQ | apply YR)); exact HO_306001.out⟩, ⟨by (with_reducible repeat (first | refine YF ?_ _ | refine YG ?_ | refine YH ?_ _)); exact BK303.out⟩, ⟨by (with_reducible repeat (first | refine YF ?_ _ | refine YG ?_ | refine YH ?_ _)); exact BK304.out⟩, ⟨by (with_reducible repeat (first | refine YF ?_ _ | refine YG ?_ | refine YH ?_ _)); exact BK305.out⟩, ⟨by repeat (first | (with_reducible first | exact HB.out | apply YA | apply YB | apply YC | refine below_set ?_ GE303.out | refine below_set ?_ GE304.out | refine below_set ?_ GE305.out) | exact HB.out)⟩⟩
    case rest =>
     clear HC13
     try clear c1; try clear c2
     try clear p2; try clear p3
     try clear q3; try clear hx3
     try clear c6; try clear c9
     try clear c10; try clear c12
     try clear c12b0; try clear c14
     try clear c15; try clear c17
     try clear c18; try clear c18b0
     try clear c19; try clear c20
     try clear q11_0; try clear q11_1
     try clear q16_0; try clear q16_1
     try clear q21_0; try clear q21_1
     try clear q7_0; try clear q7_1
     try clear f11_0; try clear f11_1
     try clear f16_0; try clear f16_1
     try clear f21_0; try clear f21_1
     try clear f7_0; try clear f7_1
     try clear hx306_0; try clear hx306_1
     try clear p2; try clear p306; try clear q306
     obtain ⟨kq, x32_12, rfl, HA, HJ12, HO_306001, BK303, BK304, BK305, HB⟩ := hcut
     cases kq with
     | zero => exact absurd HA.out (by simp [thalwegref06_With.j1])
     | succ kj12 =>
      have H := HA.out
      clear HA
      simp only [thalwegref06_With.j1] at H
      by_cases c22 : x32_12 = true
      ·subst c22
       have H1 : (if x306001_1.length < 8796093022208 then ((some (x306001_1 ++ [(⟨a1, a2⟩ : S59)] : List (S59))).bind fun y307 => (if 0 ≤ x10_1 then (if x10_1 < (l0_1.length : Int) then (if ((rd_T59 l0_1 x10_1).f0) = a1 then (thalwegref06_With.l0 kj12 a1 a2 true (wrap64 (x10_1 + 1)) a0_0 l0_1 a0_0 y307) else (if y307.length < 8796093022208 then (thalwegref06_With.l0 kj12 a1 a2 true (wrap64 (x10_1 + 1)) a0_0 l0_1 a0_0 (y307 ++ [(⟨(rd_T59 l0_1 x10_1).f0, (rd_T59 l0_1 x10_1).f1⟩ : S59)])) else (none))) else (none)) else (none))) else (none)) = some (r1, r2, r3) := by rw [if_pos rfl] at H; exact H
       clear H
       have H := H1
       clear H1
       by_cases c23 : x306001_1.length < 8796093022208
       rotate_left
       ·rw [if_neg c23] at H
        exact absurd H (by simp)
       rw [if_pos c23] at H; have LMc23 := YL c23; clear c23
       obtain ⟨y307, hy307⟩ : ∃ y_ : List (S59), y_ = (x306001_1 ++ [(⟨a1, a2⟩ : S59)]) := ⟨_, rfl⟩
       replace H : (if 0 ≤ x10_1 then (if x10_1 < (l0_1.length : Int) then (if ((rd_T59 l0_1 x10_1).f0) = a1 then (thalwegref06_With.l0 kj12 a1 a2 true (wrap64 (x10_1 + 1)) a0_0 l0_1 a0_0 y307) else (if y307.length < 8796093022208 then (thalwegref06_With.l0 kj12 a1 a2 true (wrap64 (x10_1 + 1)) a0_0 l0_1 a0_0 (y307 ++ [(⟨(rd_T59 l0_1 x10_1).f0, (rd_T59 l0_1 x10_1).f1⟩ : S59)])) else (none))) else (none)) else (none)) = some (r1, r2, r3) := by first | (rw [hy307]; with_reducible exact H) | (have H2_ := (Option.bind_some _ _).symm.trans H; rw [hy307]; with_reducible exact H2_) | (have H2_ := (Option.bind_some _ _).symm.trans H; with_reducible exact H2_) | with_reducible exact H | (rw [hy307]; exact H) | exact H
       have Ny307 := YL hy307; clear hy307
       by_cases c24 : 0 ≤ x10_1
       rotate_left
       ·rw [if_neg c24] at H
        exact absurd H (by simp)
       rw [if_pos c24] at H; have c24b0 : decide (0 ≤ x10_1) = true := decide_eq_true c24; clear c24
       by_cases c25 : x10_1 < (l0_1.length : Int)
       rotate_left
       ·rw [if_neg c25] at H
        exact absurd H (by simp)
       rw [if_pos c25] at H
       have c25b0 : decide (x10_1 < (l0_1.length : Int)) = true := decide_eq_true c25
       clear c25
       by_cases c26 : ((rd_T59 l0_1 x10_1).f0) = a1
       ·rw [if_pos c26] at H
        have c26b0 : (((rd_T59 l0_1 x10_1).f0) == a1) = true := beq_iff_eq.mpr c26
        have c26b1 : (((rd_T59 l0_1 x10_1).f0) != a1) = false := bne_eq_false_iff_eq.mpr c26
        clear c26
        have H' := YL H
        clear H
        have hnb27 := NB305_303.out
        have hnc27 := NB303_305.out
        have hnb28 := NB305_304.out
        have hnc28 := NB304_305.out
        have q29_0 : wc.cell? ⟨gb305, 0, none⟩ = some (.int .i64 a0_0) := (YI BK305.out 0).trans rfl
        have q29_1 : wc.cell? ⟨gb305, 1, none⟩ = some (u306001) := (YI BK305.out 1).trans rfl
        have f29_0 := YJ BK305.out 0
        have f29_1 := YJ BK305.out 1
        go_wp2_with (first | ((with_reducible refine gate_builtin (b := .append) (xs := #[.tmp 34, .tmp 38]) rfl ?_); at_builtin; refine Kd.R_append k59 (w0 := w) w.heap.size rfl (.tmp 34) (.tmp 38) 23 59 (.agg #[(.int .i64 0), (.int .i64 0)]) 16 rfl Try.underlying23 info59 rfl (by decide) (by omega) u306001 x306001_1 (⟨a1, a2⟩ : S59) [.int .i64 a1, .int .i64 a2] (fun _ => True) (fun _ => False) rfl rfl ?aP (fun _ hk => hk.elim) ?aF ?aO ?aB ?aS ?aL ?_; (case aP => exact k59_mkM _ _ _ (⟨a1, a2⟩ : S59)); (case aB => exact (by repeat (first | (with_reducible first | exact HB.out | apply YA | apply YB | apply YC | refine below_set ?_ GE303.out | refine below_set ?_ GE304.out | refine below_set ?_ GE305.out) | exact HB.out))); (case aF => exact (fun _ _ => trivial)); (case aO => exact (by (with_reducible repeat (first | apply YP | apply YQ | apply YR)); exact HO_306001.out)); (case aS => exact (YE (by repeat (first | (with_reducible first | exact HB.out | apply YA | apply YB | apply YC | refine below_set ?_ GE303.out | refine below_set ?_ GE304.out | refine below_set ?_ GE305.out) | exact HB.out)))); (case aL => have := LMc23.out; omega); intro v308 w30 ho hb hg hat; rw [← Ny307.out] at ho; have n0_ := YL (blk_grown (g := gb303) (o := .cells #[.int .i64 a0_0, .slice A0_1 l0_1.length c0_1] 25 (0, 0)) (by (with_reducible repeat (first | refine YF ?_ _ | refine YG ?_ | refine YH ?_ _)); exact BK303.out) hg (Kd.R_ne HO_306001.out BK303.out (by decide))); have n1_ := YL (blk_grown (g := gb304) (o := .cells #[.int .i64 0, .slice none 0 0] 25 (0, 0)) (by (with_reducible repeat (first | refine YF ?_ _ | refine YG ?_ | refine YH ?_ _)); exact BK304.out) hg (Kd.R_ne HO_306001.out BK304.out (by decide))); have n2_ := YL (blk_grown (g := gb305) (o := .cells #[.int .i64 a0_0, u306001] 25 (0, 0)) (by (with_reducible repeat (first | refine YF ?_ _ | refine YG ?_ | refine YH ?_ _)); exact BK305.out) hg (Kd.R_ne HO_306001.out BK305.out (by decide))); have n3_ := YL (hb); have n4_ := YL (ho); clear BK303; clear BK304; clear BK305; clear HB; clear HO_306001; have BK303 := n0_; have BK304 := n1_; have BK305 := n2_; have HB := n3_; have HO309 := n4_; clear n0_ n1_ n2_ n3_ n4_; clear ho hb hg hat; obtain ⟨Ao31, co31, eo31⟩ := Kd.R_slice HO309.out; subst eo31; have q32_0 : w30.cell? ⟨gb305, 0, none⟩ = some (.int .i64 a0_0) := (YI BK305.out 0).trans rfl; have q32_1 : w30.cell? ⟨gb305, 1, none⟩ = some (u306001) := (YI BK305.out 1).trans rfl; have f32_0 := YJ BK305.out 0; have f32_1 := YJ BK305.out 1; have hnb33 := NB303_304.out; have hnc33 := NB304_303.out; have q34_0 : w30.cell? ⟨gb303, 0, none⟩ = some (.int .i64 a0_0) := (YI BK303.out 0).trans rfl; have q34_1 : w30.cell? ⟨gb303, 1, none⟩ = some (.slice A0_1 l0_1.length c0_1) := (YI BK303.out 1).trans rfl; have f34_0 := YJ BK303.out 0; have f34_1 := YJ BK303.out 1; have p310 : 0 ≤ (x10_1 : Int) := of_decide_eq_true (by first | (with_reducible assumption) | assumption); have q310 : x10_1 < (l0_1.length : Int) := of_decide_eq_true (by first | (with_reducible assumption) | assumption); obtain ⟨ad310, e310, hx310_0, hx310_1⟩ := at_T59 HR0_1.out x10_1 p310 q310; cases e310; have hn310_0 : ad310.block ≠ gb305 := Nat.ne_of_lt (Nat.lt_of_lt_of_le (by have := World.block_lt_of_cell? _ _ hx310_0; first | rwa [add_block] at this | exact this) GW305.out); replace hx310_0 := (HB.out.cell (World.block_lt_of_cell? w _ hx310_0)).trans hx310_0; replace hx310_1 := (HB.out.cell (World.block_lt_of_cell? w _ hx310_1)).trans hx310_1; replace hx310_0 := (cell_far (p := ⟨gb305, 1, none⟩) (by first | (rw [add_block]; exact hn310_0) | (show (Addr.add _ _).block ≠ _; rw [add_block]; exact hn310_0) | exact hn310_0) (.slice Ao31 y307.length co31)).trans hx310_0; replace hx310_1 := (cell_far (p := ⟨gb305, 1, none⟩) (by first | (rw [add_block]; exact hn310_0) | (show (Addr.add _ _).block ≠ _; rw [add_block]; exact hn310_0) | exact hn310_0) (.slice Ao31 y307.length co31)).trans hx310_1; clear hn310_0; replace p310 := eq_true p310; replace q310 := eq_true q310))
        go_roundg kj12
        case measure => have := HK1.out; have := HJ12.out; omega
        case rel => exact ⟨(true), (wrap64 (x10_1 + 1)), (y307), (.slice Ao31 y307.length co31), (by first | rfl | (simp; done) | (simp [*]; done)), (by first | rfl | (simp; done) | (simp [*]; done)), H', ⟨by have := HK1.out; have := HJ12.out; omega⟩, ⟨by (with_reducible repeat (first | apply YP | apply YQ | apply YR)); exact Kd.R_mono (Kd.R_far (p := ⟨gb305, 1, none⟩) (Kd.R_types HO309.out BK305.out (by decide)) (fun _ hk => hk.2) (.slice Ao31 y307.length co31)) (fun _ hk => trivial)⟩, ⟨by (with_reducible repeat (first | refine YF ?_ _ | refine YG ?_ | refine YH ?_ _)); refine blk_far ?_ NB303_305.out _; (with_reducible repeat (first | refine YF ?_ _ | refine YG ?_ | refine YH ?_ _)); exact BK303.out⟩, ⟨by (with_reducible repeat (first | refine YF ?_ _ | refine YG ?_ | refine YH ?_ _)); refine blk_far ?_ NB304_305.out _; (with_reducible repeat (first | refine YF ?_ _ | refine YG ?_ | refine YH ?_ _)); exact BK304.out⟩, ⟨by (with_reducible repeat (first | refine YF ?_ _ | refine YG ?_ | refine YH ?_ _)); refine blk_put (cs := #[.int .i64 a0_0, u306001]) ?_ 1 _ rfl; (with_reducible repeat (first | refine YF ?_ _ | refine YG ?_ | refine YH ?_ _)); exact BK305.out⟩, ⟨by repeat (first | (with_reducible first | exact HB.out | apply YA | apply YB | apply YC | refine below_set ?_ GE303.out | refine below_set ?_ GE304.out | refine below_set ?_ GE305.out) | exact HB.out)⟩⟩
       rw [if_neg c26] at H
       have c26b0 : (((rd_T59 l0_1 x10_1).f0) == a1) = false := beq_eq_false_iff_ne.mpr c26
       have c26b1 : (((rd_T59 l0_1 x10_1).f0) != a1) = true := bne_iff_ne.mpr c26
       by_cases c35 : y307.length < 8796093022208
       rotate_left
       ·rw [if_neg c35] at H
        exact absurd H (by simp)
       rw [if_pos c35] at H; have LMc35 := YL c35; clear c35
       obtain ⟨y312, hy312⟩ : ∃ y_ : List (S59), y_ = (y307 ++ [(⟨(rd_T59 l0_1 x10_1).f0, (rd_T59 l0_1 x10_1).f1⟩ : S59)]) := ⟨_, rfl⟩
       replace H : (thalwegref06_With.l0 kj12 a1 a2 true (wrap64 (x10_1 + 1)) a0_0 l0_1 a0_0 y312) = some (r1, r2, r3) := by first | (rw [hy312]; with_reducible exact H) | (have H2_ := (Option.bind_some _ _).symm.trans H; rw [hy312]; with_reducible exact H2_) | (have H2_ := (Option.bind_some _ _).symm.trans H; with_reducible exact H2_) | with_reducible exact H | (rw [hy312]; exact H) | exact H
       have Ny312 := YL hy312; clear hy312
       have H' := YL H
       clear H
       have hnb36 := NB305_303.out
       have hnc36 := NB303_305.out
       have hnb37 := NB305_304.out
       have hnc37 := NB304_305.out
       have q38_0 : wc.cell? ⟨gb305, 0, none⟩ = some (.int .i64 a0_0) := (YI BK305.out 0).trans rfl
       have q38_1 : wc.cell? ⟨gb305, 1, none⟩ = some (u306001) := (YI BK305.out 1).trans rfl
       have f38_0 := YJ BK305.out 0
       have f38_1 := YJ BK305.out 1
       try go_wp2_with (first | ((with_reducible refine gate_builtin (b := .append) (xs := #[.tmp 34, .tmp 38]) rfl ?_); at_builtin; refine Kd.R_append k59 (w0 := w) w.heap.size rfl (.tmp 34) (.tmp 38) 23 59 (.agg #[(.int .i64 0), (.int .i64 0)]) 16 rfl Try.underlying23 info59 rfl (by decide) (by omega) u306001 x306001_1 (⟨a1, a2⟩ : S59) [.int .i64 a1, .int .i64 a2] (fun _ => True) (fun _ => False) rfl rfl ?aP (fun _ hk => hk.elim) ?aF ?aO ?aB ?aS ?aL ?_; (case aP => exact k59_mkM _ _ _ (⟨a1, a2⟩ : S59)); (case aB => exact (by repeat (first | (with_reducible first | exact HB.out | apply YA | apply YB | apply YC | refine below_set ?_ GE303.out | refine below_set ?_ GE304.out | refine below_set ?_ GE305.out) | exact HB.out))); (case aF => exact (fun _ _ => trivial)); (case aO => exact (by (with_reducible repeat (first | apply YP | apply YQ | apply YR)); exact HO_306001.out)); (case aS => exact (YE (by repeat (first | (with_reducible first | exact HB.out | apply YA | apply YB | apply YC | refine below_set ?_ GE303.out | refine below_set ?_ GE304.out | refine below_set ?_ GE305.out) | exact HB.out)))); (case aL => have := LMc23.out; omega); intro v308 w39 ho hb hg hat; rw [← Ny307.out] at ho; have n0_ := YL (blk_grown (g := gb303) (o := .cells #[.int .i64 a0_0, .slice A0_1 l0_1.length c0_1] 25 (0, 0)) (by (with_reducible repeat (first | refine YF ?_ _ | refine YG ?_ | refine YH ?_ _)); exact BK303.out) hg (Kd.R_ne HO_306001.out BK303.out (by decide))); have n1_ := YL (blk_grown (g := gb304) (o := .cells #[.int .i64 0, .slice none 0 0] 25 (0, 0)) (by (with_reducible repeat (first | refine YF ?_ _ | refine YG ?_ | refine YH ?_ _)); exact BK304.out) hg (Kd.R_ne HO_306001.out BK304.out (by decide))); have n2_ := YL (blk_grown (g := gb305) (o := .cells #[.int .i64 a0_0, u306001] 25 (0, 0)) (by (with_reducible repeat (first | refine YF ?_ _ | refine YG ?_ | refine YH ?_ _)); exact BK305.out) hg (Kd.R_ne HO_306001.out BK305.out (by decide))); have n3_ := YL (hb); have n4_ := YL (ho); clear BK303; clear BK304; clear BK305; clear HB; clear HO_306001; have BK303 := n0_; have BK304 := n1_; have BK305 := n2_; have HB := n3_; have HO309 := n4_; clear n0_ n1_ n2_ n3_ n4_; clear ho hb hg hat; obtain ⟨Ao40, co40, eo40⟩ := Kd.R_slice HO309.out; subst eo40; have q41_0 : w39.cell? ⟨gb305, 0, none⟩ = some (.int .i64 a0_0) := (YI BK305.out 0).trans rfl; have q41_1 : w39.cell? ⟨gb305, 1, none⟩ = some (u306001) := (YI BK305.out 1).trans rfl; have f41_0 := YJ BK305.out 0; have f41_1 := YJ BK305.out 1; have hnb42 := NB303_304.out; have hnc42 := NB304_303.out; have q43_0 : w39.cell? ⟨gb303, 0, none⟩ = some (.int .i64 a0_0) := (YI BK303.out 0).trans rfl; have q43_1 : w39.cell? ⟨gb303, 1, none⟩ = some (.slice A0_1 l0_1.length c0_1) := (YI BK303.out 1).trans rfl; have f43_0 := YJ BK303.out 0; have f43_1 := YJ BK303.out 1; have p310 : 0 ≤ (x10_1 : Int) := of_decide_eq_true (by first | (with_reducible assumption) | assumption); have q310 : x10_1 < (l0_1.length : Int) := of_decide_eq_true (by first | (with_reducible assumption) | assumption); obtain ⟨ad310, e310, hx310_0, hx310_1⟩ := at_T59 HR0_1.out x10_1 p310 q310; cases e310; have hn310_0 : ad310.block ≠ gb305 := Nat.ne_of_lt (Nat.lt_of_lt_of_le (by have := World.block_lt_of_cell? _ _ hx310_0; first | rwa [add_block] at this | exact this) GW305.out); replace hx310_0 := (HB.out.cell (World.block_lt_of_cell? w _ hx310_0)).trans hx310_0; replace hx310_1 := (HB.out.cell (World.block_lt_of_cell? w _ hx310_1)).trans hx310_1; replace hx310_0 := (cell_far (p := ⟨gb305, 1, none⟩) (by first | (rw [add_block]; exact hn310_0) | (show (Addr.add _ _).block ≠ _; rw [add_block]; exact hn310_0) | exact hn310_0) (.slice Ao40 y307.length co40)).trans hx310_0; replace hx310_1 := (cell_far (p := ⟨gb305, 1, none⟩) (by first | (rw [add_block]; exact hn310_0) | (show (Addr.add _ _).block ≠ _; rw [add_block]; exact hn310_0) | exact hn310_0) (.slice Ao40 y307.length co40)).trans hx310_1; clear hn310_0; replace p310 := eq_true p310; replace q310 := eq_true q310))
       have n0_ : Aside0 (Kd.R k59 59 (w39.setCell ⟨gb305, 1, none⟩ (.slice Ao40 y307.length co40)) w.heap.size (fun _ => True) (.slice Ao40 y307.length co40) y307) := ⟨by (with_reducible repeat (first | apply YP | apply YQ | apply YR)); exact Kd.R_mono (Kd.R_far (p := ⟨gb305, 1, none⟩) (Kd.R_types HO309.out BK305.out (by decide)) (fun _ hk => hk.2) (.slice Ao40 y307.length co40)) (fun _ hk => trivial)⟩
       have n1_ : Aside0 ((w39.setCell ⟨gb305, 1, none⟩ (.slice Ao40 y307.length co40)).heap[gb303]? = some (.cells #[.int .i64 a0_0, .slice (some ad310) l0_1.length c0_1] 25 (0, 0))) := ⟨by (with_reducible repeat (first | refine YF ?_ _ | refine YG ?_ | refine YH ?_ _)); refine blk_far ?_ NB303_305.out _; (with_reducible repeat (first | refine YF ?_ _ | refine YG ?_ | refine YH ?_ _)); exact BK303.out⟩
       have n2_ : Aside0 ((w39.setCell ⟨gb305, 1, none⟩ (.slice Ao40 y307.length co40)).heap[gb304]? = some (.cells #[.int .i64 0, .slice none 0 0] 25 (0, 0))) := ⟨by (with_reducible repeat (first | refine YF ?_ _ | refine YG ?_ | refine YH ?_ _)); refine blk_far ?_ NB304_305.out _; (with_reducible repeat (first | refine YF ?_ _ | refine YG ?_ | refine YH ?_ _)); exact BK304.out⟩
       have n3_ : Aside0 ((w39.setCell ⟨gb305, 1, none⟩ (.slice Ao40 y307.length co40)).heap[gb305]? = some (.cells #[.int .i64 a0_0, .slice Ao40 y307.length co40] 25 (0, 0))) := ⟨by (with_reducible repeat (first | refine YF ?_ _ | refine YG ?_ | refine YH ?_ _)); refine blk_put (cs := #[.int .i64 a0_0, u306001]) ?_ 1 _ rfl; (with_reducible repeat (first | refine YF ?_ _ | refine YG ?_ | refine YH ?_ _)); exact BK305.out⟩
       have n4_ : Aside0 (Below w.heap.size w (w39.setCell ⟨gb305, 1, none⟩ (.slice Ao40 y307.length co40))) := ⟨by repeat (first | (with_reducible first | exact HB.out | apply YA | apply YB | apply YC | refine below_set ?_ GE303.out | refine below_set ?_ GE304.out | refine below_set ?_ GE305.out) | exact HB.out)⟩
       (try clear HO309); (try clear BK303); (try clear BK304); (try clear BK305); (try clear HB)
       generalize (w39.setCell ⟨gb305, 1, none⟩ (.slice Ao40 y307.length co40)) = w44 at n0_ n1_ n2_ n3_ n4_ ⊢
       have HO309 := n0_; have BK303 := n1_; have BK304 := n2_; have BK305 := n3_; have HB := n4_; clear n0_ n1_ n2_ n3_ n4_
       have n0_ := YL (YR HO309.out)
       have n1_ := YL (YG BK303.out)
       have n2_ := YL (YG BK304.out)
       have n3_ := YL (YG BK305.out)
       have n4_ := YL (YC HB.out)
       clear HO309; clear BK303; clear BK304; clear BK305; clear HB; have HO309 := n0_; have BK303 := n1_; have BK304 := n2_; have BK305 := n3_; have HB := n4_; clear n0_ n1_ n2_ n3_ n4_
       have p311 : 0 ≤ (x10_1 : Int) := of_decide_eq_true (by first | (with_reducible assumption) | assumption)
       have q311 : x10_1 < (l0_1.length : Int) := of_decide_eq_true (by first | (with_reducible assumption) | assumption)
       obtain ⟨ad311, e311, hx311_0, hx311_1⟩ := at_T59 HR0_1.out x10_1 p311 q311
       have hw311_1 := hx311_1
       have hw311_0 := hx311_0
       obtain rfl : ad310 = ad311 := (by injection e311)
       replace hx311_0 := (HB.out.cell (World.block_lt_of_cell? w _ hx311_0)).trans hx311_0
       replace hx311_1 := (HB.out.cell (World.block_lt_of_cell? w _ hx311_1)).trans hx311_1
       replace p311 := eq_true p311
       replace q311 := eq_true q311
       refine start_ (n := 11) (S := fun w' => w'.cell? ⟨gb305, 0, none⟩ = some (.int .i64 a0_0) ∧ w'.cell? ⟨gb305, 1, none⟩ = some (.slice Ao40 y307.length co40) ∧ w'.cell? ⟨gb303, 0, none⟩ = some (.int .i64 a0_0) ∧ w'.cell? ⟨gb303, 1, none⟩ = some (.slice (some ad310) l0_1.length c0_1) ∧ w'.cell? (ad310.add ((x10_1).toNat * 2)) = some (.int .i64 ((rd_T59 l0_1 x10_1).f0)) ∧ w'.cell? ⟨(ad310.add ((x10_1).toNat * 2)).block, (ad310.add ((x10_1).toNat * 2)).off + 1, none⟩ = some (.int .i64 ((rd_T59 l0_1 x10_1).f1))) (ds := [10]) #[false, false, false, false, false, false, false, false, false, false, false] (by kernel_rfl) rfl rfl ⟨(YI BK305.out 0).trans rfl, (YI BK305.out 1).trans rfl, (YI BK303.out 0).trans rfl, (YI BK303.out 1).trans rfl, ((HB.out.cell (World.block_lt_of_cell? w _ hw311_0)).trans hw311_0), ((HB.out.cell (World.block_lt_of_cell? w _ hw311_1)).trans hw311_1)⟩ (fun hHeld => ?_); refine with_tabW thalwegref06_With.tab10 thalwegref06_With.bits10 (fun HT_ HW_ => ?_)
       generalize w44.drew = w45 at HO309 BK303 BK304 BK305 HB hx311_0 hx311_1 hHeld ⊢
       refine pure_ (i := 0) (N := some 49) (v := ?_) (a' := ?_) #[true, false, false, false, false, false, false, false, false, false, false] rfl rfl (any_of HT_.out (by kernel_rfl)) (fun _ _ _ h => h) (Or.inl ⟨by rfl, ?_⟩) ?_ ?_
       rotate_left
       ·intro w'
        go_simp; with_reducible rfl
       rotate_left
       ·simp only [Act.put, YM, YN, YO, i64_w, i32_w]
        rfl
       refine pure_ (i := 2) (N := some 51) (v := ?_) (a' := ?_) #[true, false, true, false, false, false, false, false, false, false, false] rfl rfl (any_of HT_.out (by kernel_rfl)) (fun _ _ _ h => h) (Or.inl ⟨by rfl, ?_⟩) ?_ ?_
       rotate_left
       ·intro w'
        go_simp; with_reducible rfl
       rotate_left
       ·simp only [Act.put, YM, YN, YO, i64_w, i32_w]
        rfl
       refine pure_ (i := 4) (N := some 53) (v := ?_) (a' := ?_) #[true, false, true, false, true, false, false, false, false, false, false] rfl rfl (any_of HT_.out (by kernel_rfl)) (fun _ _ _ h => h) (Or.inl ⟨by rfl, ?_⟩) ?_ ?_
       rotate_left
       ·intro w'
        go_simp; with_reducible rfl
       rotate_left
       ·simp only [Act.put, YM, YN, YO, i64_w, i32_w]
        rfl
       refine take_ (i := 1) (N := some 50) (v := ?_) (a' := ?_) #[true, true, true, false, true, false, false, false, false, false, false] rfl rfl (take_ofW HT_.out HW_.out (by kernel_rfl)) (fun _ _ _ h => h) (Or.inl ⟨by rfl, ?_⟩) hHeld ?_ ?_
       rotate_left
       ·rintro w' ⟨s0, s1, s2, s3, s4, s5⟩
        go_simp; with_reducible rfl
       rotate_left
       ·simp only [Act.put, YM, YN, YO, i64_w, i32_w]
        rfl
       refine take_ (i := 3) (N := some 52) (v := ?_) (a' := ?_) #[true, true, true, true, true, false, false, false, false, false, false] rfl rfl (take_ofW HT_.out HW_.out (by kernel_rfl)) (fun _ _ _ h => h) (Or.inl ⟨by rfl, ?_⟩) hHeld ?_ ?_
       rotate_left
       ·rintro w' ⟨s0, s1, s2, s3, s4, s5⟩
        go_simp; with_reducible rfl
       rotate_left
       ·simp only [Act.put, YM, YN, YO, i64_w, i32_w]
        rfl
       refine pure_ (i := 5) (N := some 54) (v := ?_) (a' := ?_) #[true, true, true, true, true, true, false, false, false, false, false] rfl rfl (any_of HT_.out (by kernel_rfl)) (fun _ _ _ h => h) (Or.inl ⟨by rfl, ?_⟩) ?_ ?_
       rotate_left
       ·intro w'
        go_simp; with_reducible rfl
       rotate_left
       ·simp only [Act.put, YM, YN, YO, i64_w, i32_w]
        rfl
       refine take_ (i := 6) (N := some 55) (v := ?_) (a' := ?_) #[true, true, true, true, true, true, true, false, false, false, false] rfl rfl (take_ofW HT_.out HW_.out (by kernel_rfl)) (fun _ _ _ h => h) (Or.inl ⟨by rfl, ?_⟩) hHeld ?_ ?_
       rotate_left
       ·rintro w' ⟨s0, s1, s2, s3, s4, s5⟩
        go_simp; with_reducible rfl
       rotate_left
       ·simp only [Act.put, YM, YN, YO, i64_w, i32_w]
        rfl
       refine one_ (i := 7) (N := some 56) #[true, true, true, true, true, true, true, true, false, false, false] rfl rfl (one_of HT_.out (by kernel_rfl)) (by decide) (fun K hK => ?_)
       refine value_ (w1 := ?_) (v := ?_) (by rfl) rfl ?_ ?_
       rotate_left 2
       ·go_simp
        constructor
        ·rfl
        rfl
       refine hK.out _ _ ⟨(YI (YH BK305.out _) 0).trans rfl, (YI (YH BK305.out _) 1).trans rfl, (YI (YH BK303.out _) 0).trans rfl, (YI (YH BK303.out _) 1).trans rfl, (World.cell?_alloc_lt _ _ _ (World.block_lt_of_cell? _ _ (((HB.out.cell (World.block_lt_of_cell? w _ hw311_0)).trans hw311_0)))).trans (((HB.out.cell (World.block_lt_of_cell? w _ hw311_0)).trans hw311_0)), (World.cell?_alloc_lt _ _ _ (World.block_lt_of_cell? _ _ (((HB.out.cell (World.block_lt_of_cell? w _ hw311_1)).trans hw311_1)))).trans (((HB.out.cell (World.block_lt_of_cell? w _ hw311_1)).trans hw311_1))⟩ (fun hHeld => ?_)
       clear hK K
       refine norm_ (a' := ?_) ?_ ?_
       rotate_left
       ·show Act.put _ (some 56) _ = _
        simp only [Act.put, YM, YN, YO, i64_w, i32_w]
        rfl
       refine one_ (i := 8) (N := some 57) #[true, true, true, true, true, true, true, true, true, false, false] rfl rfl (one_of HT_.out (by kernel_rfl)) (by decide) (fun K hK => ?_)
       refine Kd.R_append_step k59 (w0 := w) w.heap.size (by rfl) (.tmp 50) (.tmp 56) 23 59 (.agg #[(.int .i64 0), (.int .i64 0)]) 16 rfl Try.underlying23 info59 rfl (by decide) (by omega) (.slice Ao40 y307.length co40) y307 (⟨(rd_T59 l0_1 x10_1).f0, (rd_T59 l0_1 x10_1).f1⟩ : S59) [.int .i64 ((rd_T59 l0_1 x10_1).f0), .int .i64 ((rd_T59 l0_1 x10_1).f1)] (fun _ => True) (fun _ => False) rfl rfl ?aP (fun _ hk => hk.elim) ?aF ?aO ?aB ?aS ?aL ?_
       (case aP => exact k59_mkM _ _ _ (⟨(rd_T59 l0_1 x10_1).f0, (rd_T59 l0_1 x10_1).f1⟩ : S59))
       (case aB => exact (by repeat (first | (with_reducible first | exact HB.out | apply YA | apply YB | apply YC | refine below_set ?_ GE303.out | refine below_set ?_ GE304.out | refine below_set ?_ GE305.out) | exact HB.out)))
       (case aF => exact (fun _ _ => trivial))
       (case aO => exact (by (with_reducible repeat (first | apply YP | apply YQ | apply YR)); exact HO309.out))
       (case aS => exact (YE (by repeat (first | (with_reducible first | exact HB.out | apply YA | apply YB | apply YC | refine below_set ?_ GE303.out | refine below_set ?_ GE304.out | refine below_set ?_ GE305.out) | exact HB.out))))
       (case aL => have := LMc35.out; omega)
       intro v313 w46 ho hb hg hat
       rw [← Ny312.out] at ho
       have n0_ := YL (blk_grown (g := gb303) (o := .cells #[.int .i64 a0_0, .slice (some ad310) l0_1.length c0_1] 25 (0, 0)) (by (with_reducible repeat (first | refine YF ?_ _ | refine YG ?_ | refine YH ?_ _)); exact BK303.out) hg (Kd.R_ne HO309.out BK303.out (by decide)))
       have n1_ := YL (blk_grown (g := gb304) (o := .cells #[.int .i64 0, .slice none 0 0] 25 (0, 0)) (by (with_reducible repeat (first | refine YF ?_ _ | refine YG ?_ | refine YH ?_ _)); exact BK304.out) hg (Kd.R_ne HO309.out BK304.out (by decide)))
       have n2_ := YL (blk_grown (g := gb305) (o := .cells #[.int .i64 a0_0, .slice Ao40 y307.length co40] 25 (0, 0)) (by (with_reducible repeat (first | refine YF ?_ _ | refine YG ?_ | refine YH ?_ _)); exact BK305.out) hg (Kd.R_ne HO309.out BK305.out (by decide)))
       have n3_ := YL (hb)
       have n4_ := YL (ho)
       clear BK303; clear BK304; clear BK305; clear HB; clear HO309; have BK303 := n0_; have BK304 := n1_; have BK305 := n2_; have HB := n3_; have HO314 := n4_; clear n0_ n1_ n2_ n3_ n4_; clear ho hb hg hat
       obtain ⟨Ao47, co47, eo47⟩ := Kd.R_slice HO314.out
       (first | subst eo47 | (injection eo47 with f1_ f2_ f3_; have f4_ := f1_.symm; have f5_ := f3_.symm; clear f1_ f2_ f3_; subst f4_; subst f5_))
       refine hK.out _ _ ⟨(YI BK305.out 0).trans rfl, (YI BK305.out 1).trans rfl, (YI BK303.out 0).trans rfl, (YI BK303.out 1).trans rfl, ((HB.out.cell (World.block_lt_of_cell? w _ hw311_0)).trans hw311_0), ((HB.out.cell (World.block_lt_of_cell? w _ hw311_1)).trans hw311_1)⟩ (fun hHeld => ?_)
       clear hK K
       refine norm_ (a' := ?_) ?_ ?_
       rotate_left
       ·show Act.put _ (some 57) _ = _
        simp only [Act.put, YM, YN, YO, i64_w, i32_w]
        rfl
       refine pure_ (i := 9) (N := some 58) (v := ?_) (a' := ?_) #[true, true, true, true, true, true, true, true, true, true, false] rfl rfl (any_of HT_.out (by kernel_rfl)) (fun _ _ _ h => h) (Or.inl ⟨by rfl, ?_⟩) ?_ ?_
       rotate_left
       ·intro w'
        go_simp; with_reducible rfl
       rotate_left
       ·simp only [Act.put, YM, YN, YO, i64_w, i32_w]
        rfl
       refine last_ (i := 10) (N := none) #[true, true, true, true, true, true, true, true, true, true, true] rfl rfl (one_of HT_.out (by kernel_rfl)) (by decide) (fun K hK => ?_)
       have hs48 : w46.cell? ⟨gb305, 1, none⟩ = some (.slice Ao40 y307.length co40) := (YI BK305.out 1).trans rfl
       have hfs48 := YJ BK305.out 1
       have hns48_0 := NB303_305.out
       have hns48_1 := NB304_305.out
       have hms48_0 := NB305_303.out
       have hms48_1 := NB305_304.out
       refine skip_ (w1 := ?_) (by rfl) rfl ?_ ?_
       rotate_left
       ·go_simp
        rfl
       refine hK.out _ _ ?_
       clear hK K
       refine done_ (done_of HT_.out (by kernel_rfl)) ?_
       try go_wp2
       go_roundg kj12
       case measure => have := HK1.out; have := HJ12.out; omega
       case rel => exact ⟨(true), (wrap64 (x10_1 + 1)), (y312), (.slice Ao47 y312.length co47), (by first | rfl | (simp; done) | (simp [*]; done)), (by first | rfl | (simp; done) | (simp [*]; done)), H', ⟨by have := HK1.out; have := HJ12.out; omega⟩, ⟨by (with_reducible repeat (first | apply YP | apply YQ | apply YR)); exact Kd.R_mono (Kd.R_far (p := ⟨gb305, 1, none⟩) (Kd.R_types HO314.out BK305.out (by decide)) (fun _ hk => hk.2) (.slice Ao47 y312.length co47)) (fun _ hk => trivial)⟩, ⟨by (with_reducible repeat (first | refine YF ?_ _ | refine YG ?_ | refine YH ?_ _)); refine blk_far ?_ NB303_305.out _; (with_reducible repeat (first | refine YF ?_ _ | refine YG ?_ | refine YH ?_ _)); exact BK303.out⟩, ⟨by (with_reducible repeat (first | refine YF ?_ _ | refine YG ?_ | refine YH ?_ _)); refine blk_far ?_ NB304_305.out _; (with_reducible repeat (first | refine YF ?_ _ | refine YG ?_ | refine YH ?_ _)); exact BK304.out⟩, ⟨by (with_reducible repeat (first | refine YF ?_ _ | refine YG ?_ | refine YH ?_ _)); refine blk_put (cs := #[.int .i64 a0_0, .slice Ao40 y307.length co40]) ?_ 1 _ rfl; (with_reducible repeat (first | refine YF ?_ _ | refine YG ?_ | refine YH ?_ _)); exact BK305.out⟩, ⟨by repeat (first | (with_reducible first | exact HB.out | apply YA | apply YB | apply YC | refine below_set ?_ GE303.out | refine below_set ?_ GE304.out | refine below_set ?_ GE305.out) | exact HB.out)⟩⟩
      replace c22 := Bool.eq_false_iff.mpr c22
      subst c22
      have H1 : (if 0 ≤ x10_1 then (if x10_1 < (l0_1.length : Int) then (if ((rd_T59 l0_1 x10_1).f0) = a1 then (thalwegref06_With.l0 kj12 a1 a2 x9_1 (wrap64 (x10_1 + 1)) a0_0 l0_1 a0_0 x306001_1) else (if x306001_1.length < 8796093022208 then (thalwegref06_With.l0 kj12 a1 a2 x9_1 (wrap64 (x10_1 + 1)) a0_0 l0_1 a0_0 (x306001_1 ++ [(⟨(rd_T59 l0_1 x10_1).f0, (rd_T59 l0_1 x10_1).f1⟩ : S59)])) else (none))) else (none)) else (none)) = some (r1, r2, r3) := by rw [if_neg (show ¬ (false = true) by decide)] at H; exact H
      clear H
      have H := H1
      clear H1
      by_cases c49 : 0 ≤ x10_1
      rotate_left
      ·rw [if_neg c49] at H
       exact absurd H (by simp)
      rw [if_pos c49] at H; have c49b0 : decide (0 ≤ x10_1) = true := decide_eq_true c49; clear c49
      by_cases c50 : x10_1 < (l0_1.length : Int)
      rotate_left
      ·rw [if_neg c50] at H
       exact absurd H (by simp)
      rw [if_pos c50] at H
      have c50b0 : decide (x10_1 < (l0_1.length : Int)) = true := decide_eq_true c50
      clear c50
      by_cases c51 : ((rd_T59 l0_1 x10_1).f0) = a1
      ·rw [if_pos c51] at H
       have c51b0 : (((rd_T59 l0_1 x10_1).f0) == a1) = true := beq_iff_eq.mpr c51
       have c51b1 : (((rd_T59 l0_1 x10_1).f0) != a1) = false := bne_eq_false_iff_eq.mpr c51
       clear c51
       have H' := YL H
       clear H
       have hnb52 := NB303_304.out
       have hnc52 := NB304_303.out
       have hnb53 := NB303_305.out
       have hnc53 := NB305_303.out
       have q54_0 : wc.cell? ⟨gb303, 0, none⟩ = some (.int .i64 a0_0) := (YI BK303.out 0).trans rfl
       have q54_1 : wc.cell? ⟨gb303, 1, none⟩ = some (.slice A0_1 l0_1.length c0_1) := (YI BK303.out 1).trans rfl
       have f54_0 := YJ BK303.out 0
       have f54_1 := YJ BK303.out 1
       have p315 : 0 ≤ (x10_1 : Int) := of_decide_eq_true (by first | (with_reducible assumption) | assumption)
       have q315 : x10_1 < (l0_1.length : Int) := of_decide_eq_true (by first | (with_reducible assumption) | assumption)
       obtain ⟨ad315, e315, hx315_0, hx315_1⟩ := at_T59 HR0_1.out x10_1 p315 q315
       cases e315
       replace hx315_0 := (HB.out.cell (World.block_lt_of_cell? w _ hx315_0)).trans hx315_0
       replace hx315_1 := (HB.out.cell (World.block_lt_of_cell? w _ hx315_1)).trans hx315_1
       replace p315 := eq_true p315
       replace q315 := eq_true q315
       go_wp2
       go_roundg kj12
       case measure => have := HK1.out; have := HJ12.out; omega
       case rel => exact ⟨(x9_1), (wrap64 (x10_1 + 1)), (x306001_1), (u306001), (by first | rfl | (simp; done) | (simp [*]; done)), (by first | rfl | (simp; done) | (simp [*]; done)), H', ⟨by have := HK1.out; have := HJ12.out; omega⟩, ⟨by (with_reducible repeat (first | apply YP | apply YQ | apply YR)); exact HO_306001.out⟩, ⟨by (with_reducible repeat (first | refine YF ?_ _ | refine YG ?_ | refine YH ?_ _)); exact BK303.out⟩, ⟨by (with_reducible repeat (first | refine YF ?_ _ | refine YG ?_ | refine YH ?_ _)); exact BK304.out⟩, ⟨by (with_reducible repeat (first | refine YF ?_ _ | refine YG ?_ | refine YH ?_ _)); exact BK305.out⟩, ⟨by repeat (first | (with_reducible first | exact HB.out | apply YA | apply YB | apply YC | refine below_set ?_ GE303.out | refine below_set ?_ GE304.out | refine below_set ?_ GE305.out) | exact HB.out)⟩⟩
      rw [if_neg c51] at H
      have c51b0 : (((rd_T59 l0_1 x10_1).f0) == a1) = false := beq_eq_false_iff_ne.mpr c51
      have c51b1 : (((rd_T59 l0_1 x10_1).f0) != a1) = true := bne_iff_ne.mpr c51
      by_cases c55 : x306001_1.length < 8796093022208
      rotate_left
      ·rw [if_neg c55] at H
       exact absurd H (by simp)
      rw [if_pos c55] at H; have LMc55 := YL c55; clear c55
      obtain ⟨y317, hy317⟩ : ∃ y_ : List (S59), y_ = (x306001_1 ++ [(⟨(rd_T59 l0_1 x10_1).f0, (rd_T59 l0_1 x10_1).f1⟩ : S59)]) := ⟨_, rfl⟩
      replace H : (thalwegref06_With.l0 kj12 a1 a2 x9_1 (wrap64 (x10_1 + 1)) a0_0 l0_1 a0_0 y317) = some (r1, r2, r3) := by first | (rw [hy317]; with_reducible exact H) | (have H2_ := (Option.bind_some _ _).symm.trans H; rw [hy317]; with_reducible exact H2_) | (have H2_ := (Option.bind_some _ _).symm.trans H; with_reducible exact H2_) | with_reducible exact H | (rw [hy317]; exact H) | exact H
      have Ny317 := YL hy317; clear hy317
      have H' := YL H
      clear H
      have hnb56 := NB303_304.out
      have hnc56 := NB304_303.out
      have hnb57 := NB303_305.out
      have hnc57 := NB305_303.out
      have q58_0 : wc.cell? ⟨gb303, 0, none⟩ = some (.int .i64 a0_0) := (YI BK303.out 0).trans rfl
      have q58_1 : wc.cell? ⟨gb303, 1, none⟩ = some (.slice A0_1 l0_1.length c0_1) := (YI BK303.out 1).trans rfl
      have f58_0 := YJ BK303.out 0
      have f58_1 := YJ BK303.out 1
      have p315 : 0 ≤ (x10_1 : Int) := of_decide_eq_true (by first | (with_reducible assumption) | assumption)
      have q315 : x10_1 < (l0_1.length : Int) := of_decide_eq_true (by first | (with_reducible assumption) | assumption)
      obtain ⟨ad315, e315, hx315_0, hx315_1⟩ := at_T59 HR0_1.out x10_1 p315 q315
      cases e315
      replace hx315_0 := (HB.out.cell (World.block_lt_of_cell? w _ hx315_0)).trans hx315_0
      replace hx315_1 := (HB.out.cell (World.block_lt_of_cell? w _ hx315_1)).trans hx315_1
      replace p315 := eq_true p315
      replace q315 := eq_true q315
      try go_wp2
      have n0_ := YL (YR HO_306001.out)
      have n1_ := YL (YG BK303.out)
      have n2_ := YL (YG BK304.out)
      have n3_ := YL (YG BK305.out)
      have n4_ := YL (YC HB.out)
      clear HO_306001; clear BK303; clear BK304; clear BK305; clear HB; have HO_306001 := n0_; have BK303 := n1_; have BK304 := n2_; have BK305 := n3_; have HB := n4_; clear n0_ n1_ n2_ n3_ n4_
      have p316 : 0 ≤ (x10_1 : Int) := of_decide_eq_true (by first | (with_reducible assumption) | assumption)
      have q316 : x10_1 < (l0_1.length : Int) := of_decide_eq_true (by first | (with_reducible assumption) | assumption)
      obtain ⟨ad316, e316, hx316_0, hx316_1⟩ := at_T59 HR0_1.out x10_1 p316 q316
      have hw316_1 := hx316_1
      have hw316_0 := hx316_0
      obtain rfl : ad315 = ad316 := (by injection e316)
      replace hx316_0 := (HB.out.cell (World.block_lt_of_cell? w _ hx316_0)).trans hx316_0
      replace hx316_1 := (HB.out.cell (World.block_lt_of_cell? w _ hx316_1)).trans hx316_1
      replace p316 := eq_true p316
      replace q316 := eq_true q316
      refine start_ (n := 11) (S := fun w' => w'.cell? ⟨gb305, 0, none⟩ = some (.int .i64 a0_0) ∧ w'.cell? ⟨gb305, 1, none⟩ = some (u306001) ∧ w'.cell? ⟨gb303, 0, none⟩ = some (.int .i64 a0_0) ∧ w'.cell? ⟨gb303, 1, none⟩ = some (.slice (some ad315) l0_1.length c0_1) ∧ w'.cell? (ad315.add ((x10_1).toNat * 2)) = some (.int .i64 ((rd_T59 l0_1 x10_1).f0)) ∧ w'.cell? ⟨(ad315.add ((x10_1).toNat * 2)).block, (ad315.add ((x10_1).toNat * 2)).off + 1, none⟩ = some (.int .i64 ((rd_T59 l0_1 x10_1).f1))) (ds := [10]) #[false, false, false, false, false, false, false, false, false, false, false] (by kernel_rfl) rfl rfl ⟨(YI BK305.out 0).trans rfl, (YI BK305.out 1).trans rfl, (YI BK303.out 0).trans rfl, (YI BK303.out 1).trans rfl, ((HB.out.cell (World.block_lt_of_cell? w _ hw316_0)).trans hw316_0), ((HB.out.cell (World.block_lt_of_cell? w _ hw316_1)).trans hw316_1)⟩ (fun hHeld => ?_); refine with_tabW thalwegref06_With.tab10 thalwegref06_With.bits10 (fun HT_ HW_ => ?_)
      generalize wc.drew = w59 at HO_306001 BK303 BK304 BK305 HB hx316_0 hx316_1 hHeld ⊢
      refine pure_ (i := 0) (N := some 49) (v := ?_) (a' := ?_) #[true, false, false, false, false, false, false, false, false, false, false] rfl rfl (any_of HT_.out (by kernel_rfl)) (fun _ _ _ h => h) (Or.inl ⟨by rfl, ?_⟩) ?_ ?_
      rotate_left
      ·intro w'
       go_simp; with_reducible rfl
      rotate_left
      ·simp only [Act.put, YM, YN, YO, i64_w, i32_w]
       rfl
      refine pure_ (i := 2) (N := some 51) (v := ?_) (a' := ?_) #[true, false, true, false, false, false, false, false, false, false, false] rfl rfl (any_of HT_.out (by kernel_rfl)) (fun _ _ _ h => h) (Or.inl ⟨by rfl, ?_⟩) ?_ ?_
      rotate_left
      ·intro w'
       go_simp; with_reducible rfl
      rotate_left
      ·simp only [Act.put, YM, YN, YO, i64_w, i32_w]
       rfl
      refine pure_ (i := 4) (N := some 53) (v := ?_) (a' := ?_) #[true, false, true, false, true, false, false, false, false, false, false] rfl rfl (any_of HT_.out (by kernel_rfl)) (fun _ _ _ h => h) (Or.inl ⟨by rfl, ?_⟩) ?_ ?_
      rotate_left
      ·intro w'
       go_simp; with_reducible rfl
      rotate_left
      ·simp only [Act.put, YM, YN, YO, i64_w, i32_w]
       rfl
      refine take_ (i := 1) (N := some 50) (v := ?_) (a' := ?_) #[true, true, true, false, true, false, false, false, false, false, false] rfl rfl (take_ofW HT_.out HW_.out (by kernel_rfl)) (fun _ _ _ h => h) (Or.inl ⟨by rfl, ?_⟩) hHeld ?_ ?_
      rotate_left
      ·rintro w' ⟨s0, s1, s2, s3, s4, s5⟩
       go_simp; with_reducible rfl
      rotate_left
      ·simp only [Act.put, YM, YN, YO, i64_w, i32_w]
       rfl
      refine take_ (i := 3) (N := some 52) (v := ?_) (a' := ?_) #[true, true, true, true, true, false, false, false, false, false, false] rfl rfl (take_ofW HT_.out HW_.out (by kernel_rfl)) (fun _ _ _ h => h) (Or.inl ⟨by rfl, ?_⟩) hHeld ?_ ?_
      rotate_left
      ·rintro w' ⟨s0, s1, s2, s3, s4, s5⟩
       go_simp; with_reducible rfl
      rotate_left
      ·simp only [Act.put, YM, YN, YO, i64_w, i32_w]
       rfl
      refine pure_ (i := 5) (N := some 54) (v := ?_) (a' := ?_) #[true, true, true, true, true, true, false, false, false, false, false] rfl rfl (any_of HT_.out (by kernel_rfl)) (fun _ _ _ h => h) (Or.inl ⟨by rfl, ?_⟩) ?_ ?_
      rotate_left
      ·intro w'
       go_simp; with_reducible rfl
      rotate_left
      ·simp only [Act.put, YM, YN, YO, i64_w, i32_w]
       rfl
      refine take_ (i := 6) (N := some 55) (v := ?_) (a' := ?_) #[true, true, true, true, true, true, true, false, false, false, false] rfl rfl (take_ofW HT_.out HW_.out (by kernel_rfl)) (fun _ _ _ h => h) (Or.inl ⟨by rfl, ?_⟩) hHeld ?_ ?_
      rotate_left
      ·rintro w' ⟨s0, s1, s2, s3, s4, s5⟩
       go_simp; with_reducible rfl
      rotate_left
      ·simp only [Act.put, YM, YN, YO, i64_w, i32_w]
       rfl
      refine one_ (i := 7) (N := some 56) #[true, true, true, true, true, true, true, true, false, false, false] rfl rfl (one_of HT_.out (by kernel_rfl)) (by decide) (fun K hK => ?_)
      refine value_ (w1 := ?_) (v := ?_) (by rfl) rfl ?_ ?_
      rotate_left 2
      ·go_simp
       constructor
       ·rfl
       rfl
      refine hK.out _ _ ⟨(YI (YH BK305.out _) 0).trans rfl, (YI (YH BK305.out _) 1).trans rfl, (YI (YH BK303.out _) 0).trans rfl, (YI (YH BK303.out _) 1).trans rfl, (World.cell?_alloc_lt _ _ _ (World.block_lt_of_cell? _ _ (((HB.out.cell (World.block_lt_of_cell? w _ hw316_0)).trans hw316_0)))).trans (((HB.out.cell (World.block_lt_of_cell? w _ hw316_0)).trans hw316_0)), (World.cell?_alloc_lt _ _ _ (World.block_lt_of_cell? _ _ (((HB.out.cell (World.block_lt_of_cell? w _ hw316_1)).trans hw316_1)))).trans (((HB.out.cell (World.block_lt_of_cell? w _ hw316_1)).trans hw316_1))⟩ (fun hHeld => ?_)
      clear hK K
      refine norm_ (a' := ?_) ?_ ?_
      rotate_left
      ·show Act.put _ (some 56) _ = _
       simp only [Act.put, YM, YN, YO, i64_w, i32_w]
       rfl
      refine one_ (i := 8) (N := some 57) #[true, true, true, true, true, true, true, true, true, false, false] rfl rfl (one_of HT_.out (by kernel_rfl)) (by decide) (fun K hK => ?_)
      refine Kd.R_append_step k59 (w0 := w) w.heap.size (by rfl) (.tmp 50) (.tmp 56) 23 59 (.agg #[(.int .i64 0), (.int .i64 0)]) 16 rfl Try.underlying23 info59 rfl (by decide) (by omega) u306001 x306001_1 (⟨(rd_T59 l0_1 x10_1).f0, (rd_T59 l0_1 x10_1).f1⟩ : S59) [.int .i64 ((rd_T59 l0_1 x10_1).f0), .int .i64 ((rd_T59 l0_1 x10_1).f1)] (fun _ => True) (fun _ => False) rfl rfl ?aP (fun _ hk => hk.elim) ?aF ?aO ?aB ?aS ?aL ?_
      (case aP => exact k59_mkM _ _ _ (⟨(rd_T59 l0_1 x10_1).f0, (rd_T59 l0_1 x10_1).f1⟩ : S59))
      (case aB => exact (by repeat (first | (with_reducible first | exact HB.out | apply YA | apply YB | apply YC | refine below_set ?_ GE303.out | refine below_set ?_ GE304.out | refine below_set ?_ GE305.out) | exact HB.out)))
      (case aF => exact (fun _ _ => trivial))
      (case aO => exact (by (with_reducible repeat (first | apply YP | apply YQ | apply YR)); exact HO_306001.out))
      (case aS => exact (YE (by repeat (first | (with_reducible first | exact HB.out | apply YA | apply YB | apply YC | refine below_set ?_ GE303.out | refine below_set ?_ GE304.out | refine below_set ?_ GE305.out) | exact HB.out))))
      (case aL => have := LMc55.out; omega)
      intro v318 w60 ho hb hg hat
      rw [← Ny317.out] at ho
      have n0_ := YL (blk_grown (g := gb303) (o := .cells #[.int .i64 a0_0, .slice (some ad315) l0_1.length c0_1] 25 (0, 0)) (by (with_reducible repeat (first | refine YF ?_ _ | refine YG ?_ | refine YH ?_ _)); exact BK303.out) hg (Kd.R_ne HO_306001.out BK303.out (by decide)))
      have n1_ := YL (blk_grown (g := gb304) (o := .cells #[.int .i64 0, .slice none 0 0] 25 (0, 0)) (by (with_reducible repeat (first | refine YF ?_ _ | refine YG ?_ | refine YH ?_ _)); exact BK304.out) hg (Kd.R_ne HO_306001.out BK304.out (by decide)))
      have n2_ := YL (blk_grown (g := gb305) (o := .cells #[.int .i64 a0_0, u306001] 25 (0, 0)) (by (with_reducible repeat (first | refine YF ?_ _ | refine YG ?_ | refine YH ?_ _)); exact BK305.out) hg (Kd.R_ne HO_306001.out BK305.out (by decide)))
      have n3_ := YL (hb)
      have n4_ := YL (ho)
      clear BK303; clear BK304; clear BK305; clear HB; clear HO_306001; have BK303 := n0_; have BK304 := n1_; have BK305 := n2_; have HB := n3_; have HO319 := n4_; clear n0_ n1_ n2_ n3_ n4_; clear ho hb hg hat
      obtain ⟨Ao61, co61, eo61⟩ := Kd.R_slice HO319.out
      (first | subst eo61 | (injection eo61 with f1_ f2_ f3_; have f4_ := f1_.symm; have f5_ := f3_.symm; clear f1_ f2_ f3_; subst f4_; subst f5_))
      refine hK.out _ _ ⟨(YI BK305.out 0).trans rfl, (YI BK305.out 1).trans rfl, (YI BK303.out 0).trans rfl, (YI BK303.out 1).trans rfl, ((HB.out.cell (World.block_lt_of_cell? w _ hw316_0)).trans hw316_0), ((HB.out.cell (World.block_lt_of_cell? w _ hw316_1)).trans hw316_1)⟩ (fun hHeld => ?_)
      clear hK K
      refine norm_ (a' := ?_) ?_ ?_
      rotate_left
      ·show Act.put _ (some 57) _ = _
       simp only [Act.put, YM, YN, YO, i64_w, i32_w]
       rfl
      refine pure_ (i := 9) (N := some 58) (v := ?_) (a' := ?_) #[true, true, true, true, true, true, true, true, true, true, false] rfl rfl (any_of HT_.out (by kernel_rfl)) (fun _ _ _ h => h) (Or.inl ⟨by rfl, ?_⟩) ?_ ?_
      rotate_left
      ·intro w'
       go_simp; with_reducible rfl
      rotate_left
      ·simp only [Act.put, YM, YN, YO, i64_w, i32_w]
       rfl
      refine last_ (i := 10) (N := none) #[true, true, true, true, true, true, true, true, true, true, true] rfl rfl (one_of HT_.out (by kernel_rfl)) (by decide) (fun K hK => ?_)
      have hs62 : w60.cell? ⟨gb305, 1, none⟩ = some (u306001) := (YI BK305.out 1).trans rfl
      have hfs62 := YJ BK305.out 1
      have hns62_0 := NB303_305.out
      have hns62_1 := NB304_305.out
      have hms62_0 := NB305_303.out
      have hms62_1 := NB305_304.out
      refine skip_ (w1 := ?_) (by rfl) rfl ?_ ?_
      rotate_left
      ·go_simp
       rfl
      refine hK.out _ _ ?_
      clear hK K
      refine done_ (done_of HT_.out (by kernel_rfl)) ?_
      try go_wp2
      go_roundg kj12
      case measure => have := HK1.out; have := HJ12.out; omega
      case rel => exact ⟨(x9_1), (wrap64 (x10_1 + 1)), (y317), (.slice Ao61 y317.length co61), (by first | rfl | (simp; done) | (simp [*]; done)), (by first | rfl | (simp; done) | (simp [*]; done)), H', ⟨by have := HK1.out; have := HJ12.out; omega⟩, ⟨by (with_reducible repeat (first | apply YP | apply YQ | apply YR)); exact Kd.R_mono (Kd.R_far (p := ⟨gb305, 1, none⟩) (Kd.R_types HO319.out BK305.out (by decide)) (fun _ hk => hk.2) (.slice Ao61 y317.length co61)) (fun _ hk => trivial)⟩, ⟨by (with_reducible repeat (first | refine YF ?_ _ | refine YG ?_ | refine YH ?_ _)); refine blk_far ?_ NB303_305.out _; (with_reducible repeat (first | refine YF ?_ _ | refine YG ?_ | refine YH ?_ _)); exact BK303.out⟩, ⟨by (with_reducible repeat (first | refine YF ?_ _ | refine YG ?_ | refine YH ?_ _)); refine blk_far ?_ NB304_305.out _; (with_reducible repeat (first | refine YF ?_ _ | refine YG ?_ | refine YH ?_ _)); exact BK304.out⟩, ⟨by (with_reducible repeat (first | refine YF ?_ _ | refine YG ?_ | refine YH ?_ _)); refine blk_put (cs := #[.int .i64 a0_0, u306001]) ?_ 1 _ rfl; (with_reducible repeat (first | refine YF ?_ _ | refine YG ?_ | refine YH ?_ _)); exact BK305.out⟩, ⟨by repeat (first | (with_reducible first | exact HB.out | apply YA | apply YB | apply YC | refine below_set ?_ GE303.out | refine below_set ?_ GE304.out | refine below_set ?_ GE305.out) | exact HB.out)⟩⟩
   rw [if_neg c12] at H
   have c12b0 : decide (x10_1 < (l0_1.length : Int)) = false := decide_eq_false c12
   clear c12; have HC63 := YL H; clear H
   have hnb64 := NB303_304.out
   have hnc64 := NB304_303.out
   have hnb65 := NB303_305.out
   have hnc65 := NB305_303.out
   have q66_0 : wr.cell? ⟨gb303, 0, none⟩ = some (.int .i64 a0_0) := (YI BK303.out 0).trans rfl
   have q66_1 : wr.cell? ⟨gb303, 1, none⟩ = some (.slice A0_1 l0_1.length c0_1) := (YI BK303.out 1).trans rfl
   have f66_0 := YJ BK303.out 0
   have f66_1 := YJ BK303.out 1
   go_upto_if 60 with (fail)
   go_cut [] (fun wc => ∃ (kq : Nat) (x306001_62 : List (S59)) (u306001 : Value), Aside0 (thalwegref06_With.j2 kq a0_0 l0_1 a0_0 x306001_62 = some (r1, r2, r3)) ∧ Aside0 (kq ≤ k1) ∧ Aside0 (Kd.R k59 59 wc w.heap.size (fun _ => True) u306001 x306001_62) ∧ Aside0 (wc.heap[gb303]? = some (.cells #[.int .i64 a0_0, (.slice A0_1 l0_1.length c0_1)] 25 (0, 0))) ∧ Aside0 (wc.heap[gb304]? = some (.cells #[.int .i64 0, (.slice none 0 0)] 25 (0, 0))) ∧ Aside0 (wc.heap[gb305]? = some (.cells #[.int .i64 a0_0, u306001] 25 (0, 0))) ∧ Aside0 (Below w.heap.size w wc))
   case first =>
    have H := HC63.out
    clear HC63
    by_cases c67 : x9_1 = true
    ·subst c67
     have H1 : (thalwegref06_With.j2 k1 a0_0 l0_1 a0_0 x306001_1) = some (r1, r2, r3) := by rw [if_pos rfl] at H; exact H
     clear H
     have H := H1
     clear H1
     have H' := YL H
     clear H
     go_wp2
     go_meet
     case rel => exact ⟨_, (x306001_1), (u306001), H', ⟨by have := HK1.out; first | omega | exact Nat.le_refl _⟩, ⟨by (with_reducible repeat (first | apply YP | apply YQ | apply YR)); exact HO_306001.out⟩, ⟨by (with_reducible repeat (first | refine YF ?_ _ | refine YG ?_ | refine YH ?_ _)); exact BK303.out⟩, ⟨by (with_reducible repeat (first | refine YF ?_ _ | refine YG ?_ | refine YH ?_ _)); exact BK304.out⟩, ⟨by (with_reducible repeat (first | refine YF ?_ _ | refine YG ?_ | refine YH ?_ _)); exact BK305.out⟩, ⟨by repeat (first | (with_reducible first | exact HB.out | apply YA | apply YB | apply YC | refine below_set ?_ GE303.out | refine below_set ?_ GE304.out | refine below_set ?_ GE305.out) | exact HB.out)⟩⟩
    replace c67 := Bool.eq_false_iff.mpr c67
    subst c67
    have H1 : (if x306001_1.length < 8796093022208 then (thalwegref06_With.j2 k1 a0_0 l0_1 a0_0 (x306001_1 ++ [(⟨a1, a2⟩ : S59)])) else (none)) = some (r1, r2, r3) := by rw [if_neg (show ¬ (false = true) by decide)] at H; exact H
    clear H
    have H := H1
    clear H1
    by_cases c68 : x306001_1.length < 8796093022208
    rotate_left
    ·rw [if_neg c68] at H
     exact absurd H (by simp)
    rw [if_pos c68] at H; have LMc68 := YL c68; clear c68
    obtain ⟨y320, hy320⟩ : ∃ y_ : List (S59), y_ = (x306001_1 ++ [(⟨a1, a2⟩ : S59)]) := ⟨_, rfl⟩
    replace H : (thalwegref06_With.j2 k1 a0_0 l0_1 a0_0 y320) = some (r1, r2, r3) := by first | (rw [hy320]; with_reducible exact H) | (have H2_ := (Option.bind_some _ _).symm.trans H; rw [hy320]; with_reducible exact H2_) | (have H2_ := (Option.bind_some _ _).symm.trans H; with_reducible exact H2_) | with_reducible exact H | (rw [hy320]; exact H) | exact H
    have Ny320 := YL hy320; clear hy320
    have H' := YL H
    clear H
    have hnb69 := NB305_303.out
    have hnc69 := NB303_305.out
    have hnb70 := NB305_304.out
    have hnc70 := NB304_305.out
    have q71_0 : wr.cell? ⟨gb305, 0, none⟩ = some (.int .i64 a0_0) := (YI BK305.out 0).trans rfl
    have q71_1 : wr.cell? ⟨gb305, 1, none⟩ = some (u306001) := (YI BK305.out 1).trans rfl
    have f71_0 := YJ BK305.out 0
    have f71_1 := YJ BK305.out 1
    go_wp2_with (first | ((with_reducible refine gate_builtin (b := .append) (xs := #[.tmp 62, .tmp 66]) rfl ?_); at_builtin; refine Kd.R_append k59 (w0 := w) w.heap.size rfl (.tmp 62) (.tmp 66) 23 59 (.agg #[(.int .i64 0), (.int .i64 0)]) 16 rfl Try.underlying23 info59 rfl (by decide) (by omega) u306001 x306001_1 (⟨a1, a2⟩ : S59) [.int .i64 a1, .int .i64 a2] (fun _ => True) (fun _ => False) rfl rfl ?aP (fun _ hk => hk.elim) ?aF ?aO ?aB ?aS ?aL ?_; (case aP => exact k59_mkM _ _ _ (⟨a1, a2⟩ : S59)); (case aB => exact (by repeat (first | (with_reducible first | exact HB.out | apply YA | apply YB | apply YC | refine below_set ?_ GE303.out | refine below_set ?_ GE304.out | refine below_set ?_ GE305.out) | exact HB.out))); (case aF => exact (fun _ _ => trivial)); (case aO => exact (by (with_reducible repeat (first | apply YP | apply YQ | apply YR)); exact HO_306001.out)); (case aS => exact (YE (by repeat (first | (with_reducible first | exact HB.out | apply YA | apply YB | apply YC | refine below_set ?_ GE303.out | refine below_set ?_ GE304.out | refine below_set ?_ GE305.out) | exact HB.out)))); (case aL => have := LMc68.out; omega); intro v321 w72 ho hb hg hat; rw [← Ny320.out] at ho; have n0_ := YL (blk_grown (g := gb303) (o := .cells #[.int .i64 a0_0, .slice A0_1 l0_1.length c0_1] 25 (0, 0)) (by (with_reducible repeat (first | refine YF ?_ _ | refine YG ?_ | refine YH ?_ _)); exact BK303.out) hg (Kd.R_ne HO_306001.out BK303.out (by decide))); have n1_ := YL (blk_grown (g := gb304) (o := .cells #[.int .i64 0, .slice none 0 0] 25 (0, 0)) (by (with_reducible repeat (first | refine YF ?_ _ | refine YG ?_ | refine YH ?_ _)); exact BK304.out) hg (Kd.R_ne HO_306001.out BK304.out (by decide))); have n2_ := YL (blk_grown (g := gb305) (o := .cells #[.int .i64 a0_0, u306001] 25 (0, 0)) (by (with_reducible repeat (first | refine YF ?_ _ | refine YG ?_ | refine YH ?_ _)); exact BK305.out) hg (Kd.R_ne HO_306001.out BK305.out (by decide))); have n3_ := YL (hb); have n4_ := YL (ho); clear BK303; clear BK304; clear BK305; clear HB; clear HO_306001; have BK303 := n0_; have BK304 := n1_; have BK305 := n2_; have HB := n3_; have HO322 := n4_; clear n0_ n1_ n2_ n3_ n4_; clear ho hb hg hat; obtain ⟨Ao73, co73, eo73⟩ := Kd.R_slice HO322.out; subst eo73; have q74_0 : w72.cell? ⟨gb305, 0, none⟩ = some (.int .i64 a0_0) := (YI BK305.out 0).trans rfl; have q74_1 : w72.cell? ⟨gb305, 1, none⟩ = some (u306001) := (YI BK305.out 1).trans rfl; have f74_0 := YJ BK305.out 0; have f74_1 := YJ BK305.out 1))
    go_meet
    case rel => exact ⟨_, (y320), (.slice Ao73 y320.length co73), H', ⟨by have := HK1.out; first | omega | exact Nat.le_refl _⟩, ⟨by (with_reducible repeat (first | apply YP | apply YQ | apply YR)); exact Kd.R_mono (Kd.R_far (p := ⟨gb305, 1, none⟩) (Kd.R_types HO322.out BK305.out (by decide)) (fun _ hk => hk.2) (.slice Ao73 y320.length co73)) (fun _ hk => trivial)⟩, ⟨by (with_reducible repeat (first | refine YF ?_ _ | refine YG ?_ | refine YH ?_ _)); refine blk_far ?_ NB303_305.out _; (with_reducible repeat (first | refine YF ?_ _ | refine YG ?_ | refine YH ?_ _)); exact BK303.out⟩, ⟨by (with_reducible repeat (first | refine YF ?_ _ | refine YG ?_ | refine YH ?_ _)); refine blk_far ?_ NB304_305.out _; (with_reducible repeat (first | refine YF ?_ _ | refine YG ?_ | refine YH ?_ _)); exact BK304.out⟩, ⟨by (with_reducible repeat (first | refine YF ?_ _ | refine YG ?_ | refine YH ?_ _)); refine blk_put (cs := #[.int .i64 a0_0, u306001]) ?_ 1 _ rfl; (with_reducible repeat (first | refine YF ?_ _ | refine YG ?_ | refine YH ?_ _)); exact BK305.out⟩, ⟨by repeat (first | (with_reducible first | exact HB.out | apply YA | apply YB | apply YC | refine below_set ?_ GE303.out | refine below_set ?_ GE304.out | refine below_set ?_ GE305.out) | exact HB.out)⟩⟩
   case rest =>
    clear HC63
    try clear c1; try clear c2
    try clear p2; try clear c3
    try clear p3; try clear q3
    try clear hx3; try clear c4
    try clear c5; try clear c6
    try clear p6; try clear c7
    try clear c9; try clear c10
    try clear c12; try clear c12b0
    try clear c14; try clear c15
    try clear c17; try clear c18
    try clear c18b0; try clear c19
    try clear c20; try clear c22
    try clear c23; try clear c24
    try clear c24b0; try clear c25
    try clear c25b0; try clear c26
    try clear c26b0; try clear c26b1
    try clear c27; try clear c28
    try clear p30; try clear q30
    try clear hx30; try clear p31
    try clear q31; try clear hx31
    try clear c33; try clear c35
    try clear c36; try clear c37
    try clear c42; try clear c49
    try clear c49b0; try clear c50
    try clear c50b0; try clear c51
    try clear c51b0; try clear c51b1
    try clear c52; try clear c53
    try clear c55; try clear c56
    try clear c57; try clear c64
    try clear p64; try clear c65
    try clear c67; try clear c68
    try clear c69; try clear c70
    try clear q11_0; try clear q11_1
    try clear q16_0; try clear q16_1
    try clear q21_0; try clear q21_1
    try clear q29_0; try clear q29_1
    try clear q32_0; try clear q32_1
    try clear q34_0; try clear q34_1
    try clear q38_0; try clear q38_1
    try clear q41_0; try clear q41_1
    try clear q43_0; try clear q43_1
    try clear q54_0; try clear q54_1
    try clear q58_0; try clear q58_1
    try clear q66_0; try clear q66_1
    try clear q71_0; try clear q71_1
    try clear q74_0; try clear q74_1
    try clear q7_0; try clear q7_1
    try clear f11_0; try clear f11_1
    try clear f16_0; try clear f16_1
    try clear f21_0; try clear f21_1
    try clear f29_0; try clear f29_1
    try clear f32_0; try clear f32_1
    try clear f34_0; try clear f34_1
    try clear f38_0; try clear f38_1
    try clear f41_0; try clear f41_1
    try clear f43_0; try clear f43_1
    try clear f54_0; try clear f54_1
    try clear f58_0; try clear f58_1
    try clear f66_0; try clear f66_1
    try clear f71_0; try clear f71_1
    try clear f74_0; try clear f74_1
    try clear f7_0; try clear f7_1
    try clear hx306_0; try clear hx306_1
    try clear hx310_0; try clear hx310_1
    try clear hx311_0; try clear hx311_1
    try clear hx315_0; try clear hx315_1
    try clear hx316_0; try clear hx316_1
    try clear p2; try clear p3
    try clear p306; try clear p310
    try clear p311; try clear p315
    try clear p316; try clear q3
    try clear q306; try clear q310
    try clear q311; try clear q315; try clear q316
    obtain ⟨kq, x306001_62, u306001, HA, HJ62, HO_306001, BK303, BK304, BK305, HB⟩ := hcut
    cases kq with
    | zero => exact absurd HA.out (by simp [thalwegref06_With.j2])
    | succ kj62 =>
     have H := HA.out
     clear HA
     simp only [thalwegref06_With.j2] at H
     replace H := Option.bind_eq_some_iff.mp H; obtain ⟨t323, A750, H⟩ := H
     replace H : (if t323 = true then ((thalwegref06_Right.f kj62 a0_0 x306001_62).bind fun t324 => (if t324 = true then (some (a0_0, x306001_62, 0)) else (some (0, ([] : List (S59)), 1)))) else (some (0, ([] : List (S59)), 1))) = some (r1, r2, r3) := H
     have A75 := YL A750; clear A750
     by_cases c76 : t323 = true
     ·subst c76
      have H1 : ((thalwegref06_Right.f kj62 a0_0 x306001_62).bind fun t324 => (if t324 = true then (some (a0_0, x306001_62, 0)) else (some (0, ([] : List (S59)), 1)))) = some (r1, r2, r3) := by rw [if_pos rfl] at H; exact H
      clear H
      have H := H1
      clear H1; replace H := Option.bind_eq_some_iff.mp H; obtain ⟨t324, A770, H⟩ := H
      replace H : (if t324 = true then (some (a0_0, x306001_62, 0)) else (some (0, ([] : List (S59)), 1))) = some (r1, r2, r3) := H
      have A77 := YL A770; clear A770
      by_cases c78 : t324 = true
      ·subst c78
       have H1 : (some (a0_0, x306001_62, 0)) = some (r1, r2, r3) := by rw [if_pos rfl] at H; exact H
       clear H
       have H := H1
       clear H1
       simp only [Option.some.injEq, Prod.mk.injEq] at H
       obtain ⟨rfl, rfl, rfl⟩ := H
       have hnb79 := NB303_304.out
       have hnc79 := NB304_303.out
       have hnb80 := NB303_305.out
       have hnc80 := NB305_303.out
       have q81_0 : wc.cell? ⟨gb303, 0, none⟩ = some (.int .i64 a0_0) := (YI BK303.out 0).trans rfl
       have q81_1 : wc.cell? ⟨gb303, 1, none⟩ = some (.slice A0_1 l0_1.length c0_1) := (YI BK303.out 1).trans rfl
       have f81_0 := YJ BK303.out 0
       have f81_1 := YJ BK303.out 1
       go_wp2_with (first | ((with_reducible refine gate_callee (f := 23) rfl ?_); refine goesL_ (some 70) rfl rfl Try.func23 (by kernel_rfl) rfl #[.agg #[.int .i64 a0_0, .slice A0_1 l0_1.length c0_1]] rfl (by (try simp only [List.map_toArray, List.map_cons, List.map_nil]); first | done | rfl | (simp only [List.length_drop, List.length_take]; rfl)) ?_; (with_reducible refine (thalwegref06_Right.calls kj62 a0_0 _ _ l0_1 true _ ?side1 ?side2 A75.out).mono ?_); (case side1 => repeat (first | exact (Kd.C_below HR0_1.out HB.out) | (with_reducible refine Kd.C_alloc ?_ _) | (with_reducible refine Kd.C_drewN ?_ _) | (with_reducible refine Kd.C_drew ?_))); (case side2 => exact HC0_1.out); rintro e w82 ⟨rfl, hb⟩; refine ⟨_, rfl, ?_⟩; have n0_ := YL (YS (by (with_reducible repeat (first | apply YP | apply YQ | apply YR)); exact HO_306001.out) hb); have n1_ := YL (YK (g := gb303) (o := .cells #[.int .i64 a0_0, .slice A0_1 l0_1.length c0_1] 25 (0, 0)) (by (with_reducible repeat (first | refine YF ?_ _ | refine YG ?_ | refine YH ?_ _)); exact BK303.out) hb); have n2_ := YL (YK (g := gb304) (o := .cells #[.int .i64 0, .slice none 0 0] 25 (0, 0)) (by (with_reducible repeat (first | refine YF ?_ _ | refine YG ?_ | refine YH ?_ _)); exact BK304.out) hb); have n3_ := YL (YK (g := gb305) (o := .cells #[.int .i64 a0_0, u306001] 25 (0, 0)) (by (with_reducible repeat (first | refine YF ?_ _ | refine YG ?_ | refine YH ?_ _)); exact BK305.out) hb); have n4_ := YL (YD (by repeat (first | (with_reducible first | exact HB.out | apply YA | apply YB | apply YC | refine below_set ?_ GE303.out | refine below_set ?_ GE304.out | refine below_set ?_ GE305.out) | exact HB.out)) hb); clear HO_306001; clear BK303; clear BK304; clear BK305; clear HB; have HO_306001 := n0_; have BK303 := n1_; have BK304 := n2_; have BK305 := n3_; have HB := n4_; clear n0_ n1_ n2_ n3_ n4_; (try clear hb); (try clear hb2); (try clear hk); (try clear hi); have hnb83 := NB305_304.out; have hnc83 := NB304_305.out; have q84_0 : w82.cell? ⟨gb305, 0, none⟩ = some (.int .i64 a0_0) := (YI BK305.out 0).trans rfl; have q84_1 : w82.cell? ⟨gb305, 1, none⟩ = some (u306001) := (YI BK305.out 1).trans rfl; have f84_0 := YJ BK305.out 0; have f84_1 := YJ BK305.out 1; obtain ⟨Ao85, co85, eo85⟩ := Kd.R_slice HO_306001.out; subst eo85) | (go_at_call 23; (with_reducible refine (thalwegref06_Right.calls kj62 a0_0 _ _ x306001_62 true _ ?side1 ?side2 A77.out).mono ?_); (case side1 => repeat (first | exact (Kd.R_reads' HO_306001.out).2.2 | (with_reducible refine Kd.C_alloc ?_ _) | (with_reducible refine Kd.C_drewN ?_ _) | (with_reducible refine Kd.C_drew ?_))); (case side2 => exact (Kd.R_reads' HO_306001.out).2.1); rintro e w86 ⟨rfl, hb⟩; have n0_ := YL (YS (by (with_reducible repeat (first | apply YP | apply YQ | apply YR)); exact HO_306001.out) hb); have n1_ := YL (YK (g := gb303) (o := .cells #[.int .i64 a0_0, .slice A0_1 l0_1.length c0_1] 25 (0, 0)) (by (with_reducible repeat (first | refine YF ?_ _ | refine YG ?_ | refine YH ?_ _)); exact BK303.out) hb); have n2_ := YL (YK (g := gb304) (o := .cells #[.int .i64 0, .slice none 0 0] 25 (0, 0)) (by (with_reducible repeat (first | refine YF ?_ _ | refine YG ?_ | refine YH ?_ _)); exact BK304.out) hb); have n3_ := YL (YK (g := gb305) (o := .cells #[.int .i64 a0_0, .slice Ao85 x306001_62.length co85] 25 (0, 0)) (by (with_reducible repeat (first | refine YF ?_ _ | refine YG ?_ | refine YH ?_ _)); exact BK305.out) hb); have n4_ := YL (YD (by repeat (first | (with_reducible first | exact HB.out | apply YA | apply YB | apply YC | refine below_set ?_ GE303.out | refine below_set ?_ GE304.out | refine below_set ?_ GE305.out) | exact HB.out)) hb); clear HO_306001; clear BK303; clear BK304; clear BK305; clear HB; have HO_306001 := n0_; have BK303 := n1_; have BK304 := n2_; have BK305 := n3_; have HB := n4_; clear n0_ n1_ n2_ n3_ n4_; (try clear hb); (try clear hb2); (try clear hk); (try clear hi); have q87_0 : w86.cell? ⟨gb305, 0, none⟩ = some (.int .i64 a0_0) := (YI BK305.out 0).trans rfl; have q87_1 : w86.cell? ⟨gb305, 1, none⟩ = some (.slice Ao85 x306001_62.length co85) := (YI BK305.out 1).trans rfl; have f87_0 := YJ BK305.out 0; have f87_1 := YJ BK305.out 1; have q88_0 : w86.cell? ⟨gb304, 0, none⟩ = some (.int .i64 0) := (YI BK304.out 0).trans rfl; have q88_1 : w86.cell? ⟨gb304, 1, none⟩ = some (.slice none 0 0) := (YI BK304.out 1).trans rfl; have f88_0 := YJ BK304.out 0; have f88_1 := YJ BK304.out 1))
       refine bodyPost_ret (results_ct rfl _ _ gb304 25 #[.int .i64 a0_0, .slice Ao85 x306001_62.length co85] (0, 0) _ rfl (by (with_reducible repeat (first | refine YF ?_ _ | refine YG ?_ | refine YH ?_ _)); refine blk_put (cs := #[.int .i64 a0_0, .slice none 0 0]) ?_ 1 _ rfl; (with_reducible repeat (first | refine YF ?_ _ | refine YG ?_ | refine YH ?_ _)); refine blk_put (cs := #[.int .i64 0, .slice none 0 0]) ?_ 0 _ rfl; (with_reducible repeat (first | refine YF ?_ _ | refine YG ?_ | refine YH ?_ _)); exact BK304.out) Try.underlying25 rfl (by kernel_rfl)) rfl ?_
       exact ⟨_, by first | rfl | (simp [errW_none, errW_some] <;> rfl) | (simp [*, errW_none, errW_some] <;> rfl), by (with_reducible repeat (first | apply YP | apply YQ | apply YR)); exact Kd.R_mono (Kd.R_far (p := ⟨gb304, 1, none⟩) (Kd.R_far (p := ⟨gb304, 0, none⟩) (Kd.R_types HO_306001.out BK304.out (by decide)) (fun _ hk => hk.2) (.int .i64 a0_0)) (fun _ hk => hk.2) (.slice Ao85 x306001_62.length co85)) (fun _ hk => trivial), by repeat (first | (with_reducible first | exact HB.out | apply YA | apply YB | apply YC | refine below_set ?_ GE303.out | refine below_set ?_ GE304.out | refine below_set ?_ GE305.out) | exact HB.out)⟩
      replace c78 := Bool.eq_false_iff.mpr c78
      subst c78
      have H1 : (some (0, ([] : List (S59)), 1)) = some (r1, r2, r3) := by rw [if_neg (show ¬ (false = true) by decide)] at H; exact H
      clear H
      have H := H1
      clear H1
      simp only [Option.some.injEq, Prod.mk.injEq] at H
      obtain ⟨rfl, rfl, rfl⟩ := H
      have hnb89 := NB303_304.out
      have hnc89 := NB304_303.out
      have hnb90 := NB303_305.out
      have hnc90 := NB305_303.out
      have q91_0 : wc.cell? ⟨gb303, 0, none⟩ = some (.int .i64 a0_0) := (YI BK303.out 0).trans rfl
      have q91_1 : wc.cell? ⟨gb303, 1, none⟩ = some (.slice A0_1 l0_1.length c0_1) := (YI BK303.out 1).trans rfl
      have f91_0 := YJ BK303.out 0
      have f91_1 := YJ BK303.out 1
      go_wp2_with (first | ((with_reducible refine gate_callee (f := 23) rfl ?_); refine goesL_ (some 70) rfl rfl Try.func23 (by kernel_rfl) rfl #[.agg #[.int .i64 a0_0, .slice A0_1 l0_1.length c0_1]] rfl (by (try simp only [List.map_toArray, List.map_cons, List.map_nil]); first | done | rfl | (simp only [List.length_drop, List.length_take]; rfl)) ?_; (with_reducible refine (thalwegref06_Right.calls kj62 a0_0 _ _ l0_1 true _ ?side1 ?side2 A75.out).mono ?_); (case side1 => repeat (first | exact (Kd.C_below HR0_1.out HB.out) | (with_reducible refine Kd.C_alloc ?_ _) | (with_reducible refine Kd.C_drewN ?_ _) | (with_reducible refine Kd.C_drew ?_))); (case side2 => exact HC0_1.out); rintro e w92 ⟨rfl, hb⟩; refine ⟨_, rfl, ?_⟩; have n0_ := YL (YS (by (with_reducible repeat (first | apply YP | apply YQ | apply YR)); exact HO_306001.out) hb); have n1_ := YL (YK (g := gb303) (o := .cells #[.int .i64 a0_0, .slice A0_1 l0_1.length c0_1] 25 (0, 0)) (by (with_reducible repeat (first | refine YF ?_ _ | refine YG ?_ | refine YH ?_ _)); exact BK303.out) hb); have n2_ := YL (YK (g := gb304) (o := .cells #[.int .i64 0, .slice none 0 0] 25 (0, 0)) (by (with_reducible repeat (first | refine YF ?_ _ | refine YG ?_ | refine YH ?_ _)); exact BK304.out) hb); have n3_ := YL (YK (g := gb305) (o := .cells #[.int .i64 a0_0, u306001] 25 (0, 0)) (by (with_reducible repeat (first | refine YF ?_ _ | refine YG ?_ | refine YH ?_ _)); exact BK305.out) hb); have n4_ := YL (YD (by repeat (first | (with_reducible first | exact HB.out | apply YA | apply YB | apply YC | refine below_set ?_ GE303.out | refine below_set ?_ GE304.out | refine below_set ?_ GE305.out) | exact HB.out)) hb); clear HO_306001; clear BK303; clear BK304; clear BK305; clear HB; have HO_306001 := n0_; have BK303 := n1_; have BK304 := n2_; have BK305 := n3_; have HB := n4_; clear n0_ n1_ n2_ n3_ n4_; (try clear hb); (try clear hb2); (try clear hk); (try clear hi); have hnb93 := NB305_304.out; have hnc93 := NB304_305.out; have q94_0 : w92.cell? ⟨gb305, 0, none⟩ = some (.int .i64 a0_0) := (YI BK305.out 0).trans rfl; have q94_1 : w92.cell? ⟨gb305, 1, none⟩ = some (u306001) := (YI BK305.out 1).trans rfl; have f94_0 := YJ BK305.out 0; have f94_1 := YJ BK305.out 1; obtain ⟨Ao95, co95, eo95⟩ := Kd.R_slice HO_306001.out; subst eo95) | (go_at_call 23; (with_reducible refine (thalwegref06_Right.calls kj62 a0_0 _ _ x306001_62 false _ ?side1 ?side2 A77.out).mono ?_); (case side1 => repeat (first | exact (Kd.R_reads' HO_306001.out).2.2 | (with_reducible refine Kd.C_alloc ?_ _) | (with_reducible refine Kd.C_drewN ?_ _) | (with_reducible refine Kd.C_drew ?_))); (case side2 => exact (Kd.R_reads' HO_306001.out).2.1); rintro e w96 ⟨rfl, hb⟩; have n0_ := YL (YS (by (with_reducible repeat (first | apply YP | apply YQ | apply YR)); exact HO_306001.out) hb); have n1_ := YL (YK (g := gb303) (o := .cells #[.int .i64 a0_0, .slice A0_1 l0_1.length c0_1] 25 (0, 0)) (by (with_reducible repeat (first | refine YF ?_ _ | refine YG ?_ | refine YH ?_ _)); exact BK303.out) hb); have n2_ := YL (YK (g := gb304) (o := .cells #[.int .i64 0, .slice none 0 0] 25 (0, 0)) (by (with_reducible repeat (first | refine YF ?_ _ | refine YG ?_ | refine YH ?_ _)); exact BK304.out) hb); have n3_ := YL (YK (g := gb305) (o := .cells #[.int .i64 a0_0, .slice Ao95 x306001_62.length co95] 25 (0, 0)) (by (with_reducible repeat (first | refine YF ?_ _ | refine YG ?_ | refine YH ?_ _)); exact BK305.out) hb); have n4_ := YL (YD (by repeat (first | (with_reducible first | exact HB.out | apply YA | apply YB | apply YC | refine below_set ?_ GE303.out | refine below_set ?_ GE304.out | refine below_set ?_ GE305.out) | exact HB.out)) hb); clear HO_306001; clear BK303; clear BK304; clear BK305; clear HB; have HO_306001 := n0_; have BK303 := n1_; have BK304 := n2_; have BK305 := n3_; have HB := n4_; clear n0_ n1_ n2_ n3_ n4_; (try clear hb); (try clear hb2); (try clear hk); (try clear hi); have q97_0 : w96.cell? ⟨gb304, 0, none⟩ = some (.int .i64 0) := (YI BK304.out 0).trans rfl; have q97_1 : w96.cell? ⟨gb304, 1, none⟩ = some (.slice none 0 0) := (YI BK304.out 1).trans rfl; have f97_0 := YJ BK304.out 0; have f97_1 := YJ BK304.out 1))
      refine bodyPost_ret (results_ct rfl _ _ gb304 25 #[.int .i64 0, .slice none 0 0] (0, 0) _ rfl (by (with_reducible repeat (first | refine YF ?_ _ | refine YG ?_ | refine YH ?_ _)); refine blk_put (cs := #[.int .i64 0, .slice none 0 0]) ?_ 1 _ rfl; (with_reducible repeat (first | refine YF ?_ _ | refine YG ?_ | refine YH ?_ _)); refine blk_put (cs := #[.int .i64 0, .slice none 0 0]) ?_ 0 _ rfl; (with_reducible repeat (first | refine YF ?_ _ | refine YG ?_ | refine YH ?_ _)); exact BK304.out) Try.underlying25 rfl (by kernel_rfl)) rfl ?_
      exact ⟨_, by first | rfl | (simp [errW_none, errW_some] <;> rfl) | (simp [*, errW_none, errW_some] <;> rfl), by first | exact Kd.R_nil _ _ _ _ _ | exact Kd.N_nil _ _ _ _ _ | exact Kd.V_nil _ _ _ _ _ | exact Kd.Q_nil _ _ _ _ _ | exact Kd.S_nil _ _ _ _ _, by repeat (first | (with_reducible first | exact HB.out | apply YA | apply YB | apply YC | refine below_set ?_ GE303.out | refine below_set ?_ GE304.out | refine below_set ?_ GE305.out) | exact HB.out)⟩
     replace c76 := Bool.eq_false_iff.mpr c76
     subst c76
     have H1 : (some (0, ([] : List (S59)), 1)) = some (r1, r2, r3) := by rw [if_neg (show ¬ (false = true) by decide)] at H; exact H
     clear H
     have H := H1
     clear H1
     simp only [Option.some.injEq, Prod.mk.injEq] at H
     obtain ⟨rfl, rfl, rfl⟩ := H
     have hnb98 := NB303_304.out
     have hnc98 := NB304_303.out
     have hnb99 := NB303_305.out
     have hnc99 := NB305_303.out
     have q100_0 : wc.cell? ⟨gb303, 0, none⟩ = some (.int .i64 a0_0) := (YI BK303.out 0).trans rfl
     have q100_1 : wc.cell? ⟨gb303, 1, none⟩ = some (.slice A0_1 l0_1.length c0_1) := (YI BK303.out 1).trans rfl
     have f100_0 := YJ BK303.out 0
     have f100_1 := YJ BK303.out 1
     go_wp2_with (first | ((with_reducible refine gate_callee (f := 23) rfl ?_); refine goesL_ (some 70) rfl rfl Try.func23 (by kernel_rfl) rfl #[.agg #[.int .i64 a0_0, .slice A0_1 l0_1.length c0_1]] rfl (by (try simp only [List.map_toArray, List.map_cons, List.map_nil]); first | done | rfl | (simp only [List.length_drop, List.length_take]; rfl)) ?_; (with_reducible refine (thalwegref06_Right.calls kj62 a0_0 _ _ l0_1 false _ ?side1 ?side2 A75.out).mono ?_); (case side1 => repeat (first | exact (Kd.C_below HR0_1.out HB.out) | (with_reducible refine Kd.C_alloc ?_ _) | (with_reducible refine Kd.C_drewN ?_ _) | (with_reducible refine Kd.C_drew ?_))); (case side2 => exact HC0_1.out); rintro e w101 ⟨rfl, hb⟩; refine ⟨_, rfl, ?_⟩; have n0_ := YL (YS (by (with_reducible repeat (first | apply YP | apply YQ | apply YR)); exact HO_306001.out) hb); have n1_ := YL (YK (g := gb303) (o := .cells #[.int .i64 a0_0, .slice A0_1 l0_1.length c0_1] 25 (0, 0)) (by (with_reducible repeat (first | refine YF ?_ _ | refine YG ?_ | refine YH ?_ _)); exact BK303.out) hb); have n2_ := YL (YK (g := gb304) (o := .cells #[.int .i64 0, .slice none 0 0] 25 (0, 0)) (by (with_reducible repeat (first | refine YF ?_ _ | refine YG ?_ | refine YH ?_ _)); exact BK304.out) hb); have n3_ := YL (YK (g := gb305) (o := .cells #[.int .i64 a0_0, u306001] 25 (0, 0)) (by (with_reducible repeat (first | refine YF ?_ _ | refine YG ?_ | refine YH ?_ _)); exact BK305.out) hb); have n4_ := YL (YD (by repeat (first | (with_reducible first | exact HB.out | apply YA | apply YB | apply YC | refine below_set ?_ GE303.out | refine below_set ?_ GE304.out | refine below_set ?_ GE305.out) | exact HB.out)) hb); clear HO_306001; clear BK303; clear BK304; clear BK305; clear HB; have HO_306001 := n0_; have BK303 := n1_; have BK304 := n2_; have BK305 := n3_; have HB := n4_; clear n0_ n1_ n2_ n3_ n4_; (try clear hb); (try clear hb2); (try clear hk); (try clear hi); have hnb102 := NB304_305.out; have hnc102 := NB305_304.out; have q103_0 : w101.cell? ⟨gb304, 0, none⟩ = some (.int .i64 0) := (YI BK304.out 0).trans rfl; have q103_1 : w101.cell? ⟨gb304, 1, none⟩ = some (.slice none 0 0) := (YI BK304.out 1).trans rfl; have f103_0 := YJ BK304.out 0; have f103_1 := YJ BK304.out 1))
     refine bodyPost_ret (results_ct rfl _ _ gb304 25 #[.int .i64 0, .slice none 0 0] (0, 0) _ rfl (by (with_reducible repeat (first | refine YF ?_ _ | refine YG ?_ | refine YH ?_ _)); refine blk_put (cs := #[.int .i64 0, .slice none 0 0]) ?_ 1 _ rfl; (with_reducible repeat (first | refine YF ?_ _ | refine YG ?_ | refine YH ?_ _)); refine blk_put (cs := #[.int .i64 0, .slice none 0 0]) ?_ 0 _ rfl; (with_reducible repeat (first | refine YF ?_ _ | refine YG ?_ | refine YH ?_ _)); exact BK304.out) Try.underlying25 rfl (by kernel_rfl)) rfl ?_
     exact ⟨_, by first | rfl | (simp [errW_none, errW_some] <;> rfl) | (simp [*, errW_none, errW_some] <;> rfl), by first | exact Kd.R_nil _ _ _ _ _ | exact Kd.N_nil _ _ _ _ _ | exact Kd.V_nil _ _ _ _ _ | exact Kd.Q_nil _ _ _ _ _ | exact Kd.S_nil _ _ _ _ _, by repeat (first | (with_reducible first | exact HB.out | apply YA | apply YB | apply YC | refine below_set ?_ GE303.out | refine below_set ?_ GE304.out | refine below_set ?_ GE305.out) | exact HB.out)⟩
end Go.Proofs.Ytaiklcpmlkpfjaa.P
namespace Go.Proofs.Ytaiklcpmlkpfjaa.P
open Go.RowKit YtaiklcpmlkpfjaaW.PrintWords YtaiklcpmlkpfjaaW.PrintLast YtaiklcpmlkpfjaaW.PrintMore
open YtaiklcpmlkpfjaaW.PrintWords renaming below_alloc → YA, pw_below_drewN → YB, below_drew1 → YC, below_step → YD, below_size → YE, blk_drewN → YF, blk_drew → YG, blk_alloc → YH, blk_cell → YI, blk_frozen → YJ, blk_below → YK
open YtaiklcpmlkpfjaaW.PrintWords.Aside0 renaming mk → YL
open List renaming setIfInBounds_toArray → YM, set_cons_zero → YN, set_cons_succ → YO
open YtaiklcpmlkpfjaaW.PrintWords.Kd renaming R_alloc → YP, R_drewN → YQ, R_drew → YR
attribute [local go_sem] max2_int min2_int max_two min_two max_three min_three max_four min_four
def thalwegref06_Without.l0 : Nat → Int → Int → Int → List (S59) → Int → List (S59) → Option (Int × (List (S59)) × Int)
 | 0, _, _, _, _, _, _ => none
 | k + 1, x1, x7, x326000, x326001, x329000, x329001 => if x7 < (x326001.length : Int) then (if 0 ≤ x7 then (if ((rd_T59 x326001 x7).f0) = x1 then (thalwegref06_Without.l0 k x1 (wrap64 (x7 + 1)) x326000 x326001 x329000 x329001) else (if x329001.length < 8796093022208 then (thalwegref06_Without.l0 k x1 (wrap64 (x7 + 1)) x326000 x326001 x329000 (x329001 ++ [(⟨(rd_T59 x326001 x7).f0, (rd_T59 x326001 x7).f1⟩ : S59)])) else (none))) else (none)) else (if (x329001.length : Int) = (x326001.length : Int) then (some (0, ([] : List (S59)), 7)) else (some (x329000, x329001, 0)))
def thalwegref06_Without.f (k : Nat) (a0_0 : Int) (l0_1 : List (S59)) (a1 : Int) : Option (Int × (List (S59)) × Int) := (thalwegref06_Right.f k a0_0 l0_1).bind fun t327 => (if t327 = true then (thalwegref06_Without.l0 k a1 0 a0_0 l0_1 a0_0 ([] : List (S59))) else (some (0, ([] : List (S59)), 1)))
theorem thalwegref06_Without.mono_l : ∀ k, (∀ y0 y1 y2 y3 y4 y5, LeO (thalwegref06_Without.l0 k y0 y1 y2 y3 y4 y5) (thalwegref06_Without.l0 (k + 1) y0 y1 y2 y3 y4 y5))
 | 0 => fun _ _ _ _ _ _ r h => by simp [thalwegref06_Without.l0] at h
 | k + 1 => by
  have ih0 := thalwegref06_Without.mono_l k
  ·intro y0 y1 y2 y3 y4 y5
   unfold thalwegref06_Without.l0
   repeat' first
   | (with_reducible exact ih0 _ _ _ _ _ _)
   | (with_reducible exact thalwegref06_Right.mono _ _ _)
   | (with_reducible exact LeO.refl _)
   | (with_reducible exact LeO.none _)
   | (with_reducible refine LeO.ite ?_ ?_)
   | (with_reducible refine LeO.bind ?_ (fun _ => ?_))
   | exact ih0 _ _ _ _ _ _
   | exact thalwegref06_Right.mono _ _ _
   | exact LeO.none _
   | refine LeO.ite ?_ ?_
   | refine LeO.bind ?_ (fun _ => ?_)
theorem thalwegref06_Without.mono : ∀ a0 a1 a2 k, LeO (thalwegref06_Without.f k a0 a1 a2) (thalwegref06_Without.f (k + 1) a0 a1 a2) := by
 intro a0 a1 a2 k
 have ih0 := thalwegref06_Without.mono_l k
 unfold thalwegref06_Without.f
 repeat' first
   | (with_reducible exact ih0 _ _ _ _ _ _)
   | (with_reducible exact thalwegref06_Right.mono _ _ _)
   | (with_reducible exact LeO.refl _)
   | (with_reducible exact LeO.none _)
   | (with_reducible refine LeO.ite ?_ ?_)
   | (with_reducible refine LeO.bind ?_ (fun _ => ?_))
   | exact ih0 _ _ _ _ _ _
   | exact thalwegref06_Right.mono _ _ _
   | exact LeO.none _
   | refine LeO.ite ?_ ?_
   | refine LeO.bind ?_ (fun _ => ?_)
def thalwegref06_Without.T8 : Bool × List (List Nat × List Nat) := (true, [([], []), ([0], [0]), ([], []), ([2], [2]), ([], []), ([3, 4], [3, 4]), ([5], [5]), ([6], [6]), ([1, 7], [1, 7]), ([0, 1, 2, 3, 4, 5, 6, 7, 8], []), ([9, 8, 8, 0, 1, 2, 3, 4, 5, 6, 7, 8], [8, 9])])
def thalwegref06_Without.B8 : List Nat := [0, 1, 0, 4, 0, 28, 60, 124, 255, 511, 1023]
theorem thalwegref06_Without.tab8 : rtab .any (opsOf Try.f21 8) = thalwegref06_Without.T8 := by kernel_rfl
theorem thalwegref06_Without.bits8 : waitsOk thalwegref06_Without.T8.2 thalwegref06_Without.B8 = true := by kernel_rfl
theorem thalwegref06_Without.calls (k : Nat) (a0_0 : Int) (A0_1 : Option Addr) (c0_1 : Nat) (l0_1 : List (S59)) (a1 : Int) (r1 : Int) (r2 : List (S59)) (r3 : Int) (w : World) (hr0_1 : Kd.C k59 w A0_1 l0_1.length l0_1) (hc0_1 : l0_1.length ≤ c0_1) (h : thalwegref06_Without.f k a0_0 l0_1 a1 = some (r1, r2, r3)) :
  Calls Try.prog 21 #[.agg #[.int .i64 a0_0, .slice A0_1 l0_1.length c0_1], .int .i64 a1] w fun e w' => ∃ v1_ : Value, e = .returned (.tuple #[.agg #[.int .i64 r1, v1_], .int .i64 r3]) ∧ Kd.R k59 59 w' w.heap.size (fun _ => True) v1_ r2 ∧ Below w.heap.size w w' := by
 have hu25 := Try.underlying25
 have hu59 := Try.underlying59
 have HR0_1 := YL hr0_1; have HC0_1 := YL hc0_1; clear hr0_1 hc0_1
 have HB := YL (Below.refl w.heap.size w)
 have H : ((thalwegref06_Right.f k a0_0 l0_1).bind fun t327 => (if t327 = true then (thalwegref06_Without.l0 k a1 0 a0_0 l0_1 a0_0 ([] : List (S59))) else (some (0, ([] : List (S59)), 1)))) = some (r1, r2, r3) := h
 clear h; replace H := Option.bind_eq_some_iff.mp H; obtain ⟨t327, A30, H⟩ := H
 replace H : (if t327 = true then (thalwegref06_Without.l0 k a1 0 a0_0 l0_1 a0_0 ([] : List (S59))) else (some (0, ([] : List (S59)), 1))) = some (r1, r2, r3) := H
 have A3 := YL A30; clear A30
 by_cases c4 : t327 = true
 ·subst c4
  have H1 : (thalwegref06_Without.l0 k a1 0 a0_0 l0_1 a0_0 ([] : List (S59))) = some (r1, r2, r3) := by rw [if_pos rfl] at H; exact H
  clear H
  have H := H1
  clear H1
  have H' := YL H
  clear H
  go_enter Try.func21, Try.ntmps21
  go_wp2_with (first | ((with_reducible refine gate_dst (N := 2) rfl ?_); refine box_event ?hg (N := 2) ?hd (cs := #[.int .i64 a0_0, .slice A0_1 l0_1.length c0_1]) (t := 25) ?hr ?_; (case hd => rfl); (case hg => rfl); (case hr => first | (go_simp; done) | (go_simp; rfl)); intro gb325 hg w5 hbox hb; have n0_ := YL (YD (by repeat (first | (with_reducible first | exact HB.out | apply YA | apply YB | apply YC) | exact HB.out)) hb); have n1_ := YL (hbox); have n2_ := YL ((by rw [hg]; exact (YE (by repeat (first | (with_reducible first | exact HB.out | apply YA | apply YB | apply YC) | exact HB.out))) : w.heap.size ≤ gb325)); have n3_ := YL ((by rw [hg]; exact (YE (by repeat (first | (with_reducible first | exact HB.out | apply YA | apply YB | apply YC) | exact HB.out))) : w.heap.size ≤ gb325)); clear HB; have HB := n0_; have BK325 := n1_; have GW325 := n2_; have GE325 := n3_; clear n0_ n1_ n2_ n3_; clear hb hbox hg) | ((with_reducible refine gate_dst (N := 4) rfl ?_); refine box_event ?hg (N := 4) ?hd (cs := #[.int .i64 0, .slice none 0 0]) (t := 25) ?hr ?_; (case hd => rfl); (case hg => rfl); (case hr => first | (go_simp; done) | (go_simp; rfl)); intro gb326 hg w6 hbox hb; have n0_ := YL (YK (g := gb325) (o := .cells #[.int .i64 a0_0, .slice A0_1 l0_1.length c0_1] 25 (0, 0)) (by (with_reducible repeat (first | refine YF ?_ _ | refine YG ?_ | refine YH ?_ _)); exact BK325.out) hb); have n1_ := YL (YD (by repeat (first | (with_reducible first | exact HB.out | apply YA | apply YB | apply YC | refine below_set ?_ GE325.out) | exact HB.out)) hb); have n2_ := YL (hbox); have n3_ := YL ((by rw [hg]; exact (YE (by repeat (first | (with_reducible first | exact HB.out | apply YA | apply YB | apply YC | refine below_set ?_ GE325.out) | exact HB.out))) : w.heap.size ≤ gb326)); have n4_ := YL ((by rw [hg]; exact (YE (by repeat (first | (with_reducible first | exact HB.out | apply YA | apply YB | apply YC | refine below_set ?_ GE325.out) | exact HB.out))) : w.heap.size ≤ gb326)); have n5_ := YL ((by rw [hg]; exact Nat.ne_of_lt (blk_lt (g := gb325) (o := .cells #[.int .i64 a0_0, .slice A0_1 l0_1.length c0_1] 25 (0, 0)) (by (with_reducible repeat (first | refine YF ?_ _ | refine YG ?_ | refine YH ?_ _)); exact BK325.out)) : gb325 ≠ gb326)); have n6_ := YL ((by rw [hg]; exact Nat.ne_of_gt (blk_lt (g := gb325) (o := .cells #[.int .i64 a0_0, .slice A0_1 l0_1.length c0_1] 25 (0, 0)) (by (with_reducible repeat (first | refine YF ?_ _ | refine YG ?_ | refine YH ?_ _)); exact BK325.out)) : gb326 ≠ gb325)); clear BK325; clear HB; have BK325 := n0_; have HB := n1_; have BK326 := n2_; have GW326 := n3_; have GE326 := n4_; have NB325_326 := n5_; have NB326_325 := n6_; clear n0_ n1_ n2_ n3_ n4_ n5_ n6_; clear hb hbox hg; have hnb7 := NB325_326.out; have hnc7 := NB326_325.out; have q8_0 : w6.cell? ⟨gb325, 0, none⟩ = some (.int .i64 a0_0) := (YI BK325.out 0).trans rfl; have q8_1 : w6.cell? ⟨gb325, 1, none⟩ = some (.slice A0_1 l0_1.length c0_1) := (YI BK325.out 1).trans rfl; have f8_0 := YJ BK325.out 0; have f8_1 := YJ BK325.out 1) | ((with_reducible refine gate_callee (f := 23) rfl ?_); refine goesL_ (some 9) rfl rfl Try.func23 (by kernel_rfl) rfl #[.agg #[.int .i64 a0_0, .slice A0_1 l0_1.length c0_1]] rfl (by (try simp only [List.map_toArray, List.map_cons, List.map_nil]); first | done | rfl | (simp only [List.length_drop, List.length_take]; rfl)) ?_; (with_reducible refine (thalwegref06_Right.calls k a0_0 _ _ l0_1 true _ ?side1 ?side2 A3.out).mono ?_); (case side1 => repeat (first | exact (Kd.C_below HR0_1.out HB.out) | (with_reducible refine Kd.C_alloc ?_ _) | (with_reducible refine Kd.C_drewN ?_ _) | (with_reducible refine Kd.C_drew ?_))); (case side2 => exact HC0_1.out); rintro e w9 ⟨rfl, hb⟩; refine ⟨_, rfl, ?_⟩; have n0_ := YL (YK (g := gb325) (o := .cells #[.int .i64 a0_0, .slice A0_1 l0_1.length c0_1] 25 (0, 0)) (by (with_reducible repeat (first | refine YF ?_ _ | refine YG ?_ | refine YH ?_ _)); exact BK325.out) hb); have n1_ := YL (YK (g := gb326) (o := .cells #[.int .i64 0, .slice none 0 0] 25 (0, 0)) (by (with_reducible repeat (first | refine YF ?_ _ | refine YG ?_ | refine YH ?_ _)); exact BK326.out) hb); have n2_ := YL (YD (by repeat (first | (with_reducible first | exact HB.out | apply YA | apply YB | apply YC | refine below_set ?_ GE325.out | refine below_set ?_ GE326.out) | exact HB.out)) hb); clear BK325; clear BK326; clear HB; have BK325 := n0_; have BK326 := n1_; have HB := n2_; clear n0_ n1_ n2_; (try clear hb); (try clear hb2); (try clear hk); (try clear hi); have q10_0 : w9.cell? ⟨gb325, 0, none⟩ = some (.int .i64 a0_0) := (YI BK325.out 0).trans rfl; have q10_1 : w9.cell? ⟨gb325, 1, none⟩ = some (.slice A0_1 l0_1.length c0_1) := (YI BK325.out 1).trans rfl; have f10_0 := YJ BK325.out 0; have f10_1 := YJ BK325.out 1) | ((with_reducible refine gate_dst (N := 6) rfl ?_); refine box_event ?hg (N := 6) ?hd (cs := #[.int .i64 0, .slice none 0 0]) (t := 25) ?hr ?_; (case hd => rfl); (case hg => rfl); (case hr => first | (go_simp; done) | (go_simp; rfl)); intro gb328 hg w11 hbox hb; have n0_ := YL (YK (g := gb325) (o := .cells #[.int .i64 a0_0, .slice A0_1 l0_1.length c0_1] 25 (0, 0)) (by (with_reducible repeat (first | refine YF ?_ _ | refine YG ?_ | refine YH ?_ _)); exact BK325.out) hb); have n1_ := YL (YK (g := gb326) (o := .cells #[.int .i64 0, .slice none 0 0] 25 (0, 0)) (by (with_reducible repeat (first | refine YF ?_ _ | refine YG ?_ | refine YH ?_ _)); exact BK326.out) hb); have n2_ := YL (YD (by repeat (first | (with_reducible first | exact HB.out | apply YA | apply YB | apply YC | refine below_set ?_ GE325.out | refine below_set ?_ GE326.out) | exact HB.out)) hb); have n3_ := YL (hbox); have n4_ := YL ((by rw [hg]; exact (YE (by repeat (first | (with_reducible first | exact HB.out | apply YA | apply YB | apply YC | refine below_set ?_ GE325.out | refine below_set ?_ GE326.out) | exact HB.out))) : w.heap.size ≤ gb328)); have n5_ := YL ((by rw [hg]; exact (YE (by repeat (first | (with_reducible first | exact HB.out | apply YA | apply YB | apply YC | refine below_set ?_ GE325.out | refine below_set ?_ GE326.out) | exact HB.out))) : w.heap.size ≤ gb328)); have n6_ := YL ((by rw [hg]; exact Nat.ne_of_lt (blk_lt (g := gb325) (o := .cells #[.int .i64 a0_0, .slice A0_1 l0_1.length c0_1] 25 (0, 0)) (by (with_reducible repeat (first | refine YF ?_ _ | refine YG ?_ | refine YH ?_ _)); exact BK325.out)) : gb325 ≠ gb328)); have n7_ := YL ((by rw [hg]; exact Nat.ne_of_gt (blk_lt (g := gb325) (o := .cells #[.int .i64 a0_0, .slice A0_1 l0_1.length c0_1] 25 (0, 0)) (by (with_reducible repeat (first | refine YF ?_ _ | refine YG ?_ | refine YH ?_ _)); exact BK325.out)) : gb328 ≠ gb325)); have n8_ := YL ((by rw [hg]; exact Nat.ne_of_lt (blk_lt (g := gb326) (o := .cells #[.int .i64 0, .slice none 0 0] 25 (0, 0)) (by (with_reducible repeat (first | refine YF ?_ _ | refine YG ?_ | refine YH ?_ _)); exact BK326.out)) : gb326 ≠ gb328)); have n9_ := YL ((by rw [hg]; exact Nat.ne_of_gt (blk_lt (g := gb326) (o := .cells #[.int .i64 0, .slice none 0 0] 25 (0, 0)) (by (with_reducible repeat (first | refine YF ?_ _ | refine YG ?_ | refine YH ?_ _)); exact BK326.out)) : gb328 ≠ gb326)); clear BK325; clear BK326; clear HB; have BK325 := n0_; have BK326 := n1_; have HB := n2_; have BK328 := n3_; have GW328 := n4_; have GE328 := n5_; have NB325_328 := n6_; have NB328_325 := n7_; have NB326_328 := n8_; have NB328_326 := n9_; clear n0_ n1_ n2_ n3_ n4_ n5_ n6_ n7_ n8_ n9_; clear hb hbox hg; have hnb12 := NB328_325.out; have hnc12 := NB325_328.out; have hnb13 := NB328_326.out; have hnc13 := NB326_328.out; have q14_0 : w11.cell? ⟨gb328, 0, none⟩ = some (.int .i64 0) := (YI BK328.out 0).trans rfl; have q14_1 : w11.cell? ⟨gb328, 1, none⟩ = some (.slice none 0 0) := (YI BK328.out 1).trans rfl; have f14_0 := YJ BK328.out 0; have f14_1 := YJ BK328.out 1))
  go_loopg [7] k (fun kq v7 w' => ∃ (x7_1 : Int) (x329001_1 : List (S59)) (u329001 : Value), v7 = .int .i64 x7_1 ∧ Aside0 (thalwegref06_Without.l0 kq a1 x7_1 a0_0 l0_1 a0_0 x329001_1 = some (r1, r2, r3)) ∧ Aside0 (kq ≤ k) ∧ Aside0 (Kd.R k59 59 w' w.heap.size (fun _ => True) u329001 x329001_1) ∧ Aside0 (w'.heap[gb325]? = some (.cells #[.int .i64 a0_0, (.slice A0_1 l0_1.length c0_1)] 25 (0, 0))) ∧ Aside0 (w'.heap[gb326]? = some (.cells #[.int .i64 0, (.slice none 0 0)] 25 (0, 0))) ∧ Aside0 (w'.heap[gb328]? = some (.cells #[.int .i64 a0_0, u329001] 25 (0, 0))) ∧ Aside0 (Below w.heap.size w w'))
  case atStart => exact ⟨(0), (([] : List (S59))), (.slice none 0 0), (by first | rfl | (simp; done) | (simp [*]; done)), H', ⟨Nat.le_refl _⟩, ⟨by first | exact Kd.R_nil _ _ _ _ _ | exact Kd.N_nil _ _ _ _ _ | exact Kd.V_nil _ _ _ _ _ | exact Kd.Q_nil _ _ _ _ _ | exact Kd.S_nil _ _ _ _ _⟩, ⟨by (with_reducible repeat (first | refine YF ?_ _ | refine YG ?_ | refine YH ?_ _)); refine blk_far ?_ NB325_328.out _; (with_reducible repeat (first | refine YF ?_ _ | refine YG ?_ | refine YH ?_ _)); refine blk_far ?_ NB325_328.out _; (with_reducible repeat (first | refine YF ?_ _ | refine YG ?_ | refine YH ?_ _)); exact BK325.out⟩, ⟨by (with_reducible repeat (first | refine YF ?_ _ | refine YG ?_ | refine YH ?_ _)); refine blk_far ?_ NB326_328.out _; (with_reducible repeat (first | refine YF ?_ _ | refine YG ?_ | refine YH ?_ _)); refine blk_far ?_ NB326_328.out _; (with_reducible repeat (first | refine YF ?_ _ | refine YG ?_ | refine YH ?_ _)); exact BK326.out⟩, ⟨by (with_reducible repeat (first | refine YF ?_ _ | refine YG ?_ | refine YH ?_ _)); refine blk_put (cs := #[.int .i64 a0_0, .slice none 0 0]) ?_ 1 _ rfl; (with_reducible repeat (first | refine YF ?_ _ | refine YG ?_ | refine YH ?_ _)); refine blk_put (cs := #[.int .i64 0, .slice none 0 0]) ?_ 0 _ rfl; (with_reducible repeat (first | refine YF ?_ _ | refine YG ?_ | refine YH ?_ _)); exact BK328.out⟩, ⟨by repeat (first | (with_reducible first | exact HB.out | apply YA | apply YB | apply YC | refine below_set ?_ GE325.out | refine below_set ?_ GE326.out | refine below_set ?_ GE328.out) | exact HB.out)⟩⟩
  case round =>
   clear H'
   try clear c1; try clear c2
   try clear p2; try clear c4
   try clear c7; try clear c12
   try clear c13; try clear q10_0
   try clear q10_1; try clear q14_0
   try clear q14_1; try clear q8_0
   try clear q8_1; try clear f10_0
   try clear f10_1; try clear f14_0
   try clear f14_1; try clear f8_0; try clear f8_1
   obtain ⟨x7_1, x329001_1, u329001, rfl, HA, HK1, HO_329001, BK325, BK326, BK328, HB⟩ := hrel
   cases gk with
   | zero => exact absurd HA.out (by simp [thalwegref06_Without.l0])
   | succ k1 =>
    have H := HA.out
    clear HA
    simp only [thalwegref06_Without.l0] at H
    by_cases c15 : x7_1 < (l0_1.length : Int)
    ·rw [if_pos c15] at H
     have c15b0 : decide (x7_1 < (l0_1.length : Int)) = true := decide_eq_true c15
     clear c15
     by_cases c16 : 0 ≤ x7_1
     rotate_left
     ·rw [if_neg c16] at H
      exact absurd H (by simp)
     rw [if_pos c16] at H; have c16b0 : decide (0 ≤ x7_1) = true := decide_eq_true c16; clear c16
     by_cases c17 : ((rd_T59 l0_1 x7_1).f0) = a1
     ·rw [if_pos c17] at H
      have c17b0 : (((rd_T59 l0_1 x7_1).f0) == a1) = true := beq_iff_eq.mpr c17
      have c17b1 : (((rd_T59 l0_1 x7_1).f0) != a1) = false := bne_eq_false_iff_eq.mpr c17
      clear c17
      have H' := YL H
      clear H
      have hnb18 := NB325_326.out
      have hnc18 := NB326_325.out
      have hnb19 := NB325_328.out
      have hnc19 := NB328_325.out
      have q20_0 : wr.cell? ⟨gb325, 0, none⟩ = some (.int .i64 a0_0) := (YI BK325.out 0).trans rfl
      have q20_1 : wr.cell? ⟨gb325, 1, none⟩ = some (.slice A0_1 l0_1.length c0_1) := (YI BK325.out 1).trans rfl
      have f20_0 := YJ BK325.out 0
      have f20_1 := YJ BK325.out 1
      have p329 : 0 ≤ (x7_1 : Int) := of_decide_eq_true (by first | (with_reducible assumption) | assumption)
      have q329 : x7_1 < (l0_1.length : Int) := of_decide_eq_true (by first | (with_reducible assumption) | assumption)
      obtain ⟨ad329, e329, hx329_0, hx329_1⟩ := at_T59 HR0_1.out x7_1 p329 q329
      cases e329
      replace hx329_0 := (HB.out.cell (World.block_lt_of_cell? w _ hx329_0)).trans hx329_0
      replace hx329_1 := (HB.out.cell (World.block_lt_of_cell? w _ hx329_1)).trans hx329_1
      replace p329 := eq_true p329
      replace q329 := eq_true q329
      go_wp2
      go_roundg k1
      case measure => have := HK1.out; omega
      case rel => exact ⟨(wrap64 (x7_1 + 1)), (x329001_1), (u329001), (by first | rfl | (simp; done) | (simp [*]; done)), H', ⟨by have := HK1.out; omega⟩, ⟨by (with_reducible repeat (first | apply YP | apply YQ | apply YR)); exact HO_329001.out⟩, ⟨by (with_reducible repeat (first | refine YF ?_ _ | refine YG ?_ | refine YH ?_ _)); exact BK325.out⟩, ⟨by (with_reducible repeat (first | refine YF ?_ _ | refine YG ?_ | refine YH ?_ _)); exact BK326.out⟩, ⟨by (with_reducible repeat (first | refine YF ?_ _ | refine YG ?_ | refine YH ?_ _)); exact BK328.out⟩, ⟨by repeat (first | (with_reducible first | exact HB.out | apply YA | apply YB | apply YC | refine below_set ?_ GE325.out | refine below_set ?_ GE326.out | refine below_set ?_ GE328.out) | exact HB.out)⟩⟩
     rw [if_neg c17] at H
     have c17b0 : (((rd_T59 l0_1 x7_1).f0) == a1) = false := beq_eq_false_iff_ne.mpr c17
     have c17b1 : (((rd_T59 l0_1 x7_1).f0) != a1) = true := bne_iff_ne.mpr c17
     by_cases c21 : x329001_1.length < 8796093022208
     rotate_left
     ·rw [if_neg c21] at H
      exact absurd H (by simp)
     rw [if_pos c21] at H; have LMc21 := YL c21; clear c21
     obtain ⟨y331, hy331⟩ : ∃ y_ : List (S59), y_ = (x329001_1 ++ [(⟨(rd_T59 l0_1 x7_1).f0, (rd_T59 l0_1 x7_1).f1⟩ : S59)]) := ⟨_, rfl⟩
     replace H : (thalwegref06_Without.l0 k1 a1 (wrap64 (x7_1 + 1)) a0_0 l0_1 a0_0 y331) = some (r1, r2, r3) := by first | (rw [hy331]; with_reducible exact H) | (have H2_ := (Option.bind_some _ _).symm.trans H; rw [hy331]; with_reducible exact H2_) | (have H2_ := (Option.bind_some _ _).symm.trans H; with_reducible exact H2_) | with_reducible exact H | (rw [hy331]; exact H) | exact H
     have Ny331 := YL hy331; clear hy331
     have H' := YL H
     clear H
     have hnb22 := NB325_326.out
     have hnc22 := NB326_325.out
     have hnb23 := NB325_328.out
     have hnc23 := NB328_325.out
     have q24_0 : wr.cell? ⟨gb325, 0, none⟩ = some (.int .i64 a0_0) := (YI BK325.out 0).trans rfl
     have q24_1 : wr.cell? ⟨gb325, 1, none⟩ = some (.slice A0_1 l0_1.length c0_1) := (YI BK325.out 1).trans rfl
     have f24_0 := YJ BK325.out 0
     have f24_1 := YJ BK325.out 1
     have p329 : 0 ≤ (x7_1 : Int) := of_decide_eq_true (by first | (with_reducible assumption) | assumption)
     have q329 : x7_1 < (l0_1.length : Int) := of_decide_eq_true (by first | (with_reducible assumption) | assumption)
     obtain ⟨ad329, e329, hx329_0, hx329_1⟩ := at_T59 HR0_1.out x7_1 p329 q329
     cases e329
     replace hx329_0 := (HB.out.cell (World.block_lt_of_cell? w _ hx329_0)).trans hx329_0
     replace hx329_1 := (HB.out.cell (World.block_lt_of_cell? w _ hx329_1)).trans hx329_1
     replace p329 := eq_true p329
     replace q329 := eq_true q329
     try go_wp2
     have n0_ := YL (YR HO_329001.out)
     have n1_ := YL (YG BK325.out)
     have n2_ := YL (YG BK326.out)
     have n3_ := YL (YG BK328.out)
     have n4_ := YL (YC HB.out)
     clear HO_329001; clear BK325; clear BK326; clear BK328; clear HB; have HO_329001 := n0_; have BK325 := n1_; have BK326 := n2_; have BK328 := n3_; have HB := n4_; clear n0_ n1_ n2_ n3_ n4_
     have p330 : 0 ≤ (x7_1 : Int) := of_decide_eq_true (by first | (with_reducible assumption) | assumption)
     have q330 : x7_1 < (l0_1.length : Int) := of_decide_eq_true (by first | (with_reducible assumption) | assumption)
     obtain ⟨ad330, e330, hx330_0, hx330_1⟩ := at_T59 HR0_1.out x7_1 p330 q330
     have hw330_1 := hx330_1
     have hw330_0 := hx330_0
     obtain rfl : ad329 = ad330 := (by injection e330)
     replace hx330_0 := (HB.out.cell (World.block_lt_of_cell? w _ hx330_0)).trans hx330_0
     replace hx330_1 := (HB.out.cell (World.block_lt_of_cell? w _ hx330_1)).trans hx330_1
     replace p330 := eq_true p330
     replace q330 := eq_true q330
     refine start_ (n := 11) (S := fun w' => w'.cell? ⟨gb328, 0, none⟩ = some (.int .i64 a0_0) ∧ w'.cell? ⟨gb328, 1, none⟩ = some (u329001) ∧ w'.cell? ⟨gb325, 0, none⟩ = some (.int .i64 a0_0) ∧ w'.cell? ⟨gb325, 1, none⟩ = some (.slice (some ad329) l0_1.length c0_1) ∧ w'.cell? (ad329.add ((x7_1).toNat * 2)) = some (.int .i64 ((rd_T59 l0_1 x7_1).f0)) ∧ w'.cell? ⟨(ad329.add ((x7_1).toNat * 2)).block, (ad329.add ((x7_1).toNat * 2)).off + 1, none⟩ = some (.int .i64 ((rd_T59 l0_1 x7_1).f1))) (ds := [10]) #[false, false, false, false, false, false, false, false, false, false, false] (by kernel_rfl) rfl rfl ⟨(YI BK328.out 0).trans rfl, (YI BK328.out 1).trans rfl, (YI BK325.out 0).trans rfl, (YI BK325.out 1).trans rfl, ((HB.out.cell (World.block_lt_of_cell? w _ hw330_0)).trans hw330_0), ((HB.out.cell (World.block_lt_of_cell? w _ hw330_1)).trans hw330_1)⟩ (fun hHeld => ?_); refine with_tabW thalwegref06_Without.tab8 thalwegref06_Without.bits8 (fun HT_ HW_ => ?_)
     generalize wr.drew = w25 at HO_329001 BK325 BK326 BK328 HB hx330_0 hx330_1 hHeld ⊢
     refine pure_ (i := 0) (N := some 30) (v := ?_) (a' := ?_) #[true, false, false, false, false, false, false, false, false, false, false] rfl rfl (any_of HT_.out (by kernel_rfl)) (fun _ _ _ h => h) (Or.inl ⟨by rfl, ?_⟩) ?_ ?_
     rotate_left
     ·intro w'
      go_simp; with_reducible rfl
     rotate_left
     ·simp only [Act.put, YM, YN, YO, i64_w, i32_w]
      rfl
     refine pure_ (i := 2) (N := some 32) (v := ?_) (a' := ?_) #[true, false, true, false, false, false, false, false, false, false, false] rfl rfl (any_of HT_.out (by kernel_rfl)) (fun _ _ _ h => h) (Or.inl ⟨by rfl, ?_⟩) ?_ ?_
     rotate_left
     ·intro w'
      go_simp; with_reducible rfl
     rotate_left
     ·simp only [Act.put, YM, YN, YO, i64_w, i32_w]
      rfl
     refine pure_ (i := 4) (N := some 34) (v := ?_) (a' := ?_) #[true, false, true, false, true, false, false, false, false, false, false] rfl rfl (any_of HT_.out (by kernel_rfl)) (fun _ _ _ h => h) (Or.inl ⟨by rfl, ?_⟩) ?_ ?_
     rotate_left
     ·intro w'
      go_simp; with_reducible rfl
     rotate_left
     ·simp only [Act.put, YM, YN, YO, i64_w, i32_w]
      rfl
     refine take_ (i := 1) (N := some 31) (v := ?_) (a' := ?_) #[true, true, true, false, true, false, false, false, false, false, false] rfl rfl (take_ofW HT_.out HW_.out (by kernel_rfl)) (fun _ _ _ h => h) (Or.inl ⟨by rfl, ?_⟩) hHeld ?_ ?_
     rotate_left
     ·rintro w' ⟨s0, s1, s2, s3, s4, s5⟩
      go_simp; with_reducible rfl
     rotate_left
     ·simp only [Act.put, YM, YN, YO, i64_w, i32_w]
      rfl
     refine take_ (i := 3) (N := some 33) (v := ?_) (a' := ?_) #[true, true, true, true, true, false, false, false, false, false, false] rfl rfl (take_ofW HT_.out HW_.out (by kernel_rfl)) (fun _ _ _ h => h) (Or.inl ⟨by rfl, ?_⟩) hHeld ?_ ?_
     rotate_left
     ·rintro w' ⟨s0, s1, s2, s3, s4, s5⟩
      go_simp; with_reducible rfl
     rotate_left
     ·simp only [Act.put, YM, YN, YO, i64_w, i32_w]
      rfl
     refine pure_ (i := 5) (N := some 35) (v := ?_) (a' := ?_) #[true, true, true, true, true, true, false, false, false, false, false] rfl rfl (any_of HT_.out (by kernel_rfl)) (fun _ _ _ h => h) (Or.inl ⟨by rfl, ?_⟩) ?_ ?_
     rotate_left
     ·intro w'
      go_simp; with_reducible rfl
     rotate_left
     ·simp only [Act.put, YM, YN, YO, i64_w, i32_w]
      rfl
     refine take_ (i := 6) (N := some 36) (v := ?_) (a' := ?_) #[true, true, true, true, true, true, true, false, false, false, false] rfl rfl (take_ofW HT_.out HW_.out (by kernel_rfl)) (fun _ _ _ h => h) (Or.inl ⟨by rfl, ?_⟩) hHeld ?_ ?_
     rotate_left
     ·rintro w' ⟨s0, s1, s2, s3, s4, s5⟩
      go_simp; with_reducible rfl
     rotate_left
     ·simp only [Act.put, YM, YN, YO, i64_w, i32_w]
      rfl
     refine one_ (i := 7) (N := some 37) #[true, true, true, true, true, true, true, true, false, false, false] rfl rfl (one_of HT_.out (by kernel_rfl)) (by decide) (fun K hK => ?_)
     refine value_ (w1 := ?_) (v := ?_) (by rfl) rfl ?_ ?_
     rotate_left 2
     ·go_simp
      constructor
      ·rfl
      rfl
     refine hK.out _ _ ⟨(YI (YH BK328.out _) 0).trans rfl, (YI (YH BK328.out _) 1).trans rfl, (YI (YH BK325.out _) 0).trans rfl, (YI (YH BK325.out _) 1).trans rfl, (World.cell?_alloc_lt _ _ _ (World.block_lt_of_cell? _ _ (((HB.out.cell (World.block_lt_of_cell? w _ hw330_0)).trans hw330_0)))).trans (((HB.out.cell (World.block_lt_of_cell? w _ hw330_0)).trans hw330_0)), (World.cell?_alloc_lt _ _ _ (World.block_lt_of_cell? _ _ (((HB.out.cell (World.block_lt_of_cell? w _ hw330_1)).trans hw330_1)))).trans (((HB.out.cell (World.block_lt_of_cell? w _ hw330_1)).trans hw330_1))⟩ (fun hHeld => ?_)
     clear hK K
     refine norm_ (a' := ?_) ?_ ?_
     rotate_left
     ·show Act.put _ (some 37) _ = _
      simp only [Act.put, YM, YN, YO, i64_w, i32_w]
      rfl
     refine one_ (i := 8) (N := some 38) #[true, true, true, true, true, true, true, true, true, false, false] rfl rfl (one_of HT_.out (by kernel_rfl)) (by decide) (fun K hK => ?_)
     refine Kd.R_append_step k59 (w0 := w) w.heap.size (by rfl) (.tmp 31) (.tmp 37) 23 59 (.agg #[(.int .i64 0), (.int .i64 0)]) 16 rfl Try.underlying23 info59 rfl (by decide) (by omega) u329001 x329001_1 (⟨(rd_T59 l0_1 x7_1).f0, (rd_T59 l0_1 x7_1).f1⟩ : S59) [.int .i64 ((rd_T59 l0_1 x7_1).f0), .int .i64 ((rd_T59 l0_1 x7_1).f1)] (fun _ => True) (fun _ => False) rfl rfl ?aP (fun _ hk => hk.elim) ?aF ?aO ?aB ?aS ?aL ?_
     (case aP => exact k59_mkM _ _ _ (⟨(rd_T59 l0_1 x7_1).f0, (rd_T59 l0_1 x7_1).f1⟩ : S59))
     (case aB => exact (by repeat (first | (with_reducible first | exact HB.out | apply YA | apply YB | apply YC | refine below_set ?_ GE325.out | refine below_set ?_ GE326.out | refine below_set ?_ GE328.out) | exact HB.out)))
     (case aF => exact (fun _ _ => trivial))
     (case aO => exact (by (with_reducible repeat (first | apply YP | apply YQ | apply YR)); exact HO_329001.out))
     (case aS => exact (YE (by repeat (first | (with_reducible first | exact HB.out | apply YA | apply YB | apply YC | refine below_set ?_ GE325.out | refine below_set ?_ GE326.out | refine below_set ?_ GE328.out) | exact HB.out))))
     (case aL => have := LMc21.out; omega)
     intro v332 w26 ho hb hg hat
     rw [← Ny331.out] at ho
     have n0_ := YL (blk_grown (g := gb325) (o := .cells #[.int .i64 a0_0, .slice (some ad329) l0_1.length c0_1] 25 (0, 0)) (by (with_reducible repeat (first | refine YF ?_ _ | refine YG ?_ | refine YH ?_ _)); exact BK325.out) hg (Kd.R_ne HO_329001.out BK325.out (by decide)))
     have n1_ := YL (blk_grown (g := gb326) (o := .cells #[.int .i64 0, .slice none 0 0] 25 (0, 0)) (by (with_reducible repeat (first | refine YF ?_ _ | refine YG ?_ | refine YH ?_ _)); exact BK326.out) hg (Kd.R_ne HO_329001.out BK326.out (by decide)))
     have n2_ := YL (blk_grown (g := gb328) (o := .cells #[.int .i64 a0_0, u329001] 25 (0, 0)) (by (with_reducible repeat (first | refine YF ?_ _ | refine YG ?_ | refine YH ?_ _)); exact BK328.out) hg (Kd.R_ne HO_329001.out BK328.out (by decide)))
     have n3_ := YL (hb)
     have n4_ := YL (ho)
     clear BK325; clear BK326; clear BK328; clear HB; clear HO_329001; have BK325 := n0_; have BK326 := n1_; have BK328 := n2_; have HB := n3_; have HO333 := n4_; clear n0_ n1_ n2_ n3_ n4_; clear ho hb hg hat
     obtain ⟨Ao27, co27, eo27⟩ := Kd.R_slice HO333.out
     (first | subst eo27 | (injection eo27 with f1_ f2_ f3_; have f4_ := f1_.symm; have f5_ := f3_.symm; clear f1_ f2_ f3_; subst f4_; subst f5_))
     refine hK.out _ _ ⟨(YI BK328.out 0).trans rfl, (YI BK328.out 1).trans rfl, (YI BK325.out 0).trans rfl, (YI BK325.out 1).trans rfl, ((HB.out.cell (World.block_lt_of_cell? w _ hw330_0)).trans hw330_0), ((HB.out.cell (World.block_lt_of_cell? w _ hw330_1)).trans hw330_1)⟩ (fun hHeld => ?_)
     clear hK K
     refine norm_ (a' := ?_) ?_ ?_
     rotate_left
     ·show Act.put _ (some 38) _ = _
      simp only [Act.put, YM, YN, YO, i64_w, i32_w]
      rfl
     refine pure_ (i := 9) (N := some 39) (v := ?_) (a' := ?_) #[true, true, true, true, true, true, true, true, true, true, false] rfl rfl (any_of HT_.out (by kernel_rfl)) (fun _ _ _ h => h) (Or.inl ⟨by rfl, ?_⟩) ?_ ?_
     rotate_left
     ·intro w'
      go_simp; with_reducible rfl
     rotate_left
     ·simp only [Act.put, YM, YN, YO, i64_w, i32_w]
      rfl
     refine last_ (i := 10) (N := none) #[true, true, true, true, true, true, true, true, true, true, true] rfl rfl (one_of HT_.out (by kernel_rfl)) (by decide) (fun K hK => ?_)
     have hs28 : w26.cell? ⟨gb328, 1, none⟩ = some (u329001) := (YI BK328.out 1).trans rfl
     have hfs28 := YJ BK328.out 1
     have hns28_0 := NB325_328.out
     have hns28_1 := NB326_328.out
     have hms28_0 := NB328_325.out
     have hms28_1 := NB328_326.out
     refine skip_ (w1 := ?_) (by rfl) rfl ?_ ?_
     rotate_left
     ·go_simp
      rfl
     refine hK.out _ _ ?_
     clear hK K
     refine done_ (done_of HT_.out (by kernel_rfl)) ?_
     try go_wp2
     go_roundg k1
     case measure => have := HK1.out; omega
     case rel => exact ⟨(wrap64 (x7_1 + 1)), (y331), (.slice Ao27 y331.length co27), (by first | rfl | (simp; done) | (simp [*]; done)), H', ⟨by have := HK1.out; omega⟩, ⟨by (with_reducible repeat (first | apply YP | apply YQ | apply YR)); exact Kd.R_mono (Kd.R_far (p := ⟨gb328, 1, none⟩) (Kd.R_types HO333.out BK328.out (by decide)) (fun _ hk => hk.2) (.slice Ao27 y331.length co27)) (fun _ hk => trivial)⟩, ⟨by (with_reducible repeat (first | refine YF ?_ _ | refine YG ?_ | refine YH ?_ _)); refine blk_far ?_ NB325_328.out _; (with_reducible repeat (first | refine YF ?_ _ | refine YG ?_ | refine YH ?_ _)); exact BK325.out⟩, ⟨by (with_reducible repeat (first | refine YF ?_ _ | refine YG ?_ | refine YH ?_ _)); refine blk_far ?_ NB326_328.out _; (with_reducible repeat (first | refine YF ?_ _ | refine YG ?_ | refine YH ?_ _)); exact BK326.out⟩, ⟨by (with_reducible repeat (first | refine YF ?_ _ | refine YG ?_ | refine YH ?_ _)); refine blk_put (cs := #[.int .i64 a0_0, u329001]) ?_ 1 _ rfl; (with_reducible repeat (first | refine YF ?_ _ | refine YG ?_ | refine YH ?_ _)); exact BK328.out⟩, ⟨by repeat (first | (with_reducible first | exact HB.out | apply YA | apply YB | apply YC | refine below_set ?_ GE325.out | refine below_set ?_ GE326.out | refine below_set ?_ GE328.out) | exact HB.out)⟩⟩
    rw [if_neg c15] at H
    have c15b0 : decide (x7_1 < (l0_1.length : Int)) = false := decide_eq_false c15
    clear c15
    by_cases c29 : (x329001_1.length : Int) = (l0_1.length : Int)
    ·rw [if_pos c29] at H
     have c29b0 : ((x329001_1.length : Int) == (l0_1.length : Int)) = true := beq_iff_eq.mpr c29
     have c29b1 : ((x329001_1.length : Int) != (l0_1.length : Int)) = false := bne_eq_false_iff_eq.mpr c29
     have c29b2 : (x329001_1.length == l0_1.length) = true := by first | simpa using c29 | (simp at c29 ⊢; omega)
     clear c29
     simp only [Option.some.injEq, Prod.mk.injEq] at H
     obtain ⟨rfl, rfl, rfl⟩ := H
     have hnb30 := NB325_326.out
     have hnc30 := NB326_325.out
     have hnb31 := NB325_328.out
     have hnc31 := NB328_325.out
     have q32_0 : wr.cell? ⟨gb325, 0, none⟩ = some (.int .i64 a0_0) := (YI BK325.out 0).trans rfl
     have q32_1 : wr.cell? ⟨gb325, 1, none⟩ = some (.slice A0_1 l0_1.length c0_1) := (YI BK325.out 1).trans rfl
     have f32_0 := YJ BK325.out 0
     have f32_1 := YJ BK325.out 1
     have hnb33 := NB328_326.out
     have hnc33 := NB326_328.out
     have q34_0 : wr.cell? ⟨gb328, 0, none⟩ = some (.int .i64 a0_0) := (YI BK328.out 0).trans rfl
     have q34_1 : wr.cell? ⟨gb328, 1, none⟩ = some (u329001) := (YI BK328.out 1).trans rfl
     have f34_0 := YJ BK328.out 0
     have f34_1 := YJ BK328.out 1
     obtain ⟨Ao35, co35, eo35⟩ := Kd.R_slice HO_329001.out
     subst eo35
     have q36_0 : wr.cell? ⟨gb326, 0, none⟩ = some (.int .i64 0) := (YI BK326.out 0).trans rfl
     have q36_1 : wr.cell? ⟨gb326, 1, none⟩ = some (.slice none 0 0) := (YI BK326.out 1).trans rfl
     have f36_0 := YJ BK326.out 0
     have f36_1 := YJ BK326.out 1
     go_wp2
     refine bodyPost_ret (results_ct rfl _ _ gb326 25 #[.int .i64 0, .slice none 0 0] (0, 0) _ rfl (by (with_reducible repeat (first | refine YF ?_ _ | refine YG ?_ | refine YH ?_ _)); refine blk_put (cs := #[.int .i64 0, .slice none 0 0]) ?_ 1 _ rfl; (with_reducible repeat (first | refine YF ?_ _ | refine YG ?_ | refine YH ?_ _)); refine blk_put (cs := #[.int .i64 0, .slice none 0 0]) ?_ 0 _ rfl; (with_reducible repeat (first | refine YF ?_ _ | refine YG ?_ | refine YH ?_ _)); exact BK326.out) Try.underlying25 rfl (by kernel_rfl)) rfl ?_
     exact ⟨_, by first | rfl | (simp [errW_none, errW_some] <;> rfl) | (simp [*, errW_none, errW_some] <;> rfl), by first | exact Kd.R_nil _ _ _ _ _ | exact Kd.N_nil _ _ _ _ _ | exact Kd.V_nil _ _ _ _ _ | exact Kd.Q_nil _ _ _ _ _ | exact Kd.S_nil _ _ _ _ _, by repeat (first | (with_reducible first | exact HB.out | apply YA | apply YB | apply YC | refine below_set ?_ GE325.out | refine below_set ?_ GE326.out | refine below_set ?_ GE328.out) | exact HB.out)⟩
    rw [if_neg c29] at H
    have c29b0 : ((x329001_1.length : Int) == (l0_1.length : Int)) = false := beq_eq_false_iff_ne.mpr c29
    have c29b1 : ((x329001_1.length : Int) != (l0_1.length : Int)) = true := bne_iff_ne.mpr c29
    have c29b2 : (x329001_1.length == l0_1.length) = false := by first | simpa using c29 | (simp at c29 ⊢; omega)
    simp only [Option.some.injEq, Prod.mk.injEq] at H
    obtain ⟨rfl, rfl, rfl⟩ := H
    have hnb37 := NB325_326.out
    have hnc37 := NB326_325.out
    have hnb38 := NB325_328.out
    have hnc38 := NB328_325.out
    have q39_0 : wr.cell? ⟨gb325, 0, none⟩ = some (.int .i64 a0_0) := (YI BK325.out 0).trans rfl
    have q39_1 : wr.cell? ⟨gb325, 1, none⟩ = some (.slice A0_1 l0_1.length c0_1) := (YI BK325.out 1).trans rfl
    have f39_0 := YJ BK325.out 0
    have f39_1 := YJ BK325.out 1
    have hnb40 := NB328_326.out
    have hnc40 := NB326_328.out
    have q41_0 : wr.cell? ⟨gb328, 0, none⟩ = some (.int .i64 a0_0) := (YI BK328.out 0).trans rfl
    have q41_1 : wr.cell? ⟨gb328, 1, none⟩ = some (u329001) := (YI BK328.out 1).trans rfl
    have f41_0 := YJ BK328.out 0
    have f41_1 := YJ BK328.out 1
    obtain ⟨Ao42, co42, eo42⟩ := Kd.R_slice HO_329001.out
    subst eo42
    have q43_0 : wr.cell? ⟨gb326, 0, none⟩ = some (.int .i64 0) := (YI BK326.out 0).trans rfl
    have q43_1 : wr.cell? ⟨gb326, 1, none⟩ = some (.slice none 0 0) := (YI BK326.out 1).trans rfl
    have f43_0 := YJ BK326.out 0
    have f43_1 := YJ BK326.out 1
    go_wp2
    refine bodyPost_ret (results_ct rfl _ _ gb326 25 #[.int .i64 a0_0, .slice Ao42 x329001_1.length co42] (0, 0) _ rfl (by (with_reducible repeat (first | refine YF ?_ _ | refine YG ?_ | refine YH ?_ _)); refine blk_put (cs := #[.int .i64 a0_0, .slice none 0 0]) ?_ 1 _ rfl; (with_reducible repeat (first | refine YF ?_ _ | refine YG ?_ | refine YH ?_ _)); refine blk_put (cs := #[.int .i64 0, .slice none 0 0]) ?_ 0 _ rfl; (with_reducible repeat (first | refine YF ?_ _ | refine YG ?_ | refine YH ?_ _)); exact BK326.out) Try.underlying25 rfl (by kernel_rfl)) rfl ?_
    exact ⟨_, by first | rfl | (simp [errW_none, errW_some] <;> rfl) | (simp [*, errW_none, errW_some] <;> rfl), by (with_reducible repeat (first | apply YP | apply YQ | apply YR)); exact Kd.R_mono (Kd.R_far (p := ⟨gb326, 1, none⟩) (Kd.R_far (p := ⟨gb326, 0, none⟩) (Kd.R_types HO_329001.out BK326.out (by decide)) (fun _ hk => hk.2) (.int .i64 a0_0)) (fun _ hk => hk.2) (.slice Ao42 x329001_1.length co42)) (fun _ hk => trivial), by repeat (first | (with_reducible first | exact HB.out | apply YA | apply YB | apply YC | refine below_set ?_ GE325.out | refine below_set ?_ GE326.out | refine below_set ?_ GE328.out) | exact HB.out)⟩
 replace c4 := Bool.eq_false_iff.mpr c4
 subst c4
 have H1 : (some (0, ([] : List (S59)), 1)) = some (r1, r2, r3) := by rw [if_neg (show ¬ (false = true) by decide)] at H; exact H
 clear H
 have H := H1
 clear H1
 simp only [Option.some.injEq, Prod.mk.injEq] at H
 obtain ⟨rfl, rfl, rfl⟩ := H
 go_enter Try.func21, Try.ntmps21
 go_wp2_with (first | ((with_reducible refine gate_dst (N := 2) rfl ?_); refine box_event ?hg (N := 2) ?hd (cs := #[.int .i64 a0_0, .slice A0_1 l0_1.length c0_1]) (t := 25) ?hr ?_; (case hd => rfl); (case hg => rfl); (case hr => first | (go_simp; done) | (go_simp; rfl)); intro gb325 hg w44 hbox hb; have n0_ := YL (YD (by repeat (first | (with_reducible first | exact HB.out | apply YA | apply YB | apply YC) | exact HB.out)) hb); have n1_ := YL (hbox); have n2_ := YL ((by rw [hg]; exact (YE (by repeat (first | (with_reducible first | exact HB.out | apply YA | apply YB | apply YC) | exact HB.out))) : w.heap.size ≤ gb325)); have n3_ := YL ((by rw [hg]; exact (YE (by repeat (first | (with_reducible first | exact HB.out | apply YA | apply YB | apply YC) | exact HB.out))) : w.heap.size ≤ gb325)); clear HB; have HB := n0_; have BK325 := n1_; have GW325 := n2_; have GE325 := n3_; clear n0_ n1_ n2_ n3_; clear hb hbox hg) | ((with_reducible refine gate_dst (N := 4) rfl ?_); refine box_event ?hg (N := 4) ?hd (cs := #[.int .i64 0, .slice none 0 0]) (t := 25) ?hr ?_; (case hd => rfl); (case hg => rfl); (case hr => first | (go_simp; done) | (go_simp; rfl)); intro gb326 hg w45 hbox hb; have n0_ := YL (YK (g := gb325) (o := .cells #[.int .i64 a0_0, .slice A0_1 l0_1.length c0_1] 25 (0, 0)) (by (with_reducible repeat (first | refine YF ?_ _ | refine YG ?_ | refine YH ?_ _)); exact BK325.out) hb); have n1_ := YL (YD (by repeat (first | (with_reducible first | exact HB.out | apply YA | apply YB | apply YC | refine below_set ?_ GE325.out) | exact HB.out)) hb); have n2_ := YL (hbox); have n3_ := YL ((by rw [hg]; exact (YE (by repeat (first | (with_reducible first | exact HB.out | apply YA | apply YB | apply YC | refine below_set ?_ GE325.out) | exact HB.out))) : w.heap.size ≤ gb326)); have n4_ := YL ((by rw [hg]; exact (YE (by repeat (first | (with_reducible first | exact HB.out | apply YA | apply YB | apply YC | refine below_set ?_ GE325.out) | exact HB.out))) : w.heap.size ≤ gb326)); have n5_ := YL ((by rw [hg]; exact Nat.ne_of_lt (blk_lt (g := gb325) (o := .cells #[.int .i64 a0_0, .slice A0_1 l0_1.length c0_1] 25 (0, 0)) (by (with_reducible repeat (first | refine YF ?_ _ | refine YG ?_ | refine YH ?_ _)); exact BK325.out)) : gb325 ≠ gb326)); have n6_ := YL ((by rw [hg]; exact Nat.ne_of_gt (blk_lt (g := gb325) (o := .cells #[.int .i64 a0_0, .slice A0_1 l0_1.length c0_1] 25 (0, 0)) (by (with_reducible repeat (first | refine YF ?_ _ | refine YG ?_ | refine YH ?_ _)); exact BK325.out)) : gb326 ≠ gb325)); clear BK325; clear HB; have BK325 := n0_; have HB := n1_; have BK326 := n2_; have GW326 := n3_; have GE326 := n4_; have NB325_326 := n5_; have NB326_325 := n6_; clear n0_ n1_ n2_ n3_ n4_ n5_ n6_; clear hb hbox hg; have hnb46 := NB325_326.out; have hnc46 := NB326_325.out; have q47_0 : w45.cell? ⟨gb325, 0, none⟩ = some (.int .i64 a0_0) := (YI BK325.out 0).trans rfl; have q47_1 : w45.cell? ⟨gb325, 1, none⟩ = some (.slice A0_1 l0_1.length c0_1) := (YI BK325.out 1).trans rfl; have f47_0 := YJ BK325.out 0; have f47_1 := YJ BK325.out 1) | ((with_reducible refine gate_callee (f := 23) rfl ?_); refine goesL_ (some 9) rfl rfl Try.func23 (by kernel_rfl) rfl #[.agg #[.int .i64 a0_0, .slice A0_1 l0_1.length c0_1]] rfl (by (try simp only [List.map_toArray, List.map_cons, List.map_nil]); first | done | rfl | (simp only [List.length_drop, List.length_take]; rfl)) ?_; (with_reducible refine (thalwegref06_Right.calls k a0_0 _ _ l0_1 false _ ?side1 ?side2 A3.out).mono ?_); (case side1 => repeat (first | exact (Kd.C_below HR0_1.out HB.out) | (with_reducible refine Kd.C_alloc ?_ _) | (with_reducible refine Kd.C_drewN ?_ _) | (with_reducible refine Kd.C_drew ?_))); (case side2 => exact HC0_1.out); rintro e w48 ⟨rfl, hb⟩; refine ⟨_, rfl, ?_⟩; have n0_ := YL (YK (g := gb325) (o := .cells #[.int .i64 a0_0, .slice A0_1 l0_1.length c0_1] 25 (0, 0)) (by (with_reducible repeat (first | refine YF ?_ _ | refine YG ?_ | refine YH ?_ _)); exact BK325.out) hb); have n1_ := YL (YK (g := gb326) (o := .cells #[.int .i64 0, .slice none 0 0] 25 (0, 0)) (by (with_reducible repeat (first | refine YF ?_ _ | refine YG ?_ | refine YH ?_ _)); exact BK326.out) hb); have n2_ := YL (YD (by repeat (first | (with_reducible first | exact HB.out | apply YA | apply YB | apply YC | refine below_set ?_ GE325.out | refine below_set ?_ GE326.out) | exact HB.out)) hb); clear BK325; clear BK326; clear HB; have BK325 := n0_; have BK326 := n1_; have HB := n2_; clear n0_ n1_ n2_; (try clear hb); (try clear hb2); (try clear hk); (try clear hi); have q49_0 : w48.cell? ⟨gb326, 0, none⟩ = some (.int .i64 0) := (YI BK326.out 0).trans rfl; have q49_1 : w48.cell? ⟨gb326, 1, none⟩ = some (.slice none 0 0) := (YI BK326.out 1).trans rfl; have f49_0 := YJ BK326.out 0; have f49_1 := YJ BK326.out 1))
 refine bodyPost_ret (results_ct rfl _ _ gb326 25 #[.int .i64 0, .slice none 0 0] (0, 0) _ rfl (by (with_reducible repeat (first | refine YF ?_ _ | refine YG ?_ | refine YH ?_ _)); refine blk_put (cs := #[.int .i64 0, .slice none 0 0]) ?_ 1 _ rfl; (with_reducible repeat (first | refine YF ?_ _ | refine YG ?_ | refine YH ?_ _)); refine blk_put (cs := #[.int .i64 0, .slice none 0 0]) ?_ 0 _ rfl; (with_reducible repeat (first | refine YF ?_ _ | refine YG ?_ | refine YH ?_ _)); exact BK326.out) Try.underlying25 rfl (by kernel_rfl)) rfl ?_
 exact ⟨_, by first | rfl | (simp [errW_none, errW_some] <;> rfl) | (simp [*, errW_none, errW_some] <;> rfl), by first | exact Kd.R_nil _ _ _ _ _ | exact Kd.N_nil _ _ _ _ _ | exact Kd.V_nil _ _ _ _ _ | exact Kd.Q_nil _ _ _ _ _ | exact Kd.S_nil _ _ _ _ _, by repeat (first | (with_reducible first | exact HB.out | apply YA | apply YB | apply YC | refine below_set ?_ GE325.out | refine below_set ?_ GE326.out) | exact HB.out)⟩
end Go.Proofs.Ytaiklcpmlkpfjaa.P
namespace Go.Proofs.Ytaiklcpmlkpfjaa.P
open Go.RowKit YtaiklcpmlkpfjaaW.PrintWords YtaiklcpmlkpfjaaW.PrintLast YtaiklcpmlkpfjaaW.PrintMore
theorem num_ok (l : List Int) (at_ : Int) (n : Nat) (h : (numSpec l at_ n).2.2 = 0) : (0 ≤ at_ ∧ at_ + n ≤ l.length) ∧ numSpec l at_ n = (bev ((l.drop at_.toNat).take n), at_ + n, 0) := by
 unfold numSpec at h ⊢
 split at h
 ·exact absurd h (by decide)
 rename_i g1
 rw [if_neg g1]
 split at h
 ·exact absurd h (by decide)
 rename_i g2
 rw [if_neg g2]
 exact ⟨⟨by omega, by omega⟩, by rw [Int.toNat_natCast]⟩
theorem get_was (l : List Int) (hB : Bytes l) (at_ : Int) (n : Nat) (h1 : 1 ≤ n) (h7 : n ≤ 7) (h : (getSpec l at_ n).2.2 = 0) :
  (0 ≤ at_ ∧ at_ + n ≤ l.length) ∧ (getSpec l at_ n).2.1 = at_ + n ∧ be n (getSpec l at_ n).1 = (l.drop at_.toNat).take n ∧ 0 ≤ (getSpec l at_ n).1 ∧ (getSpec l at_ n).1 < 256 ^ n := by
 unfold getSpec at h ⊢
 rw [if_neg (by omega)] at h ⊢
 obtain ⟨hr, he⟩ := num_ok l at_ n h
 rw [he]
 have hl : ((l.drop at_.toNat).take n).length = n := by rw [List.length_take, List.length_drop]; omega
 have hb := be_bev ((l.drop at_.toNat).take n) ((hB.drop _).take _)
 have hv := bev_range ((l.drop at_.toNat).take n) ((hB.drop _).take _)
 rw [hl] at hb hv
 exact ⟨hr, rfl, hb, hv⟩
end Go.Proofs.Ytaiklcpmlkpfjaa.P
namespace Go.Proofs.Ytaiklcpmlkpfjaa.P
open Go.RowKit YtaiklcpmlkpfjaaW.PrintWords YtaiklcpmlkpfjaaW.PrintLast YtaiklcpmlkpfjaaW.PrintMore
open Classical
theorem boolq {p q : Prop} [Decidable p] [Decidable q] (h : p ↔ q) : (decide p) = (decide q) := by
 by_cases hp : p
 ·rw [decide_eq_true hp, decide_eq_true (h.mp hp)]
 ·rw [decide_eq_false hp, decide_eq_false (fun hq => hp (h.mpr hq))]
theorem evq {α : Type} {g : Nat → Option α} {a b : α} (h : Ev g a) (e : a = b) : Ev g b := e ▸ h
def EpR (n : Int) : Prop := 0 ≤ n ∧ n ≤ 4294967295
theorem bepoch_eq (n : Int) : beacon_epoch.f n = some (decide (EpR n)) := by
 unfold beacon_epoch.f
 by_cases h : n ≥ 0
 ·rw [if_pos h]
  exact congrArg some (boolq (q := EpR n) ⟨fun g => ⟨h, g⟩, fun g => g.2⟩)
 ·rw [if_neg h, decide_eq_false (p := EpR n) (fun g => h g.1)]
theorem repoch_eq (n : Int) : thalwegref06_Epoch.f n = some (decide (EpR n)) := by
 unfold thalwegref06_Epoch.f
 by_cases h : n ≥ 0
 ·rw [if_pos h]
  exact congrArg some (boolq (q := EpR n) ⟨fun g => ⟨h, g⟩, fun g => g.2⟩)
 ·rw [if_neg h, decide_eq_false (p := EpR n) (fun g => h g.1)]
def AtR (Y : List S59) (i : Int) : Prop := 0 ≤ (rd_T59 Y i).f0 ∧ (rd_T59 Y i).f0 < 64 ∧ EpR (rd_T59 Y i).f1 ∧ (i = 0 ∨ (rd_T59 Y (i - 1)).f0 < (rd_T59 Y i).f0)
def RBn (n : Int) (Y : List S59) : Prop := EpR n ∧ ∀ i : Int, 0 ≤ i → i < Y.length → AtR Y i
def rbB (n : Int) (Y : List S59) : Bool := decide (0 ≤ n) && decide (n ≤ 4294967295) && (List.range Y.length).all fun i => decide (0 ≤ (rd_T59 Y i).f0) && decide ((rd_T59 Y i).f0 < 64) && decide (0 ≤ (rd_T59 Y i).f1) && decide ((rd_T59 Y i).f1 ≤ 4294967295) && (decide ((i : Int) = 0) || decide ((rd_T59 Y ((i : Int) - 1)).f0 < (rd_T59 Y i).f0))
theorem rbB_iff (n : Int) (Y : List S59) : rbB n Y = true ↔ RBn n Y := by
 unfold rbB RBn AtR EpR
 simp only [Bool.and_eq_true, Bool.or_eq_true, decide_eq_true_eq, List.all_eq_true, List.mem_range]
 constructor
 ·rintro ⟨⟨h0, h1⟩, h⟩
  refine ⟨⟨h0, h1⟩, fun i hi hl => ?_⟩
  obtain ⟨k, rfl⟩ := Int.eq_ofNat_of_zero_le hi
  obtain ⟨⟨⟨⟨a, b⟩, c⟩, d⟩, e⟩ := h k (by omega)
  exact ⟨a, b, ⟨c, d⟩, e⟩
 ·rintro ⟨⟨h0, h1⟩, h⟩
  refine ⟨⟨h0, h1⟩, fun k hk => ?_⟩
  obtain ⟨a, b, ⟨c, d⟩, e⟩ := h k (by omega) (by omega)
  exact ⟨⟨⟨⟨a, b⟩, c⟩, d⟩, e⟩
instance (n : Int) (Y : List S59) : Decidable (RBn n Y) := decidable_of_iff (rbB n Y = true) (rbB_iff n Y)
theorem from_next {Y : List S59} {i : Int} (h0 : 0 ≤ i) (hi : i < Y.length) : (∀ j : Int, i ≤ j → j < Y.length → AtR Y j) ↔ AtR Y i ∧ ∀ j : Int, i + 1 ≤ j → j < Y.length → AtR Y j := by
 constructor
 ·intro h; exact ⟨h i (Int.le_refl _) hi, fun j h1 h2 => h j (by omega) h2⟩
 ·rintro ⟨h, g⟩ j h1 h2
  by_cases e : j = i
  ·rw [e]; exact h
  ·exact g j (by omega) h2
def OkFrom (p : Prop) (Y : List S59) (i : Int) : Prop := p ∧ ∀ j : Int, i ≤ j → j < Y.length → AtR Y j
theorem bnc_l0 (n : Int) (Y : List S59) (hl : Y.length ≤ 1000000000000) : ∀ (m : Nat) (ok : Bool) (i : Int), 0 ≤ i → i + m = Y.length → Ev (fun k => beacon_Check.l0 k ok Y (Y.length : Int) i n Y) (if OkFrom (ok = true) Y i then 0 else 1) := by
 intro m
 induction m with
 | zero =>
  intro ok i h0 hi
  refine Ev.step (f := fun k => _) (fun k => by simp only [beacon_Check.l0]; rfl) ?_
  simp only [if_neg (show ¬ i < (Y.length : Int) by omega)]
  by_cases c : ok = true
  ·simp only [if_pos c, if_pos (show OkFrom (ok = true) Y i from ⟨c, fun j h1 h2 => absurd h2 (by omega)⟩)]
   exact Ev.now _
  ·simp only [if_neg c, if_neg (show ¬ OkFrom (ok = true) Y i from fun h => c h.1)]
   exact Ev.now _
 | succ m ih =>
  intro ok i h0 hi
  have hlt : i < (Y.length : Int) := by omega
  have key : ∀ b : Bool, (b = true ↔ ok = true ∧ AtR Y i) → Ev (fun k => beacon_Check.l0 k b Y (Y.length : Int) (i + 1) n Y) (if OkFrom (ok = true) Y i then 0 else 1) := by
   intro b hb
   have h := ih b (i + 1) (by omega) (by omega)
   have e : OkFrom (b = true) Y (i + 1) ↔ OkFrom (ok = true) Y i := by
    unfold OkFrom
    rw [hb, from_next h0 hlt, and_assoc]
   simp only [e] at h
   exact h
  have no : ¬ (ok = true ∧ AtR Y i) → Ev (fun k => beacon_Check.l0 k false Y (Y.length : Int) (i + 1) n Y) (if OkFrom (ok = true) Y i then 0 else 1) := fun h => key false ⟨fun g => (by simp at g), fun g => absurd g h⟩
  refine Ev.step (f := fun k => _) (fun k => by simp only [beacon_Check.l0]; rfl) ?_
  simp only [if_pos hlt, if_pos h0, bepoch_eq, Option.bind_some, w64 (x := i + 1) (by omega) (by omega), w64 (x := i - 1) (by omega) (by omega)]
  by_cases c : ok = true
  rotate_left
  ·simp only [if_neg c]; exact no (fun g => c g.1)
  simp only [if_pos c]
  by_cases c1 : (rd_T59 Y i).f0 ≥ 0
  rotate_left
  ·simp only [if_neg c1]; exact no (fun g => c1 g.2.1)
  simp only [if_pos c1]
  by_cases c2 : (rd_T59 Y i).f0 < 64
  rotate_left
  ·simp only [if_neg c2]; exact no (fun g => c2 g.2.2.1)
  simp only [if_pos c2]
  by_cases c3 : EpR (rd_T59 Y i).f1
  rotate_left
  ·simp only [decide_eq_false c3, Bool.false_eq_true, if_false]; exact no (fun g => c3 g.2.2.2.1)
  simp only [decide_eq_true c3, if_true]
  by_cases c4 : i = 0
  ·simp only [if_pos c4]
   exact key true ⟨fun _ => ⟨c, c1, c2, c3, .inl c4⟩, fun _ => rfl⟩
  ·simp only [if_neg c4, if_pos (show 0 ≤ i - 1 by omega), if_pos (show i - 1 < (Y.length : Int) by omega)]
   refine key _ ⟨fun g => ⟨c, c1, c2, c3, .inr (of_decide_eq_true g)⟩, fun g => decide_eq_true ?_⟩
   rcases g.2.2.2.2 with g | g
   ·exact absurd g c4
   ·exact g
theorem bncheck_ev (n : Int) (Y : List S59) (hl : Y.length ≤ 1000000000000) : Ev (fun k => beacon_Check.f k n Y) (if RBn n Y then 0 else 1) := by
 unfold beacon_Check.f
 simp only [bepoch_eq, Option.bind_some]
 have h := bnc_l0 n Y hl Y.length (decide (EpR n)) 0 (by omega) (by omega)
 have e : OkFrom (decide (EpR n) = true) Y 0 ↔ RBn n Y := by
  unfold OkFrom
  rw [decide_eq_true_iff]; rfl
 simp only [e] at h
 exact h
theorem rnc_l0 (n : Int) (Y : List S59) (hl : Y.length ≤ 1000000000000) : ∀ (m : Nat) (i : Int), 0 ≤ i → i + m = Y.length → Ev (fun k => thalwegref06_Right.l0 k i n Y) (decide (OkFrom (EpR n) Y i)) := by
 intro m
 induction m with
 | zero =>
  intro i h0 hi
  refine Ev.step (f := fun k => _) (fun k => by simp only [thalwegref06_Right.l0]; rfl) ?_
  simp only [if_neg (show ¬ i < (Y.length : Int) by omega), repoch_eq, Option.bind_some]
  refine evq (Ev.now _) (boolq ⟨fun g => ⟨g, fun j h1 h2 => absurd h2 (by omega)⟩, fun g => g.1⟩)
 | succ m ih =>
  intro i h0 hi
  have hlt : i < (Y.length : Int) := by omega
  have no : ¬ AtR Y i → Ev (fun _ : Nat => some false) (decide (OkFrom (EpR n) Y i)) := fun h => by
   rw [decide_eq_false (fun g => h (g.2 i (Int.le_refl _) hlt))]
   exact Ev.now _
  have yes : AtR Y i → Ev (fun k => thalwegref06_Right.l0 k (i + 1) n Y) (decide (OkFrom (EpR n) Y i)) := fun h => by
   refine evq (ih (i + 1) (by omega) (by omega)) (boolq ?_)
   unfold OkFrom
   rw [from_next h0 hlt]
   exact ⟨fun g => ⟨g.1, h, g.2⟩, fun g => ⟨g.1, g.2.2⟩⟩
  refine Ev.step (f := fun k => _) (fun k => by simp only [thalwegref06_Right.l0]; rfl) ?_
  simp only [if_pos hlt, if_pos h0, repoch_eq, Option.bind_some, w64 (x := i + 1) (by omega) (by omega), w64 (x := i - 1) (by omega) (by omega)]
  by_cases c1 : (rd_T59 Y i).f0 < 0
  ·simp only [if_pos c1]; exact no (fun g => by have := g.1; omega)
  simp only [if_neg c1]
  by_cases c2 : (rd_T59 Y i).f0 ≥ 64
  ·simp only [if_pos c2]; exact no (fun g => by have := g.2.1; omega)
  simp only [if_neg c2]
  by_cases c4 : i > 0
  ·simp only [if_pos c4, if_pos (show 0 ≤ i - 1 by omega), if_pos (show i - 1 < (Y.length : Int) by omega)]
   by_cases c5 : (rd_T59 Y (i - 1)).f0 ≥ (rd_T59 Y i).f0
   ·simp only [if_pos c5]; exact no (fun g => by have := g.2.2.2; omega)
   simp only [if_neg c5]
   by_cases c3 : EpR (rd_T59 Y i).f1
   ·simp only [decide_eq_true c3, if_true]; exact yes ⟨by omega, by omega, c3, .inr (by omega)⟩
   ·simp only [decide_eq_false c3, Bool.false_eq_true, if_false]; exact no (fun g => c3 g.2.2.1)
  ·simp only [if_neg c4]
   by_cases c3 : EpR (rd_T59 Y i).f1
   ·simp only [decide_eq_true c3, if_true]; exact yes ⟨by omega, by omega, c3, .inl (by omega)⟩
   ·simp only [decide_eq_false c3, Bool.false_eq_true, if_false]; exact no (fun g => c3 g.2.2.1)
theorem rnright_ev (n : Int) (Y : List S59) (hl : Y.length ≤ 1000000000000) : Ev (fun k => thalwegref06_Right.f k n Y) (decide (RBn n Y)) := by
 unfold thalwegref06_Right.f
 exact evq (rnc_l0 n Y hl Y.length 0 (by omega) (by omega)) (boolq Iff.rfl)
end Go.Proofs.Ytaiklcpmlkpfjaa.P
namespace Go.Proofs.Ytaiklcpmlkpfjaa.P
open Go.RowKit YtaiklcpmlkpfjaaW.PrintWords YtaiklcpmlkpfjaaW.PrintLast YtaiklcpmlkpfjaaW.PrintMore
open YtaiklcpmlkpfjaaW.PrintWords renaming below_alloc → YA, pw_below_drewN → YB, below_drew1 → YC
open YtaiklcpmlkpfjaaW.PrintWords.Aside0 renaming mk → YD
open List renaming map_toArray → YE, length_take → YF, length_drop → YG
attribute [local go_sem] max2_int min2_int max_two min_two max_three min_three max_four min_four
def cmp_isNaN_int.f (a0 : Int) : Option (Bool) := some (a0 != a0)
theorem cmp_isNaN_int.calls (a0 : Int) (r : Bool) (w : World) (h : cmp_isNaN_int.f a0 = some r) :
  Calls Try.prog 51 #[.int .i64 a0] w fun e w' => e = .returned (.bool r) ∧ Drawn0 w w' := by
 have H : (some (a0 != a0)) = some r := h
 clear h
 obtain rfl := Option.some.inj H
 go_enter Try.func51, Try.ntmps51
 go_wp2
 go_ret
 exact ⟨by first | rfl | (simp; done) | (simp [*]; done), by repeat (first | exact Drawn0.refl _ | apply Drawn0.step)⟩
def cmp_Compare_int.f (a0 : Int) (a1 : Int) : Option (Int) := (cmp_isNaN_int.f a0).bind fun t228 => ((cmp_isNaN_int.f a1).bind fun t229 => (if t228 = true then (if t229 = true then (some 0) else (some (-1))) else (if t229 = true then (some 1) else (if a0 < a1 then (some (-1)) else (if a0 > a1 then (some 1) else (some 0))))))
theorem cmp_Compare_int.calls (a0 : Int) (a1 : Int) (r : Int) (w : World) (h : cmp_Compare_int.f a0 a1 = some r) :
  Calls Try.prog 43 #[.int .i64 a0, .int .i64 a1] w fun e w' => e = .returned (.int .i64 r) ∧ Drawn0 w w' := by
 have H : ((cmp_isNaN_int.f a0).bind fun t228 => ((cmp_isNaN_int.f a1).bind fun t229 => (if t228 = true then (if t229 = true then (some 0) else (some (-1))) else (if t229 = true then (some 1) else (if a0 < a1 then (some (-1)) else (if a0 > a1 then (some 1) else (some 0))))))) = some r := h
 clear h; replace H := Option.bind_eq_some_iff.mp H; obtain ⟨t228, A30, H⟩ := H
 replace H : ((cmp_isNaN_int.f a1).bind fun t229 => (if t228 = true then (if t229 = true then (some 0) else (some (-1))) else (if t229 = true then (some 1) else (if a0 < a1 then (some (-1)) else (if a0 > a1 then (some 1) else (some 0)))))) = some r := H
 have A3 := YD A30; clear A30; replace H := Option.bind_eq_some_iff.mp H; obtain ⟨t229, A40, H⟩ := H
 replace H : (if t228 = true then (if t229 = true then (some 0) else (some (-1))) else (if t229 = true then (some 1) else (if a0 < a1 then (some (-1)) else (if a0 > a1 then (some 1) else (some 0))))) = some r := H
 have A4 := YD A40; clear A40
 by_cases c5 : t228 = true
 ·subst c5
  have H1 : (if t229 = true then (some 0) else (some (-1))) = some r := by rw [if_pos rfl] at H; exact H
  clear H
  have H := H1
  clear H1
  by_cases c6 : t229 = true
  ·subst c6
   have H1 : (some 0) = some r := by rw [if_pos rfl] at H; exact H
   clear H
   have H := H1
   clear H1
   obtain rfl := Option.some.inj H
   go_enter Try.func43, Try.ntmps43
   go_wp2_with (first | ((with_reducible refine gate_callee (f := 51) rfl ?_); refine goesL_ (some 8) rfl rfl Try.func51 (by kernel_rfl) rfl #[.int .i64 a0] rfl (by (try simp only [YE, List.map_cons, List.map_nil]); first | done | rfl | (simp only [YG, YF]; rfl)) ?_; (with_reducible refine (cmp_isNaN_int.calls a0 true _ A3.out).mono ?_); rintro e w' ⟨rfl, ⟨nd, rfl⟩⟩; refine ⟨_, rfl, ?_⟩) | ((with_reducible refine gate_callee (f := 51) rfl ?_); refine goesL_ (some 10) rfl rfl Try.func51 (by kernel_rfl) rfl #[.int .i64 a1] rfl (by (try simp only [YE, List.map_cons, List.map_nil]); first | done | rfl | (simp only [YG, YF]; rfl)) ?_; (with_reducible refine (cmp_isNaN_int.calls a1 true _ A4.out).mono ?_); rintro e w' ⟨rfl, ⟨nd, rfl⟩⟩; refine ⟨_, rfl, ?_⟩))
   go_ret
   exact ⟨by first | rfl | (simp; done) | (simp [*]; done), by repeat (first | exact Drawn0.refl _ | apply Drawn0.step)⟩
  replace c6 := Bool.eq_false_iff.mpr c6
  subst c6
  have H1 : (some (-1)) = some r := by rw [if_neg (show ¬ (false = true) by decide)] at H; exact H
  clear H
  have H := H1
  clear H1
  obtain rfl := Option.some.inj H
  go_enter Try.func43, Try.ntmps43
  go_wp2_with (first | ((with_reducible refine gate_callee (f := 51) rfl ?_); refine goesL_ (some 8) rfl rfl Try.func51 (by kernel_rfl) rfl #[.int .i64 a0] rfl (by (try simp only [YE, List.map_cons, List.map_nil]); first | done | rfl | (simp only [YG, YF]; rfl)) ?_; (with_reducible refine (cmp_isNaN_int.calls a0 true _ A3.out).mono ?_); rintro e w' ⟨rfl, ⟨nd, rfl⟩⟩; refine ⟨_, rfl, ?_⟩) | ((with_reducible refine gate_callee (f := 51) rfl ?_); refine goesL_ (some 10) rfl rfl Try.func51 (by kernel_rfl) rfl #[.int .i64 a1] rfl (by (try simp only [YE, List.map_cons, List.map_nil]); first | done | rfl | (simp only [YG, YF]; rfl)) ?_; (with_reducible refine (cmp_isNaN_int.calls a1 false _ A4.out).mono ?_); rintro e w' ⟨rfl, ⟨nd, rfl⟩⟩; refine ⟨_, rfl, ?_⟩))
  go_ret
  exact ⟨by first | rfl | (simp; done) | (simp [*]; done), by repeat (first | exact Drawn0.refl _ | apply Drawn0.step)⟩
 replace c5 := Bool.eq_false_iff.mpr c5
 subst c5
 have H1 : (if t229 = true then (some 1) else (if a0 < a1 then (some (-1)) else (if a0 > a1 then (some 1) else (some 0)))) = some r := by rw [if_neg (show ¬ (false = true) by decide)] at H; exact H
 clear H
 have H := H1
 clear H1
 by_cases c7 : t229 = true
 ·subst c7
  have H1 : (some 1) = some r := by rw [if_pos rfl] at H; exact H
  clear H
  have H := H1
  clear H1
  obtain rfl := Option.some.inj H
  go_enter Try.func43, Try.ntmps43
  go_wp2_with (first | ((with_reducible refine gate_callee (f := 51) rfl ?_); refine goesL_ (some 8) rfl rfl Try.func51 (by kernel_rfl) rfl #[.int .i64 a0] rfl (by (try simp only [YE, List.map_cons, List.map_nil]); first | done | rfl | (simp only [YG, YF]; rfl)) ?_; (with_reducible refine (cmp_isNaN_int.calls a0 false _ A3.out).mono ?_); rintro e w' ⟨rfl, ⟨nd, rfl⟩⟩; refine ⟨_, rfl, ?_⟩) | ((with_reducible refine gate_callee (f := 51) rfl ?_); refine goesL_ (some 10) rfl rfl Try.func51 (by kernel_rfl) rfl #[.int .i64 a1] rfl (by (try simp only [YE, List.map_cons, List.map_nil]); first | done | rfl | (simp only [YG, YF]; rfl)) ?_; (with_reducible refine (cmp_isNaN_int.calls a1 true _ A4.out).mono ?_); rintro e w' ⟨rfl, ⟨nd, rfl⟩⟩; refine ⟨_, rfl, ?_⟩))
  go_ret
  exact ⟨by first | rfl | (simp; done) | (simp [*]; done), by repeat (first | exact Drawn0.refl _ | apply Drawn0.step)⟩
 replace c7 := Bool.eq_false_iff.mpr c7
 subst c7
 have H1 : (if a0 < a1 then (some (-1)) else (if a0 > a1 then (some 1) else (some 0))) = some r := by rw [if_neg (show ¬ (false = true) by decide)] at H; exact H
 clear H
 have H := H1
 clear H1
 by_cases c8 : a0 < a1
 ·rw [if_pos c8] at H
  have c8b0 : decide (a0 < a1) = true := decide_eq_true c8; clear c8
  obtain rfl := Option.some.inj H
  go_enter Try.func43, Try.ntmps43
  go_wp2_with (first | ((with_reducible refine gate_callee (f := 51) rfl ?_); refine goesL_ (some 8) rfl rfl Try.func51 (by kernel_rfl) rfl #[.int .i64 a0] rfl (by (try simp only [YE, List.map_cons, List.map_nil]); first | done | rfl | (simp only [YG, YF]; rfl)) ?_; (with_reducible refine (cmp_isNaN_int.calls a0 false _ A3.out).mono ?_); rintro e w' ⟨rfl, ⟨nd, rfl⟩⟩; refine ⟨_, rfl, ?_⟩) | ((with_reducible refine gate_callee (f := 51) rfl ?_); refine goesL_ (some 10) rfl rfl Try.func51 (by kernel_rfl) rfl #[.int .i64 a1] rfl (by (try simp only [YE, List.map_cons, List.map_nil]); first | done | rfl | (simp only [YG, YF]; rfl)) ?_; (with_reducible refine (cmp_isNaN_int.calls a1 false _ A4.out).mono ?_); rintro e w' ⟨rfl, ⟨nd, rfl⟩⟩; refine ⟨_, rfl, ?_⟩))
  go_ret
  exact ⟨by first | rfl | (simp; done) | (simp [*]; done), by repeat (first | exact Drawn0.refl _ | apply Drawn0.step)⟩
 rw [if_neg c8] at H; have c8b0 : decide (a0 < a1) = false := decide_eq_false c8; clear c8
 by_cases c9 : a0 > a1
 ·rw [if_pos c9] at H
  have c9b0 : decide (a1 < a0) = true := decide_eq_true c9; clear c9
  obtain rfl := Option.some.inj H
  go_enter Try.func43, Try.ntmps43
  go_wp2_with (first | ((with_reducible refine gate_callee (f := 51) rfl ?_); refine goesL_ (some 8) rfl rfl Try.func51 (by kernel_rfl) rfl #[.int .i64 a0] rfl (by (try simp only [YE, List.map_cons, List.map_nil]); first | done | rfl | (simp only [YG, YF]; rfl)) ?_; (with_reducible refine (cmp_isNaN_int.calls a0 false _ A3.out).mono ?_); rintro e w' ⟨rfl, ⟨nd, rfl⟩⟩; refine ⟨_, rfl, ?_⟩) | ((with_reducible refine gate_callee (f := 51) rfl ?_); refine goesL_ (some 10) rfl rfl Try.func51 (by kernel_rfl) rfl #[.int .i64 a1] rfl (by (try simp only [YE, List.map_cons, List.map_nil]); first | done | rfl | (simp only [YG, YF]; rfl)) ?_; (with_reducible refine (cmp_isNaN_int.calls a1 false _ A4.out).mono ?_); rintro e w' ⟨rfl, ⟨nd, rfl⟩⟩; refine ⟨_, rfl, ?_⟩))
  go_ret
  exact ⟨by first | rfl | (simp; done) | (simp [*]; done), by repeat (first | exact Drawn0.refl _ | apply Drawn0.step)⟩
 rw [if_neg c9] at H; have c9b0 : decide (a1 < a0) = false := decide_eq_false c9; clear c9
 obtain rfl := Option.some.inj H
 go_enter Try.func43, Try.ntmps43
 go_wp2_with (first | ((with_reducible refine gate_callee (f := 51) rfl ?_); refine goesL_ (some 8) rfl rfl Try.func51 (by kernel_rfl) rfl #[.int .i64 a0] rfl (by (try simp only [YE, List.map_cons, List.map_nil]); first | done | rfl | (simp only [YG, YF]; rfl)) ?_; (with_reducible refine (cmp_isNaN_int.calls a0 false _ A3.out).mono ?_); rintro e w' ⟨rfl, ⟨nd, rfl⟩⟩; refine ⟨_, rfl, ?_⟩) | ((with_reducible refine gate_callee (f := 51) rfl ?_); refine goesL_ (some 10) rfl rfl Try.func51 (by kernel_rfl) rfl #[.int .i64 a1] rfl (by (try simp only [YE, List.map_cons, List.map_nil]); first | done | rfl | (simp only [YG, YF]; rfl)) ?_; (with_reducible refine (cmp_isNaN_int.calls a1 false _ A4.out).mono ?_); rintro e w' ⟨rfl, ⟨nd, rfl⟩⟩; refine ⟨_, rfl, ?_⟩))
 go_ret
 exact ⟨by first | rfl | (simp; done) | (simp [*]; done), by repeat (first | exact Drawn0.refl _ | apply Drawn0.step)⟩
def beacon_place_1.f (a0_0 : Int) (a0_1 : Int) (a1 : Int) : Option (Int) := (cmp_Compare_int.f a0_0 a1).bind fun t231 => (some t231)
theorem beacon_place_1.calls (a0_0 : Int) (a0_1 : Int) (a1 : Int) (r : Int) (w : World) (h : beacon_place_1.f a0_0 a0_1 a1 = some r) :
  Calls Try.prog 42 #[.agg #[.int .i64 a0_0, .int .i64 a0_1], .int .i64 a1] w fun e w' => e = .returned (.int .i64 r) ∧ Below w.heap.size w w' := by
 have hu59 := Try.underlying59
 have HB := YD (Below.refl w.heap.size w)
 have H : ((cmp_Compare_int.f a0_0 a1).bind fun t231 => (some t231)) = some r := h
 clear h; replace H := Option.bind_eq_some_iff.mp H; obtain ⟨t231, A30, H⟩ := H
 replace H : (some t231) = some r := H
 have A3 := YD A30; clear A30
 obtain rfl := Option.some.inj H
 go_enter Try.func42, Try.ntmps42
 go_wp2_with (first | ((with_reducible refine gate_dst (N := 2) rfl ?_); refine box_event ?hg (N := 2) ?hd (cs := #[.int .i64 a0_0, .int .i64 a0_1]) (t := 59) ?hr ?_; (case hd => rfl); (case hg => rfl); (case hr => first | (go_simp; done) | (go_simp; rfl)); intro gb230 hg w4 hbox hb; have n0_ := YD (below_step (by repeat (first | (with_reducible first | exact HB.out | apply YA | apply YB | apply YC) | exact HB.out)) hb); have n1_ := YD (hbox); have n2_ := YD ((by rw [hg]; exact (below_size (by repeat (first | (with_reducible first | exact HB.out | apply YA | apply YB | apply YC) | exact HB.out))) : w.heap.size ≤ gb230)); have n3_ := YD ((by rw [hg]; exact (below_size (by repeat (first | (with_reducible first | exact HB.out | apply YA | apply YB | apply YC) | exact HB.out))) : w.heap.size ≤ gb230)); clear HB; have HB := n0_; have BK230 := n1_; have GW230 := n2_; have GE230 := n3_; clear n0_ n1_ n2_ n3_; clear hb hbox hg; have q5_0 : w4.cell? ⟨gb230, 0, none⟩ = some (.int .i64 a0_0) := (blk_cell BK230.out 0).trans rfl; have q5_1 : w4.cell? ⟨gb230, 1, none⟩ = some (.int .i64 a0_1) := (blk_cell BK230.out 1).trans rfl; have f5_0 := blk_frozen BK230.out 0; have f5_1 := blk_frozen BK230.out 1) | ((with_reducible refine gate_callee (f := 43) rfl ?_); refine goesL_ (some 8) rfl rfl Try.func43 (by kernel_rfl) rfl #[.int .i64 a0_0, .int .i64 a1] rfl (by (try simp only [YE, List.map_cons, List.map_nil]); first | done | rfl | (simp only [YG, YF]; rfl)) ?_; (with_reducible refine (cmp_Compare_int.calls a0_0 a1 t231 _ A3.out).mono ?_); rintro e w' ⟨rfl, ⟨nd, rfl⟩⟩; refine ⟨_, rfl, ?_⟩))
 go_ret
 exact ⟨by first | rfl | (simp [errW_none, errW_some] <;> rfl) | (simp [*, errW_none, errW_some] <;> rfl), by repeat (first | (with_reducible first | exact HB.out | apply YA | apply YB | apply YC | refine below_set ?_ GE230.out) | exact HB.out)⟩
end Go.Proofs.Ytaiklcpmlkpfjaa.P
