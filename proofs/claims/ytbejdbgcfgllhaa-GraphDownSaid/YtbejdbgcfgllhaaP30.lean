-- WRITTEN BY xprint.py, a program of this session that drives the kit's printer.
import Derived.Test.YtbejdbgcfgllhaaP0
import Derived.Test.YtbejdbgcfgllhaaP6
import Derived.Test.YtbejdbgcfgllhaaP10
import Derived.Test.YtbejdbgcfgllhaaP28
import Derived.Test.YtbejdbgcfgllhaaP29
namespace Go.Proofs.Ytbejdbgcfgllhaa.P
open Go.RowKit Go.Proofs.YtbejdbgcfgllhaaW.PrintWords Go.Proofs.YtbejdbgcfgllhaaW.PrintLast Go.Proofs.YtbejdbgcfgllhaaW.PrintMore
open Go.Proofs.YtbejdbgcfgllhaaW.PrintWords renaming below_alloc → YA, pw_below_drewN → YB, below_drew1 → YC, below_step → YD
open Go.Proofs.YtbejdbgcfgllhaaW.PrintWords.Aside0 renaming mk → YE
open List renaming setIfInBounds_toArray → YF, set_cons_zero → YG, set_cons_succ → YH, map_toArray → YI, length_take → YJ, length_drop → YK
open Go.Proofs.YtbejdbgcfgllhaaW.PrintWords.Kd renaming R_alloc → YL, R_drewN → YM, R_drew → YN, R_below → YO
attribute [local go_sem] max2_int min2_int max_two min_two max_three min_three max_four min_four   -- for this text's walks alone
set_option linter.unusedVariables false
set_option linter.unusedSimpArgs false

/-! ### thalweglaw25_GraphDown: function 7 -/
mutual
def thalweglaw25_GraphDown.j0 : Nat → List (S45) → List (List (S55)) → List Int → Bool → Option (Bool)
  | 0, _, _, _, _ => none
  | k + 1, x0, x1, x2, x22 => if x22 = true then (some true) else (thalweglaw25_GraphDown.l0 k x0 x1 x2 0)
def thalweglaw25_GraphDown.l0 : Nat → List (S45) → List (List (S55)) → List Int → Int → Option (Bool)
  | 0, _, _, _, _ => none
  | k + 1, x0, x1, x2, x7 => if x7 < (x1.length : Int) then (if 0 ≤ x7 then (if ((rd_L8 x1 x7).length : Int) > 30 then (some true) else (thalweglaw25_GraphDown.l0 k x0 x1 x2 (wrap64 (x7 + 1)))) else (none)) else ((graph_Fresh.f k x0 x1).bind fun t415 => (if 0 ≤ (x0.length : Int) then (if ((x0.length : Int) : Int).toNat ≤ 35184372088832 then (thalweglaw25_GraphDown.l1 k x0 x2 t415 (List.replicate ((x0.length : Int) : Int).toNat 0) 0) else (none)) else (none)))
def thalweglaw25_GraphDown.l1 : Nat → List (S45) → List Int → List (S36) → List Int → Int → Option (Bool)
  | 0, _, _, _, _, _ => none
  | k + 1, x0, x2, x8, x9, x10 => if x10 < (x0.length : Int) then (if 0 ≤ x10 then (if x10 < (x9.length : Int) then (thalweglaw25_GraphDown.l2 k x0 x2 x8 (x9.set (x10 : Int).toNat (-1)) x10 0 0) else (none)) else (none)) else ((graph_Cycle.f k x9).bind fun bt421 => ((thalweglaw25_awake.f k).bind fun t425 => (if t425 = true then (some (!bt421.2)) else (none))))
def thalweglaw25_GraphDown.l2 : Nat → List (S45) → List Int → List (S36) → List Int → Int → Int → Int → Option (Bool)
  | 0, _, _, _, _, _, _, _ => none
  | k + 1, x0, x2, x8, x9, x10, x11, x12 => if x12 < (x8.length : Int) then (if 0 ≤ x12 then (if ((rd_T36 x8 x12).f0) = x10 then (if ((rd_T36 x8 x12).f1) < 0 then (thalweglaw25_GraphDown.j4 k x0 x2 x8 x9 x10 x11 x12 true) else (if ((rd_T36 x8 x12).f1) ≥ (x0.length : Int) then (thalweglaw25_GraphDown.j4 k x0 x2 x8 x9 x10 x11 x12 true) else (if 0 ≤ ((rd_T36 x8 x12).f1) then (if ((rd_T36 x8 x12).f1) < (x0.length : Int) then (if 0 ≤ x10 then (if x10 < (x0.length : Int) then ((height_Less.f k ((rd_T45 x0 ((rd_T36 x8 x12).f1)).f0) ((rd_T45 x0 ((rd_T36 x8 x12).f1)).f1) ((rd_T45 x0 ((rd_T36 x8 x12).f1)).f2) ((rd_T45 x0 ((rd_T36 x8 x12).f1)).f3) ((rd_T45 x0 ((rd_T36 x8 x12).f1)).f4) ((rd_T45 x0 ((rd_T36 x8 x12).f1)).f5) ((rd_T45 x0 x10).f0) ((rd_T45 x0 x10).f1) ((rd_T45 x0 x10).f2) ((rd_T45 x0 x10).f3) ((rd_T45 x0 x10).f4) ((rd_T45 x0 x10).f5)).bind fun t433 => (thalweglaw25_GraphDown.j4 k x0 x2 x8 x9 x10 x11 x12 (!t433))) else (none)) else (none)) else (none)) else (none)))) else (thalweglaw25_GraphDown.l2 k x0 x2 x8 x9 x10 x11 (wrap64 (x12 + 1)))) else (none)) else (thalweglaw25_GraphDown.l1 k x0 x2 x8 x9 (wrap64 (x10 + 1)))
def thalweglaw25_GraphDown.j4 : Nat → List (S45) → List Int → List (S36) → List Int → Int → Int → Int → Bool → Option (Bool)
  | 0, _, _, _, _, _, _, _, _ => none
  | k + 1, x0, x2, x8, x9, x10, x11, x12, x94 => if x94 = true then (none) else (if x11 = 0 then (if 0 ≤ x12 then (if x12 < (x8.length : Int) then (if 0 ≤ x10 then (if x10 < (x9.length : Int) then (thalweglaw25_GraphDown.l2 k x0 x2 x8 (x9.set (x10 : Int).toNat ((rd_T36 x8 x12).f1)) x10 (wrap64 (x11 + 1)) (wrap64 (x12 + 1))) else (none)) else (none)) else (none)) else (none)) else (if x10 < (x2.length : Int) then (if 0 ≤ x10 then (if x11 = (rd x2 x10) then (if 0 ≤ x12 then (if x12 < (x8.length : Int) then (if x10 < (x9.length : Int) then (thalweglaw25_GraphDown.l2 k x0 x2 x8 (x9.set (x10 : Int).toNat ((rd_T36 x8 x12).f1)) x10 (wrap64 (x11 + 1)) (wrap64 (x12 + 1))) else (none)) else (none)) else (none)) else (thalweglaw25_GraphDown.l2 k x0 x2 x8 x9 x10 (wrap64 (x11 + 1)) (wrap64 (x12 + 1)))) else (none)) else (thalweglaw25_GraphDown.l2 k x0 x2 x8 x9 x10 (wrap64 (x11 + 1)) (wrap64 (x12 + 1)))))
end
def thalweglaw25_GraphDown.f (k : Nat) (l0 : List (S45)) (l1 : List (List (S55))) (l2 : List Int) : Option (Bool) := if (l0.length : Int) > 30 then (thalweglaw25_GraphDown.j0 k l0 l1 l2 true) else (thalweglaw25_GraphDown.j0 k l0 l1 l2 (decide ((l1.length : Int) > 30)))
theorem thalweglaw25_GraphDown.mono_l : ∀ k, (∀ y0 y1 y2 y3, LeO (thalweglaw25_GraphDown.j0 k y0 y1 y2 y3) (thalweglaw25_GraphDown.j0 (k + 1) y0 y1 y2 y3)) ∧ (∀ y0 y1 y2 y3, LeO (thalweglaw25_GraphDown.l0 k y0 y1 y2 y3) (thalweglaw25_GraphDown.l0 (k + 1) y0 y1 y2 y3)) ∧ (∀ y0 y1 y2 y3 y4, LeO (thalweglaw25_GraphDown.l1 k y0 y1 y2 y3 y4) (thalweglaw25_GraphDown.l1 (k + 1) y0 y1 y2 y3 y4)) ∧ (∀ y0 y1 y2 y3 y4 y5 y6, LeO (thalweglaw25_GraphDown.l2 k y0 y1 y2 y3 y4 y5 y6) (thalweglaw25_GraphDown.l2 (k + 1) y0 y1 y2 y3 y4 y5 y6)) ∧ (∀ y0 y1 y2 y3 y4 y5 y6 y7, LeO (thalweglaw25_GraphDown.j4 k y0 y1 y2 y3 y4 y5 y6 y7) (thalweglaw25_GraphDown.j4 (k + 1) y0 y1 y2 y3 y4 y5 y6 y7))
  | 0 => ⟨fun _ _ _ _ r h => by simp [thalweglaw25_GraphDown.j0] at h, fun _ _ _ _ r h => by simp [thalweglaw25_GraphDown.l0] at h, fun _ _ _ _ _ r h => by simp [thalweglaw25_GraphDown.l1] at h, fun _ _ _ _ _ _ _ r h => by simp [thalweglaw25_GraphDown.l2] at h, fun _ _ _ _ _ _ _ _ r h => by simp [thalweglaw25_GraphDown.j4] at h⟩
  | k + 1 => by
    obtain ⟨ih0, ih1, ih2, ih3, ih4⟩ := thalweglaw25_GraphDown.mono_l k
    refine ⟨?_, ?_, ?_, ?_, ?_⟩
    · intro y0 y1 y2 y3
      unfold thalweglaw25_GraphDown.j0
      repeat' first
      | (with_reducible exact ih0 _ _ _ _)
      | (with_reducible exact ih1 _ _ _ _)
      | (with_reducible exact ih2 _ _ _ _ _)
      | (with_reducible exact ih3 _ _ _ _ _ _ _)
      | (with_reducible exact ih4 _ _ _ _ _ _ _ _)
      | (with_reducible exact graph_Cycle.mono _ _)
      | (with_reducible exact graph_Fresh.mono _ _ _)
      | (with_reducible exact height_Less.mono _ _ _ _ _ _ _ _ _ _ _ _ _)
      | (with_reducible exact thalweglaw25_awake.mono _)
      | (with_reducible exact LeO.refl _)
      | (with_reducible exact LeO.none _)
      | (with_reducible refine LeO.ite ?_ ?_)
      | (with_reducible refine LeO.bind ?_ (fun _ => ?_))
      | exact ih0 _ _ _ _
      | exact ih1 _ _ _ _
      | exact ih2 _ _ _ _ _
      | exact ih3 _ _ _ _ _ _ _
      | exact ih4 _ _ _ _ _ _ _ _
      | exact graph_Cycle.mono _ _
      | exact graph_Fresh.mono _ _ _
      | exact height_Less.mono _ _ _ _ _ _ _ _ _ _ _ _ _
      | exact thalweglaw25_awake.mono _
      | exact LeO.none _
      | refine LeO.ite ?_ ?_
      | refine LeO.bind ?_ (fun _ => ?_)
    · intro y0 y1 y2 y3
      unfold thalweglaw25_GraphDown.l0
      repeat' first
      | (with_reducible exact ih0 _ _ _ _)
      | (with_reducible exact ih1 _ _ _ _)
      | (with_reducible exact ih2 _ _ _ _ _)
      | (with_reducible exact ih3 _ _ _ _ _ _ _)
      | (with_reducible exact ih4 _ _ _ _ _ _ _ _)
      | (with_reducible exact graph_Cycle.mono _ _)
      | (with_reducible exact graph_Fresh.mono _ _ _)
      | (with_reducible exact height_Less.mono _ _ _ _ _ _ _ _ _ _ _ _ _)
      | (with_reducible exact thalweglaw25_awake.mono _)
      | (with_reducible exact LeO.refl _)
      | (with_reducible exact LeO.none _)
      | (with_reducible refine LeO.ite ?_ ?_)
      | (with_reducible refine LeO.bind ?_ (fun _ => ?_))
      | exact ih0 _ _ _ _
      | exact ih1 _ _ _ _
      | exact ih2 _ _ _ _ _
      | exact ih3 _ _ _ _ _ _ _
      | exact ih4 _ _ _ _ _ _ _ _
      | exact graph_Cycle.mono _ _
      | exact graph_Fresh.mono _ _ _
      | exact height_Less.mono _ _ _ _ _ _ _ _ _ _ _ _ _
      | exact thalweglaw25_awake.mono _
      | exact LeO.none _
      | refine LeO.ite ?_ ?_
      | refine LeO.bind ?_ (fun _ => ?_)
    · intro y0 y1 y2 y3 y4
      unfold thalweglaw25_GraphDown.l1
      repeat' first
      | (with_reducible exact ih0 _ _ _ _)
      | (with_reducible exact ih1 _ _ _ _)
      | (with_reducible exact ih2 _ _ _ _ _)
      | (with_reducible exact ih3 _ _ _ _ _ _ _)
      | (with_reducible exact ih4 _ _ _ _ _ _ _ _)
      | (with_reducible exact graph_Cycle.mono _ _)
      | (with_reducible exact graph_Fresh.mono _ _ _)
      | (with_reducible exact height_Less.mono _ _ _ _ _ _ _ _ _ _ _ _ _)
      | (with_reducible exact thalweglaw25_awake.mono _)
      | (with_reducible exact LeO.refl _)
      | (with_reducible exact LeO.none _)
      | (with_reducible refine LeO.ite ?_ ?_)
      | (with_reducible refine LeO.bind ?_ (fun _ => ?_))
      | exact ih0 _ _ _ _
      | exact ih1 _ _ _ _
      | exact ih2 _ _ _ _ _
      | exact ih3 _ _ _ _ _ _ _
      | exact ih4 _ _ _ _ _ _ _ _
      | exact graph_Cycle.mono _ _
      | exact graph_Fresh.mono _ _ _
      | exact height_Less.mono _ _ _ _ _ _ _ _ _ _ _ _ _
      | exact thalweglaw25_awake.mono _
      | exact LeO.none _
      | refine LeO.ite ?_ ?_
      | refine LeO.bind ?_ (fun _ => ?_)
    · intro y0 y1 y2 y3 y4 y5 y6
      unfold thalweglaw25_GraphDown.l2
      repeat' first
      | (with_reducible exact ih0 _ _ _ _)
      | (with_reducible exact ih1 _ _ _ _)
      | (with_reducible exact ih2 _ _ _ _ _)
      | (with_reducible exact ih3 _ _ _ _ _ _ _)
      | (with_reducible exact ih4 _ _ _ _ _ _ _ _)
      | (with_reducible exact graph_Cycle.mono _ _)
      | (with_reducible exact graph_Fresh.mono _ _ _)
      | (with_reducible exact height_Less.mono _ _ _ _ _ _ _ _ _ _ _ _ _)
      | (with_reducible exact thalweglaw25_awake.mono _)
      | (with_reducible exact LeO.refl _)
      | (with_reducible exact LeO.none _)
      | (with_reducible refine LeO.ite ?_ ?_)
      | (with_reducible refine LeO.bind ?_ (fun _ => ?_))
      | exact ih0 _ _ _ _
      | exact ih1 _ _ _ _
      | exact ih2 _ _ _ _ _
      | exact ih3 _ _ _ _ _ _ _
      | exact ih4 _ _ _ _ _ _ _ _
      | exact graph_Cycle.mono _ _
      | exact graph_Fresh.mono _ _ _
      | exact height_Less.mono _ _ _ _ _ _ _ _ _ _ _ _ _
      | exact thalweglaw25_awake.mono _
      | exact LeO.none _
      | refine LeO.ite ?_ ?_
      | refine LeO.bind ?_ (fun _ => ?_)
    intro y0 y1 y2 y3 y4 y5 y6 y7
    unfold thalweglaw25_GraphDown.j4
    repeat' first
    | (with_reducible exact ih0 _ _ _ _)
    | (with_reducible exact ih1 _ _ _ _)
    | (with_reducible exact ih2 _ _ _ _ _)
    | (with_reducible exact ih3 _ _ _ _ _ _ _)
    | (with_reducible exact ih4 _ _ _ _ _ _ _ _)
    | (with_reducible exact graph_Cycle.mono _ _)
    | (with_reducible exact graph_Fresh.mono _ _ _)
    | (with_reducible exact height_Less.mono _ _ _ _ _ _ _ _ _ _ _ _ _)
    | (with_reducible exact thalweglaw25_awake.mono _)
    | (with_reducible exact LeO.refl _)
    | (with_reducible exact LeO.none _)
    | (with_reducible refine LeO.ite ?_ ?_)
    | (with_reducible refine LeO.bind ?_ (fun _ => ?_))
    | exact ih0 _ _ _ _
    | exact ih1 _ _ _ _
    | exact ih2 _ _ _ _ _
    | exact ih3 _ _ _ _ _ _ _
    | exact ih4 _ _ _ _ _ _ _ _
    | exact graph_Cycle.mono _ _
    | exact graph_Fresh.mono _ _ _
    | exact height_Less.mono _ _ _ _ _ _ _ _ _ _ _ _ _
    | exact thalweglaw25_awake.mono _
    | exact LeO.none _
    | refine LeO.ite ?_ ?_
    | refine LeO.bind ?_ (fun _ => ?_)
theorem thalweglaw25_GraphDown.mono : ∀ a0 a1 a2 k, LeO (thalweglaw25_GraphDown.f k a0 a1 a2) (thalweglaw25_GraphDown.f (k + 1) a0 a1 a2) := by
  intro a0 a1 a2 k
  obtain ⟨ih0, ih1, ih2, ih3, ih4⟩ := thalweglaw25_GraphDown.mono_l k
  unfold thalweglaw25_GraphDown.f
  repeat' first
      | (with_reducible exact ih0 _ _ _ _)
      | (with_reducible exact ih1 _ _ _ _)
      | (with_reducible exact ih2 _ _ _ _ _)
      | (with_reducible exact ih3 _ _ _ _ _ _ _)
      | (with_reducible exact ih4 _ _ _ _ _ _ _ _)
      | (with_reducible exact graph_Cycle.mono _ _)
      | (with_reducible exact graph_Fresh.mono _ _ _)
      | (with_reducible exact height_Less.mono _ _ _ _ _ _ _ _ _ _ _ _ _)
      | (with_reducible exact thalweglaw25_awake.mono _)
      | (with_reducible exact LeO.refl _)
      | (with_reducible exact LeO.none _)
      | (with_reducible refine LeO.ite ?_ ?_)
      | (with_reducible refine LeO.bind ?_ (fun _ => ?_))
      | exact ih0 _ _ _ _
      | exact ih1 _ _ _ _
      | exact ih2 _ _ _ _ _
      | exact ih3 _ _ _ _ _ _ _
      | exact ih4 _ _ _ _ _ _ _ _
      | exact graph_Cycle.mono _ _
      | exact graph_Fresh.mono _ _ _
      | exact height_Less.mono _ _ _ _ _ _ _ _ _ _ _ _ _
      | exact thalweglaw25_awake.mono _
      | exact LeO.none _
      | refine LeO.ite ?_ ?_
      | refine LeO.bind ?_ (fun _ => ?_)
def thalweglaw25_GraphDown.T19 : Bool × List (List Nat × List Nat) := (true, [([], []), ([], []), ([0, 1], [0, 1]), ([2], [2]), ([3], [3]), ([4], [4]), ([5], [5]), ([6], [6]), ([6], [6]), ([7, 8, 6], [6, 7, 8]), ([9, 6], [6, 9]), ([10, 6], [6, 10]), ([6], [6]), ([12, 6], [6, 12]), ([11, 13, 6], [6, 11, 13]), ([6, 14], [6, 14]), ([15, 6], [15]), ([16], [16]), ([16], [16]), ([16], [16]), ([18, 19, 16], [16, 18, 19]), ([20, 16], [16, 20]), ([21, 16], [16, 21]), ([17, 22, 16], [16, 17, 22]), ([23, 16], [16, 23]), ([16], [16]), ([16], [16]), ([25, 26, 16], [16, 25, 26]), ([27, 16], [16, 27]), ([24, 28, 16, 16], [16, 24, 28]), ([29, 16], [16, 29]), ([16, 30], [16, 30])])
def thalweglaw25_GraphDown.B19 : List Nat := [0, 0, 3, 7, 15, 31, 63, 127, 127, 511, 1023, 2047, 127, 4223, 16383, 32767, 65535, 131071, 131071, 131071, 917503, 1966079, 4063231, 8388607, 16777215, 131071, 131071, 100794367, 235012095, 536870911, 1073741823, 2147483647]
theorem thalweglaw25_GraphDown.tab19 : rtab .any (opsOf Try.f7 19) = thalweglaw25_GraphDown.T19 := by kernel_rfl
theorem thalweglaw25_GraphDown.bits19 : waitsOk thalweglaw25_GraphDown.T19.2 thalweglaw25_GraphDown.B19 = true := by kernel_rfl
set_option maxHeartbeats 8000000 in
set_option maxRecDepth 100000 in
theorem thalweglaw25_GraphDown.calls (k : Nat) (A0 : Option Addr) (c0 : Nat) (l0 : List (S45)) (A1 : Option Addr) (c1 : Nat) (l1 : List (List (S55))) (A2 : Option Addr) (c2 : Nat) (l2 : List Int) (r : Bool) (w : World) (hr0 : Kd.C k45 w A0 l0.length l0) (hc0 : l0.length ≤ c0) (hr1 : Kd.C (Kd.slice 55 k55) w A1 l1.length l1) (hc1 : l1.length ≤ c1) (hr2 : Kd.C (Kd.int .i64) w A2 l2.length l2) (hc2 : l2.length ≤ c2) (h : thalweglaw25_GraphDown.f k l0 l1 l2 = some r) :
    Calls Try.prog 7 #[.slice A0 l0.length c0, .slice A1 l1.length c1, .slice A2 l2.length c2] w fun e w' => e = .returned (.bool r) ∧ Below w.heap.size w w' := by
  have hu45 := Try.underlying45
  have HR0 := YE hr0; have HC0 := YE hc0; clear hr0 hc0; have HR1 := YE hr1; have HC1 := YE hc1; clear hr1 hc1; have HR2 := YE hr2; have HC2 := YE hc2; clear hr2 hc2
  have HB := YE (Below.refl w.heap.size w)
  have H : (if (l0.length : Int) > 30 then (thalweglaw25_GraphDown.j0 k l0 l1 l2 true) else (thalweglaw25_GraphDown.j0 k l0 l1 l2 (decide ((l1.length : Int) > 30)))) = some r := h
  clear h; have HC4 := YE H; clear H
  go_enter Try.func7, Try.ntmps7
  go_upto_region 1 with (fail)
  go_cut [22] (fun v22 wc => ∃ (kq : Nat) (x22_3 : Bool), v22 = .bool x22_3 ∧ Aside0 (thalweglaw25_GraphDown.j0 kq l0 l1 l2 x22_3 = some r) ∧ Aside0 (kq ≤ k) ∧ Aside0 (Below w.heap.size w wc))
  case first =>
    have H := HC4.out
    clear HC4
    by_cases c5 : (l0.length : Int) > 30
    · rw [if_pos c5] at H
      have c5b0 : decide (30 < (l0.length : Int)) = true := decide_eq_true c5
      have c5b1 : decide (30 < l0.length) = true := decide_eq_true (by omega)
      clear c5
      (first | rw [c5b0] | (simp only [i64_w, i32_w]; rw [c5b0]) | rw [c5b1] | skip)
      have H' := YE H
      clear H
      go_wp2
      go_meet
      case rel => exact ⟨_, (true), (by first | rfl | (simp; done) | (simp [*]; done)), H', ⟨by first | omega | exact Nat.le_refl _⟩, ⟨by repeat (first | (with_reducible first | exact HB.out | apply YA | apply YB | apply YC) | exact HB.out)⟩⟩
    rw [if_neg c5] at H
    have c5b0 : decide (30 < (l0.length : Int)) = false := decide_eq_false c5
    have c5b1 : decide (30 < l0.length) = false := decide_eq_false (by omega)
    clear c5
    (first | rw [c5b0] | (simp only [i64_w, i32_w]; rw [c5b0]) | rw [c5b1] | skip)
    have H' := YE H
    clear H
    go_wp2
    go_meet
    case rel => exact ⟨_, (decide ((l1.length : Int) > 30)), (by first | rfl | (simp; done) | (simp [*]; done)), H', ⟨by first | omega | exact Nat.le_refl _⟩, ⟨by repeat (first | (with_reducible first | exact HB.out | apply YA | apply YB | apply YC) | exact HB.out)⟩⟩
  case rest =>
    clear HC4
    try clear c1
    try clear c2
    try clear p2
    try clear c5
    try clear c5b0
    try clear c5b1
    obtain ⟨kq, x22_3, rfl, HA, HJ3, HB⟩ := hcut
    cases kq with
    | zero => exact absurd HA.out (by simp [thalweglaw25_GraphDown.j0])
    | succ kj3 =>
      have H := HA.out
      clear HA
      simp only [thalweglaw25_GraphDown.j0] at H
      by_cases c6 : x22_3 = true
      · subst c6
        have H1 : (some true) = some r := by rw [if_pos rfl] at H; exact H
        clear H
        have H := H1
        clear H1
        obtain rfl := Option.some.inj H
        go_wp2
        go_ret
        exact ⟨by first | rfl | (simp [errW_none, errW_some] <;> rfl) | (simp [*, errW_none, errW_some] <;> rfl), by repeat (first | (with_reducible first | exact HB.out | apply YA | apply YB | apply YC) | exact HB.out)⟩
      replace c6 := Bool.eq_false_iff.mpr c6
      subst c6
      have H1 : (thalweglaw25_GraphDown.l0 kj3 l0 l1 l2 0) = some r := by rw [if_neg (show ¬ (false = true) by decide)] at H; exact H
      clear H
      have H := H1
      clear H1
      have H' := YE H
      clear H
      go_wp2
      go_loopg [7] kj3 (fun kq v7 w' => ∃ (x7_2 : Int), v7 = .int .i64 x7_2 ∧ Aside0 (thalweglaw25_GraphDown.l0 kq l0 l1 l2 x7_2 = some r) ∧ Aside0 (kq ≤ kj3) ∧ Aside0 (Below w.heap.size w w'))
      case atStart => exact ⟨(0), (by first | rfl | (simp; done) | (simp [*]; done)), H', ⟨Nat.le_refl _⟩, ⟨by repeat (first | (with_reducible first | exact HB.out | apply YA | apply YB | apply YC) | exact HB.out)⟩⟩
      case round =>
        clear H'
        try clear c1
        try clear c2
        try clear p2
        try clear c5
        try clear c5b0
        try clear c5b1
        try clear c6
        try clear p2
        obtain ⟨x7_2, rfl, HA, HK2, HB⟩ := hrel
        cases gk with
        | zero => exact absurd HA.out (by simp [thalweglaw25_GraphDown.l0])
        | succ k2 =>
          have H := HA.out
          clear HA
          simp only [thalweglaw25_GraphDown.l0] at H
          by_cases c7 : x7_2 < (l1.length : Int)
          · rw [if_pos c7] at H
            have c7b0 : decide (x7_2 < (l1.length : Int)) = true := decide_eq_true c7
            clear c7
            by_cases c8 : 0 ≤ x7_2
            rotate_left
            · rw [if_neg c8] at H
              exact absurd H (by simp)
            rw [if_pos c8] at H; have c8b0 : decide (0 ≤ x7_2) = true := decide_eq_true c8; clear c8
            by_cases c9 : ((rd_L8 l1 x7_2).length : Int) > 30
            · rw [if_pos c9] at H
              have c9b0 : decide (30 < ((rd_L8 l1 x7_2).length : Int)) = true := decide_eq_true c9
              have c9b1 : decide (30 < (rd_L8 l1 x7_2).length) = true := decide_eq_true (by omega)
              clear c9
              obtain rfl := Option.some.inj H
              have p414 : 0 ≤ (x7_2 : Int) := of_decide_eq_true (by first | (with_reducible assumption) | assumption)
              have q414 : x7_2 < (l1.length : Int) := of_decide_eq_true (by first | (with_reducible assumption) | assumption)
              obtain ⟨ad414, A414_0, c414_0, e414, hx414_0, hl414_0, hi414_0⟩ := at_L8 HR1.out x7_2 p414 q414
              cases e414
              replace hx414_0 := (HB.out.cell (World.block_lt_of_cell? w _ hx414_0)).trans hx414_0
              have HR414_0 := YE hi414_0; have HC414_0 := YE hl414_0; clear hi414_0 hl414_0
              replace p414 := eq_true p414
              replace q414 := eq_true q414
              go_wp2
              go_ret
              exact ⟨by first | rfl | (simp [errW_none, errW_some] <;> rfl) | (simp [*, errW_none, errW_some] <;> rfl), by repeat (first | (with_reducible first | exact HB.out | apply YA | apply YB | apply YC) | exact HB.out)⟩
            rw [if_neg c9] at H
            have c9b0 : decide (30 < ((rd_L8 l1 x7_2).length : Int)) = false := decide_eq_false c9
            have c9b1 : decide (30 < (rd_L8 l1 x7_2).length) = false := decide_eq_false (by omega)
            clear c9
            have H' := YE H
            clear H
            have p414 : 0 ≤ (x7_2 : Int) := of_decide_eq_true (by first | (with_reducible assumption) | assumption)
            have q414 : x7_2 < (l1.length : Int) := of_decide_eq_true (by first | (with_reducible assumption) | assumption)
            obtain ⟨ad414, A414_0, c414_0, e414, hx414_0, hl414_0, hi414_0⟩ := at_L8 HR1.out x7_2 p414 q414
            cases e414
            replace hx414_0 := (HB.out.cell (World.block_lt_of_cell? w _ hx414_0)).trans hx414_0
            have HR414_0 := YE hi414_0; have HC414_0 := YE hl414_0; clear hi414_0 hl414_0
            replace p414 := eq_true p414
            replace q414 := eq_true q414
            go_wp2
            go_roundg k2
            case measure => have := HJ3.out; have := HK2.out; omega
            case rel => exact ⟨(wrap64 (x7_2 + 1)), (by first | rfl | (simp; done) | (simp [*]; done)), H', ⟨by have := HJ3.out; have := HK2.out; omega⟩, ⟨by repeat (first | (with_reducible first | exact HB.out | apply YA | apply YB | apply YC) | exact HB.out)⟩⟩
          rw [if_neg c7] at H
          have c7b0 : decide (x7_2 < (l1.length : Int)) = false := decide_eq_false c7
          clear c7; replace H := Option.bind_eq_some_iff.mp H; obtain ⟨t415, A100, H⟩ := H
          replace H : (if 0 ≤ (l0.length : Int) then (if ((l0.length : Int) : Int).toNat ≤ 35184372088832 then (thalweglaw25_GraphDown.l1 k2 l0 l2 t415 (List.replicate ((l0.length : Int) : Int).toNat 0) 0) else (none)) else (none)) = some r := H
          have A10 := YE A100; clear A100
          by_cases c11 : 0 ≤ (l0.length : Int)
          rotate_left
          · rw [if_neg c11] at H
            exact absurd H (by simp)
          rw [if_pos c11] at H
          have c11b0 := eq_true c11
          have c11b1 : decide (0 ≤ (l0.length : Int)) = true := decide_eq_true c11
          clear c11
          by_cases c12 : ((l0.length : Int) : Int).toNat ≤ 35184372088832
          rotate_left
          · rw [if_neg c12] at H
            exact absurd H (by simp)
          rw [if_pos c12] at H
          have c12b0 := eq_true c12
          have c12b1 : decide (((l0.length : Int) : Int).toNat ≤ 35184372088832) = true := decide_eq_true c12
          clear c12
          obtain ⟨y418, hy418⟩ : ∃ y_ : List Int, y_ = (List.replicate ((l0.length : Int) : Int).toNat 0) := ⟨_, rfl⟩
          replace H : (thalweglaw25_GraphDown.l1 k2 l0 l2 t415 y418 0) = some r := by first | (rw [hy418]; with_reducible exact H) | (have H2_ := (Option.bind_some _ _).symm.trans H; rw [hy418]; with_reducible exact H2_) | (have H2_ := (Option.bind_some _ _).symm.trans H; with_reducible exact H2_) | with_reducible exact H | (rw [hy418]; exact H) | exact H
          have Ny418 := YE hy418; clear hy418
          have H' := YE H
          clear H
          go_wp2_with (first | ((with_reducible refine gate_callee (f := 18) rfl ?_); refine goesL_ (some 37) rfl rfl Try.func18 (by kernel_rfl) rfl #[.slice A0 l0.length c0, .slice A1 l1.length c1] rfl (by (try simp only [YI, List.map_cons, List.map_nil]); first | done | rfl | (simp only [YK, YJ]; rfl)) ?_; (with_reducible refine (graph_Fresh.calls k2 _ _ l0 _ _ l1 t415 _ ?side1 ?side2 ?side3 ?side4 A10.out).mono ?_); (case side1 => repeat (first | exact (Kd.C_below HR0.out HB.out) | (with_reducible refine Kd.C_alloc ?_ _) | (with_reducible refine Kd.C_drewN ?_ _) | (with_reducible refine Kd.C_drew ?_))); (case side2 => exact HC0.out); (case side3 => repeat (first | exact (Kd.C_below HR1.out HB.out) | (with_reducible refine Kd.C_alloc ?_ _) | (with_reducible refine Kd.C_drewN ?_ _) | (with_reducible refine Kd.C_drew ?_))); (case side4 => exact HC1.out); rintro e w13 ⟨v416, rfl, ho0, hb⟩; refine ⟨_, rfl, ?_⟩; have n0_ := YE (Kd.R_lower ho0 (below_size (by repeat (first | (with_reducible first | exact HB.out | apply YA | apply YB | apply YC) | exact HB.out)))); have n1_ := YE (YD (by repeat (first | (with_reducible first | exact HB.out | apply YA | apply YB | apply YC) | exact HB.out)) hb); clear HB; have HO417 := n0_; have HB := n1_; clear n0_ n1_; (try clear hb); (try clear hb2); (try clear hk); (try clear hi); (try clear ho0)) | ((with_reducible refine gate_dst (N := 40) rfl ?_); (try (refine gate_guard (by rfl) ?_; dsimp only)); refine Kd.R_make (Kd.int .i64) _ 3 rfl (N := 40) rfl 22 _ _ rfl (l0.length : Int) rfl rfl Try.underlying22 (.int .i64 0) 8 info3 rfl (by decide) (by omega) 0 (ok := fun _ => True) (okp := fun _ => True) rfl (fun _ hk => hk) trivial (of_decide_eq_true (by first | (with_reducible assumption) | assumption)) (Nat.le_trans (Nat.mul_le_mul_right _ (of_decide_eq_true (by first | (with_reducible assumption) | assumption) : (l0.length : Int).toNat ≤ 35184372088832)) (by omega)) (Below.refl _ _) (Nat.le_refl _) ?_; intro v419 w14 ho15 hb hg_ hnew_; clear hg_ hnew_; (first | rw [← Ny418.out] at ho15 | (simp only [Int.reduceToNat] at ho15; rw [← Ny418.out] at ho15)); have n0_ := YE (YO (by (with_reducible repeat (first | apply YL | apply YM | apply YN)); exact HO417.out) hb); have n1_ := YE (Kd.R_lower ho15 (below_size (by repeat (first | (with_reducible first | exact HB.out | apply YA | apply YB | apply YC) | exact HB.out)))); have n2_ := YE (YD (by repeat (first | (with_reducible first | exact HB.out | apply YA | apply YB | apply YC) | exact HB.out)) hb); clear HO417; clear HB; have HO417 := n0_; have HO420 := n1_; have HB := n2_; clear n0_ n1_ n2_; clear hb ho15))
          go_loopg [10] k2 (fun kq v10 w' => ∃ (x9_3 : List Int) (x10_3 : Int), v10 = .int .i64 x10_3 ∧ Aside0 (thalweglaw25_GraphDown.l1 kq l0 l2 t415 x9_3 x10_3 = some r) ∧ Aside0 (kq ≤ k2) ∧ Aside0 (Kd.R k36 36 w' w.heap.size (fun _ => True) v416 t415) ∧ Aside0 (Kd.R (Kd.int .i64) 3 w' w.heap.size (fun _ => True) v419 x9_3) ∧ Aside0 (Below w.heap.size w w'))
          case atStart => exact ⟨(y418), (0), (by first | rfl | (simp; done) | (simp [*]; done)), H', ⟨Nat.le_refl _⟩, ⟨by (with_reducible repeat (first | apply YL | apply YM | apply YN)); exact HO417.out⟩, ⟨by (with_reducible repeat (first | apply YL | apply YM | apply YN)); exact HO420.out⟩, ⟨by repeat (first | (with_reducible first | exact HB.out | apply YA | apply YB | apply YC) | exact HB.out)⟩⟩
          case round =>
            clear H'
            try clear c1
            try clear c2
            try clear p2
            try clear c4
            try clear p4
            try clear q4
            try clear hx4
            try clear c5
            try clear c5b0
            try clear c5b1
            try clear c6
            try clear p6
            try clear c7
            try clear c7b0
            try clear c8
            try clear c8b0
            try clear c9
            try clear c9b0
            try clear c9b1
            try clear c11
            try clear c11b0
            try clear c11b1
            try clear c12
            try clear c12b0
            try clear c12b1
            try clear hx414_0
            try clear p2
            try clear p414
            try clear q414
            obtain ⟨x9_3, x10_3, rfl, HA, HK3, HO_8, HO_9, HB⟩ := hrel
            cases gk with
            | zero => exact absurd HA.out (by simp [thalweglaw25_GraphDown.l1])
            | succ k3 =>
              have H := HA.out
              clear HA
              simp only [thalweglaw25_GraphDown.l1] at H
              by_cases c16 : x10_3 < (l0.length : Int)
              · rw [if_pos c16] at H
                have c16b0 : decide (x10_3 < (l0.length : Int)) = true := decide_eq_true c16
                clear c16
                by_cases c17 : 0 ≤ x10_3
                rotate_left
                · rw [if_neg c17] at H
                  exact absurd H (by simp)
                rw [if_pos c17] at H; have c17b0 : decide (0 ≤ x10_3) = true := decide_eq_true c17; clear c17
                by_cases c18 : x10_3 < (x9_3.length : Int)
                rotate_left
                · rw [if_neg c18] at H
                  exact absurd H (by simp)
                rw [if_pos c18] at H
                have c18b0 : decide (x10_3 < (x9_3.length : Int)) = true := decide_eq_true c18
                clear c18
                obtain ⟨y426, hy426⟩ : ∃ y_ : List Int, y_ = (x9_3.set (x10_3 : Int).toNat (-1)) := ⟨_, rfl⟩
                replace H : (thalweglaw25_GraphDown.l2 k3 l0 l2 t415 y426 x10_3 0 0) = some r := by first | (rw [hy426]; with_reducible exact H) | (have H2_ := (Option.bind_some _ _).symm.trans H; rw [hy426]; with_reducible exact H2_) | (have H2_ := (Option.bind_some _ _).symm.trans H; with_reducible exact H2_) | with_reducible exact H | (rw [hy426]; exact H) | exact H
                have Ny426 := YE hy426; clear hy426
                have H' := YE H
                clear H
                have p19 : 0 ≤ (x10_3 : Int) := of_decide_eq_true (by first | (with_reducible assumption) | assumption)
                have q19 : (x10_3 : Int) < ((x9_3.length : Int) : Int) := of_decide_eq_true (by first | (with_reducible assumption) | assumption)
                obtain ⟨go19, co19, eo19, gb19, gl19, cl19, HG19⟩ := Kd.R_form HO_9.out (by omega)
                (first | cases eo19 | (injection eo19 with ea_ en_ ec_; (first | subst ea_ | (injection ea_ with ea_; subst ea_)); subst ec_; clear en_))
                have GB19 := YE gb19; have GG19 := YE HG19; clear gb19 gl19 HG19
                obtain ⟨hx19_0, hf19_0⟩ := Kd.R_celln 0 HO_9.out (x10_3 : Int) p19 q19
                replace p19 := eq_true p19
                replace q19 := eq_true q19
                have HP20 := Kd.R_putg HO_9.out (x10_3 : Int) (-1)
                go_wp2_with (first | ((with_reducible refine gate_store (t := 3) (p := 49) rfl ?_); refine store_event (t := 3) (p := 49) (v := ?vo_w21) (w1 := (wr.setCell ⟨go19, (x10_3 : Int).toNat, none⟩ (.int .i64 (-1)))) ?hg ?ho ?hn ?hr ?_; (case ho => rfl); (case hg => rfl); (case hn => rfl); (case hr => first | (go_simp; done) | (go_simp; rfl)); intro w21 hw; have hg : wr.grownBy w21 (some go19) := (by rw [hw]; exact HP20.2); have hp_ : Kd.R (Kd.int .i64) 3 w21 w.heap.size (fun _ => True) (.slice (some ⟨go19, 0, none⟩) x9_3.length co19) y426 := (by rw [hw, Ny426.out]; exact HP20.1); clear HP20; have n0_ := YE (Kd.R_over' (v := (.slice (some ⟨go19, 0, none⟩) x9_3.length co19)) (by (with_reducible repeat (first | apply YL | apply YM | apply YN)); exact HO_8.out) (Kd.R_typed HO_9.out) (by decide) hg); have n1_ := YE (hp_); have n2_ := YE ((by rw [hw]; exact below_set (HB.out) GB19.out : Below w.heap.size w w21)); clear HO_8; clear HO_9; clear HB; have HO_8 := n0_; have HO_9 := n1_; have HB := n2_; clear n0_ n1_ n2_; clear hg hw hp_))
                go_loopg [11, 12] k3 (fun kq v11 v12 w' => ∃ (x9_4 : List Int) (x11_4 : Int) (x12_4 : Int), v11 = .int .i64 x11_4 ∧ v12 = .int .i64 x12_4 ∧ Aside0 (thalweglaw25_GraphDown.l2 kq l0 l2 t415 x9_4 x10_3 x11_4 x12_4 = some r) ∧ Aside0 (kq ≤ k3) ∧ Aside0 (Kd.R k36 36 w' w.heap.size (fun _ => True) v416 t415) ∧ Aside0 (Kd.R (Kd.int .i64) 3 w' w.heap.size (fun _ => True) (.slice (some ⟨go19, 0, none⟩) x9_3.length co19) x9_4) ∧ Aside0 (Below w.heap.size w w'))
                case atStart => exact ⟨(y426), (0), (0), (by first | rfl | (simp; done) | (simp [*]; done)), (by first | rfl | (simp; done) | (simp [*]; done)), H', ⟨Nat.le_refl _⟩, ⟨by (with_reducible repeat (first | apply YL | apply YM | apply YN)); exact HO_8.out⟩, ⟨by (with_reducible repeat (first | apply YL | apply YM | apply YN)); exact HO_9.out⟩, ⟨by repeat (first | (with_reducible first | exact HB.out | apply YA | apply YB | apply YC) | exact HB.out)⟩⟩
                case round =>
                  clear H'
                  try clear c1
                  try clear p1
                  try clear q1
                  try clear hx1
                  try clear c2
                  try clear p2
                  try clear c4
                  try clear p4
                  try clear q4
                  try clear hx4
                  try clear c5
                  try clear c5b0
                  try clear c5b1
                  try clear c6
                  try clear p6
                  try clear c7
                  try clear c7b0
                  try clear c8
                  try clear c8b0
                  try clear c9
                  try clear c9b0
                  try clear c9b1
                  try clear c11
                  try clear c11b0
                  try clear c11b1
                  try clear c12
                  try clear c12b0
                  try clear c12b1
                  try clear c16
                  try clear c16b0
                  try clear c17
                  try clear c17b0
                  try clear c18
                  try clear c18b0
                  try clear p19
                  try clear q19
                  try clear hx19
                  try clear hf19
                  try clear hx19_0
                  try clear hx414_0
                  try clear p19
                  try clear p2
                  try clear p4
                  try clear p414
                  try clear p6
                  try clear q19
                  try clear q4
                  try clear q414
                  obtain ⟨x9_4, x11_4, x12_4, rfl, rfl, HA, HK4, HO_8, HO_9, HB⟩ := hrel
                  have hl9_4 := (Kd.R_reads' HO_9.out).1
                  rw [hl9_4] at HO_9
                  (try simp only [hl9_4])
                  (try simp only [hl9_4] at HO_8)
                  cases gk with
                  | zero => exact absurd HA.out (by simp [thalweglaw25_GraphDown.l2])
                  | succ k4 =>
                    have H := HA.out
                    clear HA
                    simp only [thalweglaw25_GraphDown.l2] at H
                    by_cases c22 : x12_4 < (t415.length : Int)
                    · rw [if_pos c22] at H
                      have c22b0 : decide (x12_4 < (t415.length : Int)) = true := decide_eq_true c22
                      clear c22
                      by_cases c23 : 0 ≤ x12_4
                      rotate_left
                      · rw [if_neg c23] at H
                        exact absurd H (by simp)
                      rw [if_pos c23] at H; have c23b0 : decide (0 ≤ x12_4) = true := decide_eq_true c23; clear c23
                      by_cases c24 : ((rd_T36 t415 x12_4).f0) = x10_3
                      · rw [if_pos c24] at H
                        have c24b0 : (((rd_T36 t415 x12_4).f0) == x10_3) = true := beq_iff_eq.mpr c24
                        have c24b1 : (((rd_T36 t415 x12_4).f0) != x10_3) = false := bne_eq_false_iff_eq.mpr c24
                        clear c24; have HC25 := YE H; clear H
                        obtain ⟨Ao26, co26, eo26⟩ := Kd.R_slice HO_8.out
                        subst eo26
                        have p427 : 0 ≤ (x12_4 : Int) := of_decide_eq_true (by first | (with_reducible assumption) | assumption)
                        have q427 : x12_4 < (t415.length : Int) := of_decide_eq_true (by first | (with_reducible assumption) | assumption)
                        obtain ⟨ad427, e427, hx427_0, hx427_1⟩ := at_T36 (Kd.R_reads' HO_8.out).2.2 x12_4 p427 q427
                        cases e427
                        replace p427 := eq_true p427
                        replace q427 := eq_true q427
                        go_upto_region 19 with (fail)
                        go_cut [94] (fun v94 wc => ∃ (kq : Nat) (x94_24 : Bool), v94 = .bool x94_24 ∧ Aside0 (thalweglaw25_GraphDown.j4 kq l0 l2 t415 x9_4 x10_3 x11_4 x12_4 x94_24 = some r) ∧ Aside0 (kq ≤ k4) ∧ Aside0 (Kd.R k36 36 wc w.heap.size (fun _ => True) (.slice (some ad427) t415.length co26) t415) ∧ Aside0 (Kd.R (Kd.int .i64) 3 wc w.heap.size (fun _ => True) (.slice (some ⟨go19, 0, none⟩) x9_4.length co19) x9_4) ∧ Aside0 (Below w.heap.size w wc))
                        case first =>
                          have H := HC25.out
                          clear HC25
                          by_cases c27 : ((rd_T36 t415 x12_4).f1) < 0
                          · rw [if_pos c27] at H
                            have c27b0 : decide (((rd_T36 t415 x12_4).f1) < 0) = true := decide_eq_true c27; clear c27
                            (first | rw [c27b0] | (simp only [i64_w, i32_w]; rw [c27b0]) | rw [c27b1] | skip)
                            have H' := YE H
                            clear H
                            try go_wp2
                            have n0_ := YE (YN HO_8.out)
                            have n1_ := YE (YN HO_9.out)
                            have n2_ := YE (YC HB.out)
                            clear HO_8; clear HO_9; clear HB; have HO_8 := n0_; have HO_9 := n1_; have HB := n2_; clear n0_ n1_ n2_
                            have p428 : 0 ≤ (x12_4 : Int) := of_decide_eq_true (by first | (with_reducible assumption) | assumption)
                            have q428 : x12_4 < (t415.length : Int) := of_decide_eq_true (by first | (with_reducible assumption) | assumption)
                            obtain ⟨ad428, e428, hx428_0, hx428_1⟩ := at_T36 (Kd.R_reads' HO_8.out).2.2 x12_4 p428 q428
                            obtain rfl : ad427 = ad428 := (by injection e428)
                            replace p428 := eq_true p428
                            replace q428 := eq_true q428
                            refine start_ (n := 32) (S := fun w' => w'.cell? (ad427.add ((x12_4).toNat * 2)) = some (.int .i64 ((rd_T36 t415 x12_4).f0)) ∧ w'.cell? ⟨(ad427.add ((x12_4).toNat * 2)).block, (ad427.add ((x12_4).toNat * 2)).off + 1, none⟩ = some (.int .i64 ((rd_T36 t415 x12_4).f1))) (ds := []) #[false, false, false, false, false, false, false, false, false, false, false, false, false, false, false, false, false, false, false, false, false, false, false, false, false, false, false, false, false, false, false, false] (by kernel_rfl) rfl rfl ⟨hx428_0, hx428_1⟩ (fun hHeld => ?_); refine with_tabW thalweglaw25_GraphDown.tab19 thalweglaw25_GraphDown.bits19 (fun HT_ HW_ => ?_)
                            generalize wr.drew = w28 at HO_8 HO_9 HB hx428_0 hx428_1 hHeld ⊢
                            refine pure_ (i := 0) (N := some 63) (v := ?_) (a' := ?_) #[true, false, false, false, false, false, false, false, false, false, false, false, false, false, false, false, false, false, false, false, false, false, false, false, false, false, false, false, false, false, false, false] rfl rfl (any_of HT_.out (by kernel_rfl)) (fun _ _ _ h => h) (Or.inl ⟨by rfl, ?_⟩) ?_ ?_
                            rotate_left
                            · intro w'
                              go_simp; with_reducible rfl
                            rotate_left
                            · simp only [Act.put, YF, YG, YH, i64_w, i32_w]
                              rfl
                            refine pure_ (i := 1) (N := some 64) (v := ?_) (a' := ?_) #[true, true, false, false, false, false, false, false, false, false, false, false, false, false, false, false, false, false, false, false, false, false, false, false, false, false, false, false, false, false, false, false] rfl rfl (any_of HT_.out (by kernel_rfl)) (fun _ _ _ h => h) (Or.inl ⟨by rfl, ?_⟩) ?_ ?_
                            rotate_left
                            · intro w'
                              go_simp; with_reducible rfl
                            rotate_left
                            · simp only [Act.put, YF, YG, YH, i64_w, i32_w]
                              rfl
                            refine pure_ (i := 2) (N := some 65) (v := ?_) (a' := ?_) #[true, true, true, false, false, false, false, false, false, false, false, false, false, false, false, false, false, false, false, false, false, false, false, false, false, false, false, false, false, false, false, false] rfl rfl (any_of HT_.out (by kernel_rfl)) (fun _ _ _ h => h) (Or.inl ⟨by rfl, ?_⟩) ?_ ?_
                            rotate_left
                            · intro w'
                              go_simp; with_reducible rfl
                            rotate_left
                            · simp only [Act.put, YF, YG, YH, i64_w, i32_w]
                              rfl
                            refine pure_ (i := 3) (N := some 66) (v := ?_) (a' := ?_) #[true, true, true, true, false, false, false, false, false, false, false, false, false, false, false, false, false, false, false, false, false, false, false, false, false, false, false, false, false, false, false, false] rfl rfl (any_of HT_.out (by kernel_rfl)) (fun _ _ _ h => h) (Or.inl ⟨by rfl, ?_⟩) ?_ ?_
                            rotate_left
                            · intro w'
                              go_simp; with_reducible rfl
                            rotate_left
                            · simp only [Act.put, YF, YG, YH, i64_w, i32_w]
                              rfl
                            refine take_ (i := 4) (N := some 67) (v := ?_) (a' := ?_) #[true, true, true, true, true, false, false, false, false, false, false, false, false, false, false, false, false, false, false, false, false, false, false, false, false, false, false, false, false, false, false, false] rfl rfl (take_ofW HT_.out HW_.out (by kernel_rfl)) (fun _ _ _ h => h) (Or.inl ⟨by rfl, ?_⟩) hHeld ?_ ?_
                            rotate_left
                            · rintro w' ⟨s0, s1⟩
                              go_simp; with_reducible rfl
                            rotate_left
                            · simp only [Act.put, YF, YG, YH, i64_w, i32_w]
                              rfl
                            refine pure_ (i := 5) (N := some 68) (v := ?_) (a' := ?_) #[true, true, true, true, true, true, false, false, false, false, false, false, false, false, false, false, false, false, false, false, false, false, false, false, false, false, false, false, false, false, false, false] rfl rfl (any_of HT_.out (by kernel_rfl)) (fun _ _ _ h => h) (Or.inl ⟨by rfl, ?_⟩) ?_ ?_
                            rotate_left
                            · intro w'
                              go_simp; with_reducible rfl
                            rotate_left
                            · simp only [Act.put, YF, YG, YH, i64_w, i32_w]
                              rfl
                            refine pure_ (i := 6) (N := some 69) (v := ?_) (a' := ?_) #[true, true, true, true, true, true, true, false, false, false, false, false, false, false, false, false, false, false, false, false, false, false, false, false, false, false, false, false, false, false, false, false] rfl rfl (any_of HT_.out (by kernel_rfl)) (fun _ _ _ h => h) (Or.inl ⟨by rfl, ?_⟩) ?_ ?_
                            rotate_left
                            · intro w'
                              go_simp; with_reducible rfl
                            rotate_left
                            · simp only [Act.put, YF, YG, YH, i64_w, i32_w]
                              rfl
                            refine pure_ (i := 7) (N := some 70) (v := undef) (a' := ?_) #[true, true, true, true, true, true, true, true, false, false, false, false, false, false, false, false, false, false, false, false, false, false, false, false, false, false, false, false, false, false, false, false] rfl rfl (any_of HT_.out (by kernel_rfl)) (fun _ _ _ h => h) (Or.inr ⟨by rfl, rfl⟩) ?_ ?_
                            rotate_left
                            · simp only [Act.put, YF, YG, YH, i64_w, i32_w]
                              rfl
                            refine pure_ (i := 8) (N := some 71) (v := undef) (a' := ?_) #[true, true, true, true, true, true, true, true, true, false, false, false, false, false, false, false, false, false, false, false, false, false, false, false, false, false, false, false, false, false, false, false] rfl rfl (any_of HT_.out (by kernel_rfl)) (fun _ _ _ h => h) (Or.inr ⟨by rfl, rfl⟩) ?_ ?_
                            rotate_left
                            · simp only [Act.put, YF, YG, YH, i64_w, i32_w]
                              rfl
                            refine pure_ (i := 9) (N := some 72) (v := undef) (a' := ?_) #[true, true, true, true, true, true, true, true, true, true, false, false, false, false, false, false, false, false, false, false, false, false, false, false, false, false, false, false, false, false, false, false] rfl rfl (any_of HT_.out (by kernel_rfl)) (fun _ _ _ h => h) (Or.inr ⟨by rfl, rfl⟩) ?_ ?_
                            rotate_left
                            · simp only [Act.put, YF, YG, YH, i64_w, i32_w]
                              rfl
                            refine pure_ (i := 10) (N := some 73) (v := undef) (a' := ?_) #[true, true, true, true, true, true, true, true, true, true, true, false, false, false, false, false, false, false, false, false, false, false, false, false, false, false, false, false, false, false, false, false] rfl rfl (any_of HT_.out (by kernel_rfl)) (fun _ _ _ h => h) (Or.inr ⟨by rfl, rfl⟩) ?_ ?_
                            rotate_left
                            · simp only [Act.put, YF, YG, YH, i64_w, i32_w]
                              rfl
                            refine pure_ (i := 11) (N := some 74) (v := undef) (a' := ?_) #[true, true, true, true, true, true, true, true, true, true, true, true, false, false, false, false, false, false, false, false, false, false, false, false, false, false, false, false, false, false, false, false] rfl rfl (any_of HT_.out (by kernel_rfl)) (fun _ _ _ h => h) (Or.inr ⟨by rfl, rfl⟩) ?_ ?_
                            rotate_left
                            · simp only [Act.put, YF, YG, YH, i64_w, i32_w]
                              rfl
                            refine pure_ (i := 12) (N := some 75) (v := undef) (a' := ?_) #[true, true, true, true, true, true, true, true, true, true, true, true, true, false, false, false, false, false, false, false, false, false, false, false, false, false, false, false, false, false, false, false] rfl rfl (any_of HT_.out (by kernel_rfl)) (fun _ _ _ h => h) (Or.inr ⟨by rfl, rfl⟩) ?_ ?_
                            rotate_left
                            · simp only [Act.put, YF, YG, YH, i64_w, i32_w]
                              rfl
                            refine pure_ (i := 13) (N := some 76) (v := undef) (a' := ?_) #[true, true, true, true, true, true, true, true, true, true, true, true, true, true, false, false, false, false, false, false, false, false, false, false, false, false, false, false, false, false, false, false] rfl rfl (any_of HT_.out (by kernel_rfl)) (fun _ _ _ h => h) (Or.inr ⟨by rfl, rfl⟩) ?_ ?_
                            rotate_left
                            · simp only [Act.put, YF, YG, YH, i64_w, i32_w]
                              rfl
                            refine pure_ (i := 14) (N := some 77) (v := undef) (a' := ?_) #[true, true, true, true, true, true, true, true, true, true, true, true, true, true, true, false, false, false, false, false, false, false, false, false, false, false, false, false, false, false, false, false] rfl rfl (any_of HT_.out (by kernel_rfl)) (fun _ _ _ h => h) (Or.inr ⟨by rfl, rfl⟩) ?_ ?_
                            rotate_left
                            · simp only [Act.put, YF, YG, YH, i64_w, i32_w]
                              rfl
                            refine pure_ (i := 15) (N := some 78) (v := ?_) (a' := ?_) #[true, true, true, true, true, true, true, true, true, true, true, true, true, true, true, true, false, false, false, false, false, false, false, false, false, false, false, false, false, false, false, false] rfl rfl (any_of HT_.out (by kernel_rfl)) (fun _ _ _ h => h) (Or.inl ⟨by rfl, ?_⟩) ?_ ?_
                            rotate_left
                            · intro w'
                              go_simp; with_reducible rfl
                            rotate_left
                            · simp only [Act.put, YF, YG, YH, i64_w, i32_w]
                              rfl
                            refine pure_ (i := 16) (N := some 79) (v := ?_) (a' := ?_) #[true, true, true, true, true, true, true, true, true, true, true, true, true, true, true, true, true, false, false, false, false, false, false, false, false, false, false, false, false, false, false, false] rfl rfl (any_of HT_.out (by kernel_rfl)) (fun _ _ _ h => h) (Or.inl ⟨by rfl, ?_⟩) ?_ ?_
                            rotate_left
                            · intro w'
                              go_simp; with_reducible rfl
                            rotate_left
                            · simp only [Act.put, YF, YG, YH, i64_w, i32_w]
                              rfl
                            refine pure_ (i := 17) (N := some 80) (v := undef) (a' := ?_) #[true, true, true, true, true, true, true, true, true, true, true, true, true, true, true, true, true, true, false, false, false, false, false, false, false, false, false, false, false, false, false, false] rfl rfl (any_of HT_.out (by kernel_rfl)) (fun _ _ _ h => h) (Or.inr ⟨by rfl, rfl⟩) ?_ ?_
                            rotate_left
                            · simp only [Act.put, YF, YG, YH, i64_w, i32_w]
                              rfl
                            refine pure_ (i := 18) (N := some 81) (v := undef) (a' := ?_) #[true, true, true, true, true, true, true, true, true, true, true, true, true, true, true, true, true, true, true, false, false, false, false, false, false, false, false, false, false, false, false, false] rfl rfl (any_of HT_.out (by kernel_rfl)) (fun _ _ _ h => h) (Or.inr ⟨by rfl, rfl⟩) ?_ ?_
                            rotate_left
                            · simp only [Act.put, YF, YG, YH, i64_w, i32_w]
                              rfl
                            refine pure_ (i := 19) (N := some 82) (v := undef) (a' := ?_) #[true, true, true, true, true, true, true, true, true, true, true, true, true, true, true, true, true, true, true, true, false, false, false, false, false, false, false, false, false, false, false, false] rfl rfl (any_of HT_.out (by kernel_rfl)) (fun _ _ _ h => h) (Or.inr ⟨by rfl, rfl⟩) ?_ ?_
                            rotate_left
                            · simp only [Act.put, YF, YG, YH, i64_w, i32_w]
                              rfl
                            refine pure_ (i := 20) (N := some 83) (v := undef) (a' := ?_) #[true, true, true, true, true, true, true, true, true, true, true, true, true, true, true, true, true, true, true, true, true, false, false, false, false, false, false, false, false, false, false, false] rfl rfl (any_of HT_.out (by kernel_rfl)) (fun _ _ _ h => h) (Or.inr ⟨by rfl, rfl⟩) ?_ ?_
                            rotate_left
                            · simp only [Act.put, YF, YG, YH, i64_w, i32_w]
                              rfl
                            refine pure_ (i := 21) (N := some 84) (v := undef) (a' := ?_) #[true, true, true, true, true, true, true, true, true, true, true, true, true, true, true, true, true, true, true, true, true, true, false, false, false, false, false, false, false, false, false, false] rfl rfl (any_of HT_.out (by kernel_rfl)) (fun _ _ _ h => h) (Or.inr ⟨by rfl, rfl⟩) ?_ ?_
                            rotate_left
                            · simp only [Act.put, YF, YG, YH, i64_w, i32_w]
                              rfl
                            refine pure_ (i := 22) (N := some 85) (v := undef) (a' := ?_) #[true, true, true, true, true, true, true, true, true, true, true, true, true, true, true, true, true, true, true, true, true, true, true, false, false, false, false, false, false, false, false, false] rfl rfl (any_of HT_.out (by kernel_rfl)) (fun _ _ _ h => h) (Or.inr ⟨by rfl, rfl⟩) ?_ ?_
                            rotate_left
                            · simp only [Act.put, YF, YG, YH, i64_w, i32_w]
                              rfl
                            refine pure_ (i := 23) (N := some 86) (v := undef) (a' := ?_) #[true, true, true, true, true, true, true, true, true, true, true, true, true, true, true, true, true, true, true, true, true, true, true, true, false, false, false, false, false, false, false, false] rfl rfl (any_of HT_.out (by kernel_rfl)) (fun _ _ _ h => h) (Or.inr ⟨by rfl, rfl⟩) ?_ ?_
                            rotate_left
                            · simp only [Act.put, YF, YG, YH, i64_w, i32_w]
                              rfl
                            refine pure_ (i := 24) (N := some 87) (v := undef) (a' := ?_) #[true, true, true, true, true, true, true, true, true, true, true, true, true, true, true, true, true, true, true, true, true, true, true, true, true, false, false, false, false, false, false, false] rfl rfl (any_of HT_.out (by kernel_rfl)) (fun _ _ _ h => h) (Or.inr ⟨by rfl, rfl⟩) ?_ ?_
                            rotate_left
                            · simp only [Act.put, YF, YG, YH, i64_w, i32_w]
                              rfl
                            refine pure_ (i := 25) (N := some 88) (v := undef) (a' := ?_) #[true, true, true, true, true, true, true, true, true, true, true, true, true, true, true, true, true, true, true, true, true, true, true, true, true, true, false, false, false, false, false, false] rfl rfl (any_of HT_.out (by kernel_rfl)) (fun _ _ _ h => h) (Or.inr ⟨by rfl, rfl⟩) ?_ ?_
                            rotate_left
                            · simp only [Act.put, YF, YG, YH, i64_w, i32_w]
                              rfl
                            refine pure_ (i := 26) (N := some 89) (v := undef) (a' := ?_) #[true, true, true, true, true, true, true, true, true, true, true, true, true, true, true, true, true, true, true, true, true, true, true, true, true, true, true, false, false, false, false, false] rfl rfl (any_of HT_.out (by kernel_rfl)) (fun _ _ _ h => h) (Or.inr ⟨by rfl, rfl⟩) ?_ ?_
                            rotate_left
                            · simp only [Act.put, YF, YG, YH, i64_w, i32_w]
                              rfl
                            refine pure_ (i := 27) (N := some 90) (v := undef) (a' := ?_) #[true, true, true, true, true, true, true, true, true, true, true, true, true, true, true, true, true, true, true, true, true, true, true, true, true, true, true, true, false, false, false, false] rfl rfl (any_of HT_.out (by kernel_rfl)) (fun _ _ _ h => h) (Or.inr ⟨by rfl, rfl⟩) ?_ ?_
                            rotate_left
                            · simp only [Act.put, YF, YG, YH, i64_w, i32_w]
                              rfl
                            refine pure_ (i := 28) (N := some 91) (v := undef) (a' := ?_) #[true, true, true, true, true, true, true, true, true, true, true, true, true, true, true, true, true, true, true, true, true, true, true, true, true, true, true, true, true, false, false, false] rfl rfl (any_of HT_.out (by kernel_rfl)) (fun _ _ _ h => h) (Or.inr ⟨by rfl, rfl⟩) ?_ ?_
                            rotate_left
                            · simp only [Act.put, YF, YG, YH, i64_w, i32_w]
                              rfl
                            refine pure_ (i := 29) (N := some 92) (v := undef) (a' := ?_) #[true, true, true, true, true, true, true, true, true, true, true, true, true, true, true, true, true, true, true, true, true, true, true, true, true, true, true, true, true, true, false, false] rfl rfl (any_of HT_.out (by kernel_rfl)) (fun _ _ _ h => h) (Or.inr ⟨by rfl, rfl⟩) ?_ ?_
                            rotate_left
                            · simp only [Act.put, YF, YG, YH, i64_w, i32_w]
                              rfl
                            refine pure_ (i := 30) (N := some 93) (v := undef) (a' := ?_) #[true, true, true, true, true, true, true, true, true, true, true, true, true, true, true, true, true, true, true, true, true, true, true, true, true, true, true, true, true, true, true, false] rfl rfl (any_of HT_.out (by kernel_rfl)) (fun _ _ _ h => h) (Or.inr ⟨by rfl, rfl⟩) ?_ ?_
                            rotate_left
                            · simp only [Act.put, YF, YG, YH, i64_w, i32_w]
                              rfl
                            refine pure_ (i := 31) (N := some 94) (v := ?_) (a' := ?_) #[true, true, true, true, true, true, true, true, true, true, true, true, true, true, true, true, true, true, true, true, true, true, true, true, true, true, true, true, true, true, true, true] rfl rfl (any_of HT_.out (by kernel_rfl)) (fun _ _ _ h => h) (Or.inl ⟨by rfl, ?_⟩) ?_ ?_
                            rotate_left
                            · intro w'
                              go_simp; with_reducible rfl
                            rotate_left
                            · simp only [Act.put, YF, YG, YH, i64_w, i32_w]
                              rfl
                            refine done_ (done_of HT_.out (by kernel_rfl)) ?_
                            try go_wp2
                            go_meet
                            case rel => exact ⟨_, (true), (by first | rfl | (simp; done) | (simp [*]; done)), H', ⟨by have := HJ3.out; have := HK2.out; have := HK3.out; have := HK4.out; first | omega | exact Nat.le_refl _⟩, ⟨by (try simp only [hl9_4]); (with_reducible repeat (first | apply YL | apply YM | apply YN)); exact HO_8.out⟩, ⟨by (try simp only [hl9_4]); (with_reducible repeat (first | apply YL | apply YM | apply YN)); exact HO_9.out⟩, ⟨by repeat (first | (with_reducible first | exact HB.out | apply YA | apply YB | apply YC) | exact HB.out)⟩⟩
                          rw [if_neg c27] at H; have c27b0 : decide (((rd_T36 t415 x12_4).f1) < 0) = false := decide_eq_false c27; clear c27
                          (first | rw [c27b0] | (simp only [i64_w, i32_w]; rw [c27b0]) | rw [c27b1] | skip)
                          by_cases c29 : ((rd_T36 t415 x12_4).f1) ≥ (l0.length : Int)
                          · rw [if_pos c29] at H
                            have c29b0 : decide ((l0.length : Int) ≤ ((rd_T36 t415 x12_4).f1)) = true := decide_eq_true c29
                            clear c29
                            have H' := YE H
                            clear H
                            try go_wp2
                            have n0_ := YE (YN HO_8.out)
                            have n1_ := YE (YN HO_9.out)
                            have n2_ := YE (YC HB.out)
                            clear HO_8; clear HO_9; clear HB; have HO_8 := n0_; have HO_9 := n1_; have HB := n2_; clear n0_ n1_ n2_
                            have p428 : 0 ≤ (x12_4 : Int) := of_decide_eq_true (by first | (with_reducible assumption) | assumption)
                            have q428 : x12_4 < (t415.length : Int) := of_decide_eq_true (by first | (with_reducible assumption) | assumption)
                            obtain ⟨ad428, e428, hx428_0, hx428_1⟩ := at_T36 (Kd.R_reads' HO_8.out).2.2 x12_4 p428 q428
                            obtain rfl : ad427 = ad428 := (by injection e428)
                            replace p428 := eq_true p428
                            replace q428 := eq_true q428
                            have p429 : 0 ≤ (x12_4 : Int) := of_decide_eq_true (by first | (with_reducible assumption) | assumption)
                            have q429 : x12_4 < (t415.length : Int) := of_decide_eq_true (by first | (with_reducible assumption) | assumption)
                            obtain ⟨ad429, e429, hx429_0, hx429_1⟩ := at_T36 (Kd.R_reads' HO_8.out).2.2 x12_4 p429 q429
                            obtain rfl : ad427 = ad429 := (by injection e429)
                            replace p429 := eq_true p429
                            replace q429 := eq_true q429
                            refine start_ (n := 32) (S := fun w' => w'.cell? (ad427.add ((x12_4).toNat * 2)) = some (.int .i64 ((rd_T36 t415 x12_4).f0)) ∧ w'.cell? ⟨(ad427.add ((x12_4).toNat * 2)).block, (ad427.add ((x12_4).toNat * 2)).off + 1, none⟩ = some (.int .i64 ((rd_T36 t415 x12_4).f1)) ∧ w'.cell? (ad427.add ((x12_4).toNat * 2)) = some (.int .i64 ((rd_T36 t415 x12_4).f0)) ∧ w'.cell? ⟨(ad427.add ((x12_4).toNat * 2)).block, (ad427.add ((x12_4).toNat * 2)).off + 1, none⟩ = some (.int .i64 ((rd_T36 t415 x12_4).f1))) (ds := []) #[false, false, false, false, false, false, false, false, false, false, false, false, false, false, false, false, false, false, false, false, false, false, false, false, false, false, false, false, false, false, false, false] (by kernel_rfl) rfl rfl ⟨hx428_0, hx428_1, hx429_0, hx429_1⟩ (fun hHeld => ?_); refine with_tabW thalweglaw25_GraphDown.tab19 thalweglaw25_GraphDown.bits19 (fun HT_ HW_ => ?_)
                            generalize wr.drew = w30 at HO_8 HO_9 HB hx428_0 hx428_1 hx429_0 hx429_1 hHeld ⊢
                            refine pure_ (i := 0) (N := some 63) (v := ?_) (a' := ?_) #[true, false, false, false, false, false, false, false, false, false, false, false, false, false, false, false, false, false, false, false, false, false, false, false, false, false, false, false, false, false, false, false] rfl rfl (any_of HT_.out (by kernel_rfl)) (fun _ _ _ h => h) (Or.inl ⟨by rfl, ?_⟩) ?_ ?_
                            rotate_left
                            · intro w'
                              go_simp; with_reducible rfl
                            rotate_left
                            · simp only [Act.put, YF, YG, YH, i64_w, i32_w]
                              rfl
                            refine pure_ (i := 1) (N := some 64) (v := ?_) (a' := ?_) #[true, true, false, false, false, false, false, false, false, false, false, false, false, false, false, false, false, false, false, false, false, false, false, false, false, false, false, false, false, false, false, false] rfl rfl (any_of HT_.out (by kernel_rfl)) (fun _ _ _ h => h) (Or.inl ⟨by rfl, ?_⟩) ?_ ?_
                            rotate_left
                            · intro w'
                              go_simp; with_reducible rfl
                            rotate_left
                            · simp only [Act.put, YF, YG, YH, i64_w, i32_w]
                              rfl
                            refine pure_ (i := 2) (N := some 65) (v := ?_) (a' := ?_) #[true, true, true, false, false, false, false, false, false, false, false, false, false, false, false, false, false, false, false, false, false, false, false, false, false, false, false, false, false, false, false, false] rfl rfl (any_of HT_.out (by kernel_rfl)) (fun _ _ _ h => h) (Or.inl ⟨by rfl, ?_⟩) ?_ ?_
                            rotate_left
                            · intro w'
                              go_simp; with_reducible rfl
                            rotate_left
                            · simp only [Act.put, YF, YG, YH, i64_w, i32_w]
                              rfl
                            refine pure_ (i := 3) (N := some 66) (v := ?_) (a' := ?_) #[true, true, true, true, false, false, false, false, false, false, false, false, false, false, false, false, false, false, false, false, false, false, false, false, false, false, false, false, false, false, false, false] rfl rfl (any_of HT_.out (by kernel_rfl)) (fun _ _ _ h => h) (Or.inl ⟨by rfl, ?_⟩) ?_ ?_
                            rotate_left
                            · intro w'
                              go_simp; with_reducible rfl
                            rotate_left
                            · simp only [Act.put, YF, YG, YH, i64_w, i32_w]
                              rfl
                            refine take_ (i := 4) (N := some 67) (v := ?_) (a' := ?_) #[true, true, true, true, true, false, false, false, false, false, false, false, false, false, false, false, false, false, false, false, false, false, false, false, false, false, false, false, false, false, false, false] rfl rfl (take_ofW HT_.out HW_.out (by kernel_rfl)) (fun _ _ _ h => h) (Or.inl ⟨by rfl, ?_⟩) hHeld ?_ ?_
                            rotate_left
                            · rintro w' ⟨s0, s1, s2, s3⟩
                              go_simp; with_reducible rfl
                            rotate_left
                            · simp only [Act.put, YF, YG, YH, i64_w, i32_w]
                              rfl
                            refine pure_ (i := 5) (N := some 68) (v := ?_) (a' := ?_) #[true, true, true, true, true, true, false, false, false, false, false, false, false, false, false, false, false, false, false, false, false, false, false, false, false, false, false, false, false, false, false, false] rfl rfl (any_of HT_.out (by kernel_rfl)) (fun _ _ _ h => h) (Or.inl ⟨by rfl, ?_⟩) ?_ ?_
                            rotate_left
                            · intro w'
                              go_simp; with_reducible rfl
                            rotate_left
                            · simp only [Act.put, YF, YG, YH, i64_w, i32_w]
                              rfl
                            refine pure_ (i := 6) (N := some 69) (v := ?_) (a' := ?_) #[true, true, true, true, true, true, true, false, false, false, false, false, false, false, false, false, false, false, false, false, false, false, false, false, false, false, false, false, false, false, false, false] rfl rfl (any_of HT_.out (by kernel_rfl)) (fun _ _ _ h => h) (Or.inl ⟨by rfl, ?_⟩) ?_ ?_
                            rotate_left
                            · intro w'
                              go_simp; with_reducible rfl
                            rotate_left
                            · simp only [Act.put, YF, YG, YH, i64_w, i32_w]
                              rfl
                            refine pure_ (i := 7) (N := some 70) (v := ?_) (a' := ?_) #[true, true, true, true, true, true, true, true, false, false, false, false, false, false, false, false, false, false, false, false, false, false, false, false, false, false, false, false, false, false, false, false] rfl rfl (any_of HT_.out (by kernel_rfl)) (fun _ _ _ h => h) (Or.inl ⟨by rfl, ?_⟩) ?_ ?_
                            rotate_left
                            · intro w'
                              go_simp; with_reducible rfl
                            rotate_left
                            · simp only [Act.put, YF, YG, YH, i64_w, i32_w]
                              rfl
                            refine pure_ (i := 8) (N := some 71) (v := ?_) (a' := ?_) #[true, true, true, true, true, true, true, true, true, false, false, false, false, false, false, false, false, false, false, false, false, false, false, false, false, false, false, false, false, false, false, false] rfl rfl (any_of HT_.out (by kernel_rfl)) (fun _ _ _ h => h) (Or.inl ⟨by rfl, ?_⟩) ?_ ?_
                            rotate_left
                            · intro w'
                              go_simp; with_reducible rfl
                            rotate_left
                            · simp only [Act.put, YF, YG, YH, i64_w, i32_w]
                              rfl
                            refine pure_ (i := 9) (N := some 72) (v := ?_) (a' := ?_) #[true, true, true, true, true, true, true, true, true, true, false, false, false, false, false, false, false, false, false, false, false, false, false, false, false, false, false, false, false, false, false, false] rfl rfl (any_of HT_.out (by kernel_rfl)) (fun _ _ _ h => h) (Or.inl ⟨by rfl, ?_⟩) ?_ ?_
                            rotate_left
                            · intro w'
                              go_simp; with_reducible rfl
                            rotate_left
                            · simp only [Act.put, YF, YG, YH, i64_w, i32_w]
                              rfl
                            refine pure_ (i := 10) (N := some 73) (v := ?_) (a' := ?_) #[true, true, true, true, true, true, true, true, true, true, true, false, false, false, false, false, false, false, false, false, false, false, false, false, false, false, false, false, false, false, false, false] rfl rfl (any_of HT_.out (by kernel_rfl)) (fun _ _ _ h => h) (Or.inl ⟨by rfl, ?_⟩) ?_ ?_
                            rotate_left
                            · intro w'
                              go_simp; with_reducible rfl
                            rotate_left
                            · simp only [Act.put, YF, YG, YH, i64_w, i32_w]
                              rfl
                            refine pure_ (i := 12) (N := some 75) (v := ?_) (a' := ?_) #[true, true, true, true, true, true, true, true, true, true, true, false, true, false, false, false, false, false, false, false, false, false, false, false, false, false, false, false, false, false, false, false] rfl rfl (any_of HT_.out (by kernel_rfl)) (fun _ _ _ h => h) (Or.inl ⟨by rfl, ?_⟩) ?_ ?_
                            rotate_left
                            · intro w'
                              go_simp; with_reducible rfl
                            rotate_left
                            · simp only [Act.put, YF, YG, YH, i64_w, i32_w]
                              rfl
                            refine pure_ (i := 13) (N := some 76) (v := ?_) (a' := ?_) #[true, true, true, true, true, true, true, true, true, true, true, false, true, true, false, false, false, false, false, false, false, false, false, false, false, false, false, false, false, false, false, false] rfl rfl (any_of HT_.out (by kernel_rfl)) (fun _ _ _ h => h) (Or.inl ⟨by rfl, ?_⟩) ?_ ?_
                            rotate_left
                            · intro w'
                              go_simp; with_reducible rfl
                            rotate_left
                            · simp only [Act.put, YF, YG, YH, i64_w, i32_w]
                              rfl
                            refine take_ (i := 11) (N := some 74) (v := ?_) (a' := ?_) #[true, true, true, true, true, true, true, true, true, true, true, true, true, true, false, false, false, false, false, false, false, false, false, false, false, false, false, false, false, false, false, false] rfl rfl (take_ofW HT_.out HW_.out (by kernel_rfl)) (fun _ _ _ h => h) (Or.inl ⟨by rfl, ?_⟩) hHeld ?_ ?_
                            rotate_left
                            · rintro w' ⟨s0, s1, s2, s3⟩
                              go_simp; with_reducible rfl
                            rotate_left
                            · simp only [Act.put, YF, YG, YH, i64_w, i32_w]
                              rfl
                            refine pure_ (i := 14) (N := some 77) (v := ?_) (a' := ?_) #[true, true, true, true, true, true, true, true, true, true, true, true, true, true, true, false, false, false, false, false, false, false, false, false, false, false, false, false, false, false, false, false] rfl rfl (any_of HT_.out (by kernel_rfl)) (fun _ _ _ h => h) (Or.inl ⟨by rfl, ?_⟩) ?_ ?_
                            rotate_left
                            · intro w'
                              go_simp; with_reducible rfl
                            rotate_left
                            · simp only [Act.put, YF, YG, YH, i64_w, i32_w]
                              rfl
                            refine pure_ (i := 15) (N := some 78) (v := ?_) (a' := ?_) #[true, true, true, true, true, true, true, true, true, true, true, true, true, true, true, true, false, false, false, false, false, false, false, false, false, false, false, false, false, false, false, false] rfl rfl (any_of HT_.out (by kernel_rfl)) (fun _ _ _ h => h) (Or.inl ⟨by rfl, ?_⟩) ?_ ?_
                            rotate_left
                            · intro w'
                              go_simp; with_reducible rfl
                            rotate_left
                            · simp only [Act.put, YF, YG, YH, i64_w, i32_w]
                              rfl
                            refine pure_ (i := 16) (N := some 79) (v := ?_) (a' := ?_) #[true, true, true, true, true, true, true, true, true, true, true, true, true, true, true, true, true, false, false, false, false, false, false, false, false, false, false, false, false, false, false, false] rfl rfl (any_of HT_.out (by kernel_rfl)) (fun _ _ _ h => h) (Or.inl ⟨by rfl, ?_⟩) ?_ ?_
                            rotate_left
                            · intro w'
                              go_simp; with_reducible rfl
                            rotate_left
                            · simp only [Act.put, YF, YG, YH, i64_w, i32_w]
                              rfl
                            refine pure_ (i := 17) (N := some 80) (v := undef) (a' := ?_) #[true, true, true, true, true, true, true, true, true, true, true, true, true, true, true, true, true, true, false, false, false, false, false, false, false, false, false, false, false, false, false, false] rfl rfl (any_of HT_.out (by kernel_rfl)) (fun _ _ _ h => h) (Or.inr ⟨by rfl, rfl⟩) ?_ ?_
                            rotate_left
                            · simp only [Act.put, YF, YG, YH, i64_w, i32_w]
                              rfl
                            refine pure_ (i := 18) (N := some 81) (v := undef) (a' := ?_) #[true, true, true, true, true, true, true, true, true, true, true, true, true, true, true, true, true, true, true, false, false, false, false, false, false, false, false, false, false, false, false, false] rfl rfl (any_of HT_.out (by kernel_rfl)) (fun _ _ _ h => h) (Or.inr ⟨by rfl, rfl⟩) ?_ ?_
                            rotate_left
                            · simp only [Act.put, YF, YG, YH, i64_w, i32_w]
                              rfl
                            refine pure_ (i := 19) (N := some 82) (v := undef) (a' := ?_) #[true, true, true, true, true, true, true, true, true, true, true, true, true, true, true, true, true, true, true, true, false, false, false, false, false, false, false, false, false, false, false, false] rfl rfl (any_of HT_.out (by kernel_rfl)) (fun _ _ _ h => h) (Or.inr ⟨by rfl, rfl⟩) ?_ ?_
                            rotate_left
                            · simp only [Act.put, YF, YG, YH, i64_w, i32_w]
                              rfl
                            refine pure_ (i := 20) (N := some 83) (v := undef) (a' := ?_) #[true, true, true, true, true, true, true, true, true, true, true, true, true, true, true, true, true, true, true, true, true, false, false, false, false, false, false, false, false, false, false, false] rfl rfl (any_of HT_.out (by kernel_rfl)) (fun _ _ _ h => h) (Or.inr ⟨by rfl, rfl⟩) ?_ ?_
                            rotate_left
                            · simp only [Act.put, YF, YG, YH, i64_w, i32_w]
                              rfl
                            refine pure_ (i := 21) (N := some 84) (v := undef) (a' := ?_) #[true, true, true, true, true, true, true, true, true, true, true, true, true, true, true, true, true, true, true, true, true, true, false, false, false, false, false, false, false, false, false, false] rfl rfl (any_of HT_.out (by kernel_rfl)) (fun _ _ _ h => h) (Or.inr ⟨by rfl, rfl⟩) ?_ ?_
                            rotate_left
                            · simp only [Act.put, YF, YG, YH, i64_w, i32_w]
                              rfl
                            refine pure_ (i := 22) (N := some 85) (v := undef) (a' := ?_) #[true, true, true, true, true, true, true, true, true, true, true, true, true, true, true, true, true, true, true, true, true, true, true, false, false, false, false, false, false, false, false, false] rfl rfl (any_of HT_.out (by kernel_rfl)) (fun _ _ _ h => h) (Or.inr ⟨by rfl, rfl⟩) ?_ ?_
                            rotate_left
                            · simp only [Act.put, YF, YG, YH, i64_w, i32_w]
                              rfl
                            refine pure_ (i := 23) (N := some 86) (v := undef) (a' := ?_) #[true, true, true, true, true, true, true, true, true, true, true, true, true, true, true, true, true, true, true, true, true, true, true, true, false, false, false, false, false, false, false, false] rfl rfl (any_of HT_.out (by kernel_rfl)) (fun _ _ _ h => h) (Or.inr ⟨by rfl, rfl⟩) ?_ ?_
                            rotate_left
                            · simp only [Act.put, YF, YG, YH, i64_w, i32_w]
                              rfl
                            refine pure_ (i := 24) (N := some 87) (v := undef) (a' := ?_) #[true, true, true, true, true, true, true, true, true, true, true, true, true, true, true, true, true, true, true, true, true, true, true, true, true, false, false, false, false, false, false, false] rfl rfl (any_of HT_.out (by kernel_rfl)) (fun _ _ _ h => h) (Or.inr ⟨by rfl, rfl⟩) ?_ ?_
                            rotate_left
                            · simp only [Act.put, YF, YG, YH, i64_w, i32_w]
                              rfl
                            refine pure_ (i := 25) (N := some 88) (v := undef) (a' := ?_) #[true, true, true, true, true, true, true, true, true, true, true, true, true, true, true, true, true, true, true, true, true, true, true, true, true, true, false, false, false, false, false, false] rfl rfl (any_of HT_.out (by kernel_rfl)) (fun _ _ _ h => h) (Or.inr ⟨by rfl, rfl⟩) ?_ ?_
                            rotate_left
                            · simp only [Act.put, YF, YG, YH, i64_w, i32_w]
                              rfl
                            refine pure_ (i := 26) (N := some 89) (v := undef) (a' := ?_) #[true, true, true, true, true, true, true, true, true, true, true, true, true, true, true, true, true, true, true, true, true, true, true, true, true, true, true, false, false, false, false, false] rfl rfl (any_of HT_.out (by kernel_rfl)) (fun _ _ _ h => h) (Or.inr ⟨by rfl, rfl⟩) ?_ ?_
                            rotate_left
                            · simp only [Act.put, YF, YG, YH, i64_w, i32_w]
                              rfl
                            refine pure_ (i := 27) (N := some 90) (v := undef) (a' := ?_) #[true, true, true, true, true, true, true, true, true, true, true, true, true, true, true, true, true, true, true, true, true, true, true, true, true, true, true, true, false, false, false, false] rfl rfl (any_of HT_.out (by kernel_rfl)) (fun _ _ _ h => h) (Or.inr ⟨by rfl, rfl⟩) ?_ ?_
                            rotate_left
                            · simp only [Act.put, YF, YG, YH, i64_w, i32_w]
                              rfl
                            refine pure_ (i := 28) (N := some 91) (v := undef) (a' := ?_) #[true, true, true, true, true, true, true, true, true, true, true, true, true, true, true, true, true, true, true, true, true, true, true, true, true, true, true, true, true, false, false, false] rfl rfl (any_of HT_.out (by kernel_rfl)) (fun _ _ _ h => h) (Or.inr ⟨by rfl, rfl⟩) ?_ ?_
                            rotate_left
                            · simp only [Act.put, YF, YG, YH, i64_w, i32_w]
                              rfl
                            refine pure_ (i := 29) (N := some 92) (v := undef) (a' := ?_) #[true, true, true, true, true, true, true, true, true, true, true, true, true, true, true, true, true, true, true, true, true, true, true, true, true, true, true, true, true, true, false, false] rfl rfl (any_of HT_.out (by kernel_rfl)) (fun _ _ _ h => h) (Or.inr ⟨by rfl, rfl⟩) ?_ ?_
                            rotate_left
                            · simp only [Act.put, YF, YG, YH, i64_w, i32_w]
                              rfl
                            refine pure_ (i := 30) (N := some 93) (v := undef) (a' := ?_) #[true, true, true, true, true, true, true, true, true, true, true, true, true, true, true, true, true, true, true, true, true, true, true, true, true, true, true, true, true, true, true, false] rfl rfl (any_of HT_.out (by kernel_rfl)) (fun _ _ _ h => h) (Or.inr ⟨by rfl, rfl⟩) ?_ ?_
                            rotate_left
                            · simp only [Act.put, YF, YG, YH, i64_w, i32_w]
                              rfl
                            refine pure_ (i := 31) (N := some 94) (v := ?_) (a' := ?_) #[true, true, true, true, true, true, true, true, true, true, true, true, true, true, true, true, true, true, true, true, true, true, true, true, true, true, true, true, true, true, true, true] rfl rfl (any_of HT_.out (by kernel_rfl)) (fun _ _ _ h => h) (Or.inl ⟨by rfl, ?_⟩) ?_ ?_
                            rotate_left
                            · intro w'
                              go_simp; with_reducible rfl
                            rotate_left
                            · simp only [Act.put, YF, YG, YH, i64_w, i32_w]
                              rfl
                            refine done_ (done_of HT_.out (by kernel_rfl)) ?_
                            try go_wp2
                            go_meet
                            case rel => exact ⟨_, (true), (by first | rfl | (simp; done) | (simp [*]; done)), H', ⟨by have := HJ3.out; have := HK2.out; have := HK3.out; have := HK4.out; first | omega | exact Nat.le_refl _⟩, ⟨by (try simp only [hl9_4]); (with_reducible repeat (first | apply YL | apply YM | apply YN)); exact HO_8.out⟩, ⟨by (try simp only [hl9_4]); (with_reducible repeat (first | apply YL | apply YM | apply YN)); exact HO_9.out⟩, ⟨by repeat (first | (with_reducible first | exact HB.out | apply YA | apply YB | apply YC) | exact HB.out)⟩⟩
                          rw [if_neg c29] at H
                          have c29b0 : decide ((l0.length : Int) ≤ ((rd_T36 t415 x12_4).f1)) = false := decide_eq_false c29
                          clear c29
                          by_cases c31 : 0 ≤ ((rd_T36 t415 x12_4).f1)
                          rotate_left
                          · rw [if_neg c31] at H
                            exact absurd H (by simp)
                          rw [if_pos c31] at H; have c31b0 : decide (0 ≤ ((rd_T36 t415 x12_4).f1)) = true := decide_eq_true c31; clear c31
                          by_cases c32 : ((rd_T36 t415 x12_4).f1) < (l0.length : Int)
                          rotate_left
                          · rw [if_neg c32] at H
                            exact absurd H (by simp)
                          rw [if_pos c32] at H
                          have c32b0 : decide (((rd_T36 t415 x12_4).f1) < (l0.length : Int)) = true := decide_eq_true c32
                          clear c32
                          by_cases c33 : 0 ≤ x10_3
                          rotate_left
                          · rw [if_neg c33] at H
                            exact absurd H (by simp)
                          rw [if_pos c33] at H; have c33b0 : decide (0 ≤ x10_3) = true := decide_eq_true c33; clear c33
                          by_cases c34 : x10_3 < (l0.length : Int)
                          rotate_left
                          · rw [if_neg c34] at H
                            exact absurd H (by simp)
                          rw [if_pos c34] at H
                          have c34b0 : decide (x10_3 < (l0.length : Int)) = true := decide_eq_true c34
                          clear c34; replace H := Option.bind_eq_some_iff.mp H; obtain ⟨t433, A350, H⟩ := H
                          replace H : (thalweglaw25_GraphDown.j4 k4 l0 l2 t415 x9_4 x10_3 x11_4 x12_4 (!t433)) = some r := H
                          have A35 := YE A350; clear A350
                          have H' := YE H
                          clear H
                          try go_wp2
                          have n0_ := YE (YN HO_8.out)
                          have n1_ := YE (YN HO_9.out)
                          have n2_ := YE (YC HB.out)
                          clear HO_8; clear HO_9; clear HB; have HO_8 := n0_; have HO_9 := n1_; have HB := n2_; clear n0_ n1_ n2_
                          have p428 : 0 ≤ (x12_4 : Int) := of_decide_eq_true (by first | (with_reducible assumption) | assumption)
                          have q428 : x12_4 < (t415.length : Int) := of_decide_eq_true (by first | (with_reducible assumption) | assumption)
                          obtain ⟨ad428, e428, hx428_0, hx428_1⟩ := at_T36 (Kd.R_reads' HO_8.out).2.2 x12_4 p428 q428
                          obtain rfl : ad427 = ad428 := (by injection e428)
                          replace p428 := eq_true p428
                          replace q428 := eq_true q428
                          have p429 : 0 ≤ (x12_4 : Int) := of_decide_eq_true (by first | (with_reducible assumption) | assumption)
                          have q429 : x12_4 < (t415.length : Int) := of_decide_eq_true (by first | (with_reducible assumption) | assumption)
                          obtain ⟨ad429, e429, hx429_0, hx429_1⟩ := at_T36 (Kd.R_reads' HO_8.out).2.2 x12_4 p429 q429
                          obtain rfl : ad427 = ad429 := (by injection e429)
                          replace p429 := eq_true p429
                          replace q429 := eq_true q429
                          have p430 : 0 ≤ (x12_4 : Int) := of_decide_eq_true (by first | (with_reducible assumption) | assumption)
                          have q430 : x12_4 < (t415.length : Int) := of_decide_eq_true (by first | (with_reducible assumption) | assumption)
                          obtain ⟨ad430, e430, hx430_0, hx430_1⟩ := at_T36 (Kd.R_reads' HO_8.out).2.2 x12_4 p430 q430
                          obtain rfl : ad427 = ad430 := (by injection e430)
                          replace p430 := eq_true p430
                          replace q430 := eq_true q430
                          have p431 : 0 ≤ (((rd_T36 t415 x12_4).f1) : Int) := of_decide_eq_true (by first | (with_reducible assumption) | assumption)
                          have q431 : ((rd_T36 t415 x12_4).f1) < (l0.length : Int) := of_decide_eq_true (by first | (with_reducible assumption) | assumption)
                          obtain ⟨ad431, e431, hx431_0, hx431_1, hx431_2, hx431_3, hx431_4, hx431_5⟩ := at_T45 HR0.out ((rd_T36 t415 x12_4).f1) p431 q431
                          have hw431_5 := hx431_5
                          have hw431_4 := hx431_4
                          have hw431_3 := hx431_3
                          have hw431_2 := hx431_2
                          have hw431_1 := hx431_1
                          have hw431_0 := hx431_0
                          cases e431
                          replace hx431_0 := (HB.out.cell (World.block_lt_of_cell? w _ hx431_0)).trans hx431_0
                          replace hx431_1 := (HB.out.cell (World.block_lt_of_cell? w _ hx431_1)).trans hx431_1
                          replace hx431_2 := (HB.out.cell (World.block_lt_of_cell? w _ hx431_2)).trans hx431_2
                          replace hx431_3 := (HB.out.cell (World.block_lt_of_cell? w _ hx431_3)).trans hx431_3
                          replace hx431_4 := (HB.out.cell (World.block_lt_of_cell? w _ hx431_4)).trans hx431_4
                          replace hx431_5 := (HB.out.cell (World.block_lt_of_cell? w _ hx431_5)).trans hx431_5
                          replace p431 := eq_true p431
                          replace q431 := eq_true q431
                          have p432 : 0 ≤ (x10_3 : Int) := of_decide_eq_true (by first | (with_reducible assumption) | assumption)
                          have q432 : x10_3 < (l0.length : Int) := of_decide_eq_true (by first | (with_reducible assumption) | assumption)
                          obtain ⟨ad432, e432, hx432_0, hx432_1, hx432_2, hx432_3, hx432_4, hx432_5⟩ := at_T45 HR0.out x10_3 p432 q432
                          have hw432_5 := hx432_5
                          have hw432_4 := hx432_4
                          have hw432_3 := hx432_3
                          have hw432_2 := hx432_2
                          have hw432_1 := hx432_1
                          have hw432_0 := hx432_0
                          obtain rfl : ad431 = ad432 := (by injection e432)
                          replace hx432_0 := (HB.out.cell (World.block_lt_of_cell? w _ hx432_0)).trans hx432_0
                          replace hx432_1 := (HB.out.cell (World.block_lt_of_cell? w _ hx432_1)).trans hx432_1
                          replace hx432_2 := (HB.out.cell (World.block_lt_of_cell? w _ hx432_2)).trans hx432_2
                          replace hx432_3 := (HB.out.cell (World.block_lt_of_cell? w _ hx432_3)).trans hx432_3
                          replace hx432_4 := (HB.out.cell (World.block_lt_of_cell? w _ hx432_4)).trans hx432_4
                          replace hx432_5 := (HB.out.cell (World.block_lt_of_cell? w _ hx432_5)).trans hx432_5
                          replace p432 := eq_true p432
                          replace q432 := eq_true q432
                          refine start_ (n := 32) (S := fun w' => w'.cell? (ad427.add ((x12_4).toNat * 2)) = some (.int .i64 ((rd_T36 t415 x12_4).f0)) ∧ w'.cell? ⟨(ad427.add ((x12_4).toNat * 2)).block, (ad427.add ((x12_4).toNat * 2)).off + 1, none⟩ = some (.int .i64 ((rd_T36 t415 x12_4).f1)) ∧ w'.cell? (ad427.add ((x12_4).toNat * 2)) = some (.int .i64 ((rd_T36 t415 x12_4).f0)) ∧ w'.cell? ⟨(ad427.add ((x12_4).toNat * 2)).block, (ad427.add ((x12_4).toNat * 2)).off + 1, none⟩ = some (.int .i64 ((rd_T36 t415 x12_4).f1)) ∧ w'.cell? (ad427.add ((x12_4).toNat * 2)) = some (.int .i64 ((rd_T36 t415 x12_4).f0)) ∧ w'.cell? ⟨(ad427.add ((x12_4).toNat * 2)).block, (ad427.add ((x12_4).toNat * 2)).off + 1, none⟩ = some (.int .i64 ((rd_T36 t415 x12_4).f1)) ∧ w'.cell? (ad431.add ((((rd_T36 t415 x12_4).f1)).toNat * 6)) = some (.bool ((rd_T45 l0 ((rd_T36 t415 x12_4).f1)).f0)) ∧ w'.cell? ⟨(ad431.add ((((rd_T36 t415 x12_4).f1)).toNat * 6)).block, (ad431.add ((((rd_T36 t415 x12_4).f1)).toNat * 6)).off + 1, none⟩ = some (.int .i64 ((rd_T45 l0 ((rd_T36 t415 x12_4).f1)).f1)) ∧ w'.cell? ⟨(ad431.add ((((rd_T36 t415 x12_4).f1)).toNat * 6)).block, (ad431.add ((((rd_T36 t415 x12_4).f1)).toNat * 6)).off + 2, none⟩ = some (.int .i64 ((rd_T45 l0 ((rd_T36 t415 x12_4).f1)).f2)) ∧ w'.cell? ⟨(ad431.add ((((rd_T36 t415 x12_4).f1)).toNat * 6)).block, (ad431.add ((((rd_T36 t415 x12_4).f1)).toNat * 6)).off + 3, none⟩ = some (.int .i64 ((rd_T45 l0 ((rd_T36 t415 x12_4).f1)).f3)) ∧ w'.cell? ⟨(ad431.add ((((rd_T36 t415 x12_4).f1)).toNat * 6)).block, (ad431.add ((((rd_T36 t415 x12_4).f1)).toNat * 6)).off + 4, none⟩ = some (.int .i64 ((rd_T45 l0 ((rd_T36 t415 x12_4).f1)).f4)) ∧ w'.cell? ⟨(ad431.add ((((rd_T36 t415 x12_4).f1)).toNat * 6)).block, (ad431.add ((((rd_T36 t415 x12_4).f1)).toNat * 6)).off + 5, none⟩ = some (.int .i64 ((rd_T45 l0 ((rd_T36 t415 x12_4).f1)).f5)) ∧ w'.cell? (ad431.add ((x10_3).toNat * 6)) = some (.bool ((rd_T45 l0 x10_3).f0)) ∧ w'.cell? ⟨(ad431.add ((x10_3).toNat * 6)).block, (ad431.add ((x10_3).toNat * 6)).off + 1, none⟩ = some (.int .i64 ((rd_T45 l0 x10_3).f1)) ∧ w'.cell? ⟨(ad431.add ((x10_3).toNat * 6)).block, (ad431.add ((x10_3).toNat * 6)).off + 2, none⟩ = some (.int .i64 ((rd_T45 l0 x10_3).f2)) ∧ w'.cell? ⟨(ad431.add ((x10_3).toNat * 6)).block, (ad431.add ((x10_3).toNat * 6)).off + 3, none⟩ = some (.int .i64 ((rd_T45 l0 x10_3).f3)) ∧ w'.cell? ⟨(ad431.add ((x10_3).toNat * 6)).block, (ad431.add ((x10_3).toNat * 6)).off + 4, none⟩ = some (.int .i64 ((rd_T45 l0 x10_3).f4)) ∧ w'.cell? ⟨(ad431.add ((x10_3).toNat * 6)).block, (ad431.add ((x10_3).toNat * 6)).off + 5, none⟩ = some (.int .i64 ((rd_T45 l0 x10_3).f5))) (ds := []) #[false, false, false, false, false, false, false, false, false, false, false, false, false, false, false, false, false, false, false, false, false, false, false, false, false, false, false, false, false, false, false, false] (by kernel_rfl) rfl rfl ⟨hx428_0, hx428_1, hx429_0, hx429_1, hx430_0, hx430_1, ((HB.out.cell (World.block_lt_of_cell? w _ hw431_0)).trans hw431_0), ((HB.out.cell (World.block_lt_of_cell? w _ hw431_1)).trans hw431_1), ((HB.out.cell (World.block_lt_of_cell? w _ hw431_2)).trans hw431_2), ((HB.out.cell (World.block_lt_of_cell? w _ hw431_3)).trans hw431_3), ((HB.out.cell (World.block_lt_of_cell? w _ hw431_4)).trans hw431_4), ((HB.out.cell (World.block_lt_of_cell? w _ hw431_5)).trans hw431_5), ((HB.out.cell (World.block_lt_of_cell? w _ hw432_0)).trans hw432_0), ((HB.out.cell (World.block_lt_of_cell? w _ hw432_1)).trans hw432_1), ((HB.out.cell (World.block_lt_of_cell? w _ hw432_2)).trans hw432_2), ((HB.out.cell (World.block_lt_of_cell? w _ hw432_3)).trans hw432_3), ((HB.out.cell (World.block_lt_of_cell? w _ hw432_4)).trans hw432_4), ((HB.out.cell (World.block_lt_of_cell? w _ hw432_5)).trans hw432_5)⟩ (fun hHeld => ?_); refine with_tabW thalweglaw25_GraphDown.tab19 thalweglaw25_GraphDown.bits19 (fun HT_ HW_ => ?_)
                          generalize wr.drew = w36 at HO_8 HO_9 HB hx428_0 hx428_1 hx429_0 hx429_1 hx430_0 hx430_1 hx431_0 hx431_1 hx431_2 hx431_3 hx431_4 hx431_5 hx432_0 hx432_1 hx432_2 hx432_3 hx432_4 hx432_5 hHeld ⊢
                          refine pure_ (i := 0) (N := some 63) (v := ?_) (a' := ?_) #[true, false, false, false, false, false, false, false, false, false, false, false, false, false, false, false, false, false, false, false, false, false, false, false, false, false, false, false, false, false, false, false] rfl rfl (any_of HT_.out (by kernel_rfl)) (fun _ _ _ h => h) (Or.inl ⟨by rfl, ?_⟩) ?_ ?_
                          rotate_left
                          · intro w'
                            go_simp; with_reducible rfl
                          rotate_left
                          · simp only [Act.put, YF, YG, YH, i64_w, i32_w]
                            rfl
                          refine pure_ (i := 1) (N := some 64) (v := ?_) (a' := ?_) #[true, true, false, false, false, false, false, false, false, false, false, false, false, false, false, false, false, false, false, false, false, false, false, false, false, false, false, false, false, false, false, false] rfl rfl (any_of HT_.out (by kernel_rfl)) (fun _ _ _ h => h) (Or.inl ⟨by rfl, ?_⟩) ?_ ?_
                          rotate_left
                          · intro w'
                            go_simp; with_reducible rfl
                          rotate_left
                          · simp only [Act.put, YF, YG, YH, i64_w, i32_w]
                            rfl
                          refine pure_ (i := 2) (N := some 65) (v := ?_) (a' := ?_) #[true, true, true, false, false, false, false, false, false, false, false, false, false, false, false, false, false, false, false, false, false, false, false, false, false, false, false, false, false, false, false, false] rfl rfl (any_of HT_.out (by kernel_rfl)) (fun _ _ _ h => h) (Or.inl ⟨by rfl, ?_⟩) ?_ ?_
                          rotate_left
                          · intro w'
                            go_simp; with_reducible rfl
                          rotate_left
                          · simp only [Act.put, YF, YG, YH, i64_w, i32_w]
                            rfl
                          refine pure_ (i := 3) (N := some 66) (v := ?_) (a' := ?_) #[true, true, true, true, false, false, false, false, false, false, false, false, false, false, false, false, false, false, false, false, false, false, false, false, false, false, false, false, false, false, false, false] rfl rfl (any_of HT_.out (by kernel_rfl)) (fun _ _ _ h => h) (Or.inl ⟨by rfl, ?_⟩) ?_ ?_
                          rotate_left
                          · intro w'
                            go_simp; with_reducible rfl
                          rotate_left
                          · simp only [Act.put, YF, YG, YH, i64_w, i32_w]
                            rfl
                          refine take_ (i := 4) (N := some 67) (v := ?_) (a' := ?_) #[true, true, true, true, true, false, false, false, false, false, false, false, false, false, false, false, false, false, false, false, false, false, false, false, false, false, false, false, false, false, false, false] rfl rfl (take_ofW HT_.out HW_.out (by kernel_rfl)) (fun _ _ _ h => h) (Or.inl ⟨by rfl, ?_⟩) hHeld ?_ ?_
                          rotate_left
                          · rintro w' ⟨s0, s1, s2, s3, s4, s5, s6, s7, s8, s9, s10, s11, s12, s13, s14, s15, s16, s17⟩
                            go_simp; with_reducible rfl
                          rotate_left
                          · simp only [Act.put, YF, YG, YH, i64_w, i32_w]
                            rfl
                          refine pure_ (i := 5) (N := some 68) (v := ?_) (a' := ?_) #[true, true, true, true, true, true, false, false, false, false, false, false, false, false, false, false, false, false, false, false, false, false, false, false, false, false, false, false, false, false, false, false] rfl rfl (any_of HT_.out (by kernel_rfl)) (fun _ _ _ h => h) (Or.inl ⟨by rfl, ?_⟩) ?_ ?_
                          rotate_left
                          · intro w'
                            go_simp; with_reducible rfl
                          rotate_left
                          · simp only [Act.put, YF, YG, YH, i64_w, i32_w]
                            rfl
                          refine pure_ (i := 6) (N := some 69) (v := ?_) (a' := ?_) #[true, true, true, true, true, true, true, false, false, false, false, false, false, false, false, false, false, false, false, false, false, false, false, false, false, false, false, false, false, false, false, false] rfl rfl (any_of HT_.out (by kernel_rfl)) (fun _ _ _ h => h) (Or.inl ⟨by rfl, ?_⟩) ?_ ?_
                          rotate_left
                          · intro w'
                            go_simp; with_reducible rfl
                          rotate_left
                          · simp only [Act.put, YF, YG, YH, i64_w, i32_w]
                            rfl
                          refine pure_ (i := 7) (N := some 70) (v := ?_) (a' := ?_) #[true, true, true, true, true, true, true, true, false, false, false, false, false, false, false, false, false, false, false, false, false, false, false, false, false, false, false, false, false, false, false, false] rfl rfl (any_of HT_.out (by kernel_rfl)) (fun _ _ _ h => h) (Or.inl ⟨by rfl, ?_⟩) ?_ ?_
                          rotate_left
                          · intro w'
                            go_simp; with_reducible rfl
                          rotate_left
                          · simp only [Act.put, YF, YG, YH, i64_w, i32_w]
                            rfl
                          refine pure_ (i := 8) (N := some 71) (v := ?_) (a' := ?_) #[true, true, true, true, true, true, true, true, true, false, false, false, false, false, false, false, false, false, false, false, false, false, false, false, false, false, false, false, false, false, false, false] rfl rfl (any_of HT_.out (by kernel_rfl)) (fun _ _ _ h => h) (Or.inl ⟨by rfl, ?_⟩) ?_ ?_
                          rotate_left
                          · intro w'
                            go_simp; with_reducible rfl
                          rotate_left
                          · simp only [Act.put, YF, YG, YH, i64_w, i32_w]
                            rfl
                          refine pure_ (i := 9) (N := some 72) (v := ?_) (a' := ?_) #[true, true, true, true, true, true, true, true, true, true, false, false, false, false, false, false, false, false, false, false, false, false, false, false, false, false, false, false, false, false, false, false] rfl rfl (any_of HT_.out (by kernel_rfl)) (fun _ _ _ h => h) (Or.inl ⟨by rfl, ?_⟩) ?_ ?_
                          rotate_left
                          · intro w'
                            go_simp; with_reducible rfl
                          rotate_left
                          · simp only [Act.put, YF, YG, YH, i64_w, i32_w]
                            rfl
                          refine pure_ (i := 10) (N := some 73) (v := ?_) (a' := ?_) #[true, true, true, true, true, true, true, true, true, true, true, false, false, false, false, false, false, false, false, false, false, false, false, false, false, false, false, false, false, false, false, false] rfl rfl (any_of HT_.out (by kernel_rfl)) (fun _ _ _ h => h) (Or.inl ⟨by rfl, ?_⟩) ?_ ?_
                          rotate_left
                          · intro w'
                            go_simp; with_reducible rfl
                          rotate_left
                          · simp only [Act.put, YF, YG, YH, i64_w, i32_w]
                            rfl
                          refine pure_ (i := 12) (N := some 75) (v := ?_) (a' := ?_) #[true, true, true, true, true, true, true, true, true, true, true, false, true, false, false, false, false, false, false, false, false, false, false, false, false, false, false, false, false, false, false, false] rfl rfl (any_of HT_.out (by kernel_rfl)) (fun _ _ _ h => h) (Or.inl ⟨by rfl, ?_⟩) ?_ ?_
                          rotate_left
                          · intro w'
                            go_simp; with_reducible rfl
                          rotate_left
                          · simp only [Act.put, YF, YG, YH, i64_w, i32_w]
                            rfl
                          refine pure_ (i := 13) (N := some 76) (v := ?_) (a' := ?_) #[true, true, true, true, true, true, true, true, true, true, true, false, true, true, false, false, false, false, false, false, false, false, false, false, false, false, false, false, false, false, false, false] rfl rfl (any_of HT_.out (by kernel_rfl)) (fun _ _ _ h => h) (Or.inl ⟨by rfl, ?_⟩) ?_ ?_
                          rotate_left
                          · intro w'
                            go_simp; with_reducible rfl
                          rotate_left
                          · simp only [Act.put, YF, YG, YH, i64_w, i32_w]
                            rfl
                          refine take_ (i := 11) (N := some 74) (v := ?_) (a' := ?_) #[true, true, true, true, true, true, true, true, true, true, true, true, true, true, false, false, false, false, false, false, false, false, false, false, false, false, false, false, false, false, false, false] rfl rfl (take_ofW HT_.out HW_.out (by kernel_rfl)) (fun _ _ _ h => h) (Or.inl ⟨by rfl, ?_⟩) hHeld ?_ ?_
                          rotate_left
                          · rintro w' ⟨s0, s1, s2, s3, s4, s5, s6, s7, s8, s9, s10, s11, s12, s13, s14, s15, s16, s17⟩
                            go_simp; with_reducible rfl
                          rotate_left
                          · simp only [Act.put, YF, YG, YH, i64_w, i32_w]
                            rfl
                          refine pure_ (i := 14) (N := some 77) (v := ?_) (a' := ?_) #[true, true, true, true, true, true, true, true, true, true, true, true, true, true, true, false, false, false, false, false, false, false, false, false, false, false, false, false, false, false, false, false] rfl rfl (any_of HT_.out (by kernel_rfl)) (fun _ _ _ h => h) (Or.inl ⟨by rfl, ?_⟩) ?_ ?_
                          rotate_left
                          · intro w'
                            go_simp; with_reducible rfl
                          rotate_left
                          · simp only [Act.put, YF, YG, YH, i64_w, i32_w]
                            rfl
                          refine pure_ (i := 15) (N := some 78) (v := ?_) (a' := ?_) #[true, true, true, true, true, true, true, true, true, true, true, true, true, true, true, true, false, false, false, false, false, false, false, false, false, false, false, false, false, false, false, false] rfl rfl (any_of HT_.out (by kernel_rfl)) (fun _ _ _ h => h) (Or.inl ⟨by rfl, ?_⟩) ?_ ?_
                          rotate_left
                          · intro w'
                            go_simp; with_reducible rfl
                          rotate_left
                          · simp only [Act.put, YF, YG, YH, i64_w, i32_w]
                            rfl
                          refine pure_ (i := 16) (N := some 79) (v := ?_) (a' := ?_) #[true, true, true, true, true, true, true, true, true, true, true, true, true, true, true, true, true, false, false, false, false, false, false, false, false, false, false, false, false, false, false, false] rfl rfl (any_of HT_.out (by kernel_rfl)) (fun _ _ _ h => h) (Or.inl ⟨by rfl, ?_⟩) ?_ ?_
                          rotate_left
                          · intro w'
                            go_simp; with_reducible rfl
                          rotate_left
                          · simp only [Act.put, YF, YG, YH, i64_w, i32_w]
                            rfl
                          refine pure_ (i := 17) (N := some 80) (v := ?_) (a' := ?_) #[true, true, true, true, true, true, true, true, true, true, true, true, true, true, true, true, true, true, false, false, false, false, false, false, false, false, false, false, false, false, false, false] rfl rfl (any_of HT_.out (by kernel_rfl)) (fun _ _ _ h => h) (Or.inl ⟨by rfl, ?_⟩) ?_ ?_
                          rotate_left
                          · intro w'
                            go_simp; with_reducible rfl
                          rotate_left
                          · simp only [Act.put, YF, YG, YH, i64_w, i32_w]
                            rfl
                          refine pure_ (i := 18) (N := some 81) (v := ?_) (a' := ?_) #[true, true, true, true, true, true, true, true, true, true, true, true, true, true, true, true, true, true, true, false, false, false, false, false, false, false, false, false, false, false, false, false] rfl rfl (any_of HT_.out (by kernel_rfl)) (fun _ _ _ h => h) (Or.inl ⟨by rfl, ?_⟩) ?_ ?_
                          rotate_left
                          · intro w'
                            go_simp; with_reducible rfl
                          rotate_left
                          · simp only [Act.put, YF, YG, YH, i64_w, i32_w]
                            rfl
                          refine pure_ (i := 19) (N := some 82) (v := ?_) (a' := ?_) #[true, true, true, true, true, true, true, true, true, true, true, true, true, true, true, true, true, true, true, true, false, false, false, false, false, false, false, false, false, false, false, false] rfl rfl (any_of HT_.out (by kernel_rfl)) (fun _ _ _ h => h) (Or.inl ⟨by rfl, ?_⟩) ?_ ?_
                          rotate_left
                          · intro w'
                            go_simp; with_reducible rfl
                          rotate_left
                          · simp only [Act.put, YF, YG, YH, i64_w, i32_w]
                            rfl
                          refine pure_ (i := 20) (N := some 83) (v := ?_) (a' := ?_) #[true, true, true, true, true, true, true, true, true, true, true, true, true, true, true, true, true, true, true, true, true, false, false, false, false, false, false, false, false, false, false, false] rfl rfl (any_of HT_.out (by kernel_rfl)) (fun _ _ _ h => h) (Or.inl ⟨by rfl, ?_⟩) ?_ ?_
                          rotate_left
                          · intro w'
                            go_simp; with_reducible rfl
                          rotate_left
                          · simp only [Act.put, YF, YG, YH, i64_w, i32_w]
                            rfl
                          refine pure_ (i := 21) (N := some 84) (v := ?_) (a' := ?_) #[true, true, true, true, true, true, true, true, true, true, true, true, true, true, true, true, true, true, true, true, true, true, false, false, false, false, false, false, false, false, false, false] rfl rfl (any_of HT_.out (by kernel_rfl)) (fun _ _ _ h => h) (Or.inl ⟨by rfl, ?_⟩) ?_ ?_
                          rotate_left
                          · intro w'
                            go_simp; with_reducible rfl
                          rotate_left
                          · simp only [Act.put, YF, YG, YH, i64_w, i32_w]
                            rfl
                          refine pure_ (i := 25) (N := some 88) (v := ?_) (a' := ?_) #[true, true, true, true, true, true, true, true, true, true, true, true, true, true, true, true, true, true, true, true, true, true, false, false, false, true, false, false, false, false, false, false] rfl rfl (any_of HT_.out (by kernel_rfl)) (fun _ _ _ h => h) (Or.inl ⟨by rfl, ?_⟩) ?_ ?_
                          rotate_left
                          · intro w'
                            go_simp; with_reducible rfl
                          rotate_left
                          · simp only [Act.put, YF, YG, YH, i64_w, i32_w]
                            rfl
                          refine pure_ (i := 26) (N := some 89) (v := ?_) (a' := ?_) #[true, true, true, true, true, true, true, true, true, true, true, true, true, true, true, true, true, true, true, true, true, true, false, false, false, true, true, false, false, false, false, false] rfl rfl (any_of HT_.out (by kernel_rfl)) (fun _ _ _ h => h) (Or.inl ⟨by rfl, ?_⟩) ?_ ?_
                          rotate_left
                          · intro w'
                            go_simp; with_reducible rfl
                          rotate_left
                          · simp only [Act.put, YF, YG, YH, i64_w, i32_w]
                            rfl
                          refine pure_ (i := 27) (N := some 90) (v := ?_) (a' := ?_) #[true, true, true, true, true, true, true, true, true, true, true, true, true, true, true, true, true, true, true, true, true, true, false, false, false, true, true, true, false, false, false, false] rfl rfl (any_of HT_.out (by kernel_rfl)) (fun _ _ _ h => h) (Or.inl ⟨by rfl, ?_⟩) ?_ ?_
                          rotate_left
                          · intro w'
                            go_simp; with_reducible rfl
                          rotate_left
                          · simp only [Act.put, YF, YG, YH, i64_w, i32_w]
                            rfl
                          refine take_ (i := 22) (N := some 85) (v := ?_) (a' := ?_) #[true, true, true, true, true, true, true, true, true, true, true, true, true, true, true, true, true, true, true, true, true, true, true, false, false, true, true, true, false, false, false, false] rfl rfl (take_ofW HT_.out HW_.out (by kernel_rfl)) (fun _ _ _ h => h) (Or.inl ⟨by rfl, ?_⟩) hHeld ?_ ?_
                          rotate_left
                          · rintro w' ⟨s0, s1, s2, s3, s4, s5, s6, s7, s8, s9, s10, s11, s12, s13, s14, s15, s16, s17⟩
                            go_simp; with_reducible rfl
                          rotate_left
                          · simp only [Act.put, YF, YG, YH, i64_w, i32_w]
                            rfl
                          refine pure_ (i := 23) (N := some 86) (v := ?_) (a' := ?_) #[true, true, true, true, true, true, true, true, true, true, true, true, true, true, true, true, true, true, true, true, true, true, true, true, false, true, true, true, false, false, false, false] rfl rfl (any_of HT_.out (by kernel_rfl)) (fun _ _ _ h => h) (Or.inl ⟨by rfl, ?_⟩) ?_ ?_
                          rotate_left
                          · intro w'
                            go_simp; with_reducible rfl
                          rotate_left
                          · simp only [Act.put, YF, YG, YH, i64_w, i32_w]
                            rfl
                          refine take_ (i := 24) (N := some 87) (v := ?_) (a' := ?_) #[true, true, true, true, true, true, true, true, true, true, true, true, true, true, true, true, true, true, true, true, true, true, true, true, true, true, true, true, false, false, false, false] rfl rfl (take_ofW HT_.out HW_.out (by kernel_rfl)) (fun _ _ _ h => h) (Or.inl ⟨by rfl, ?_⟩) hHeld ?_ ?_
                          rotate_left
                          · rintro w' ⟨s0, s1, s2, s3, s4, s5, s6, s7, s8, s9, s10, s11, s12, s13, s14, s15, s16, s17⟩
                            go_simp; with_reducible rfl
                          rotate_left
                          · simp only [Act.put, YF, YG, YH, i64_w, i32_w]
                            rfl
                          refine take_ (i := 28) (N := some 91) (v := ?_) (a' := ?_) #[true, true, true, true, true, true, true, true, true, true, true, true, true, true, true, true, true, true, true, true, true, true, true, true, true, true, true, true, true, false, false, false] rfl rfl (take_ofW HT_.out HW_.out (by kernel_rfl)) (fun _ _ _ h => h) (Or.inl ⟨by rfl, ?_⟩) hHeld ?_ ?_
                          rotate_left
                          · rintro w' ⟨s0, s1, s2, s3, s4, s5, s6, s7, s8, s9, s10, s11, s12, s13, s14, s15, s16, s17⟩
                            go_simp; with_reducible rfl
                          rotate_left
                          · simp only [Act.put, YF, YG, YH, i64_w, i32_w]
                            rfl
                          refine one_ (i := 29) (N := some 92) #[true, true, true, true, true, true, true, true, true, true, true, true, true, true, true, true, true, true, true, true, true, true, true, true, true, true, true, true, true, true, false, false] rfl rfl (one_of HT_.out (by kernel_rfl)) (by decide) (fun K hK => ?_)
                          refine goes_ Try.func19 (by kernel_rfl) rfl #[.agg #[.bool ((rd_T45 l0 ((rd_T36 t415 x12_4).f1)).f0), .int .i64 ((rd_T45 l0 ((rd_T36 t415 x12_4).f1)).f1), .int .i64 ((rd_T45 l0 ((rd_T36 t415 x12_4).f1)).f2), .int .i64 ((rd_T45 l0 ((rd_T36 t415 x12_4).f1)).f3), .int .i64 ((rd_T45 l0 ((rd_T36 t415 x12_4).f1)).f4), .int .i64 ((rd_T45 l0 ((rd_T36 t415 x12_4).f1)).f5)], .agg #[.bool ((rd_T45 l0 x10_3).f0), .int .i64 ((rd_T45 l0 x10_3).f1), .int .i64 ((rd_T45 l0 x10_3).f2), .int .i64 ((rd_T45 l0 x10_3).f3), .int .i64 ((rd_T45 l0 x10_3).f4), .int .i64 ((rd_T45 l0 x10_3).f5)]] (by rfl) rfl rfl (by (try simp only [YI, List.map_cons, List.map_nil]); first | done | rfl | (simp only [YK, YJ]; rfl)) ?_
                          with_reducible refine (height_Less.calls k4 ((rd_T45 l0 ((rd_T36 t415 x12_4).f1)).f0) ((rd_T45 l0 ((rd_T36 t415 x12_4).f1)).f1) ((rd_T45 l0 ((rd_T36 t415 x12_4).f1)).f2) ((rd_T45 l0 ((rd_T36 t415 x12_4).f1)).f3) ((rd_T45 l0 ((rd_T36 t415 x12_4).f1)).f4) ((rd_T45 l0 ((rd_T36 t415 x12_4).f1)).f5) ((rd_T45 l0 x10_3).f0) ((rd_T45 l0 x10_3).f1) ((rd_T45 l0 x10_3).f2) ((rd_T45 l0 x10_3).f3) ((rd_T45 l0 x10_3).f4) ((rd_T45 l0 x10_3).f5) t433 _ A35.out).mono ?_
                          rintro e w37 ⟨rfl, hb⟩
                          have HS0_ := (hb.cell (World.block_lt_of_cell? _ _ (hHeld.1))).trans (hHeld.1)
                          have HS1_ := (hb.cell (World.block_lt_of_cell? _ _ (hHeld.2.1))).trans (hHeld.2.1)
                          have HS2_ := (hb.cell (World.block_lt_of_cell? _ _ (hHeld.2.2.1))).trans (hHeld.2.2.1)
                          have HS3_ := (hb.cell (World.block_lt_of_cell? _ _ (hHeld.2.2.2.1))).trans (hHeld.2.2.2.1)
                          have HS4_ := (hb.cell (World.block_lt_of_cell? _ _ (hHeld.2.2.2.2.1))).trans (hHeld.2.2.2.2.1)
                          have HS5_ := (hb.cell (World.block_lt_of_cell? _ _ (hHeld.2.2.2.2.2.1))).trans (hHeld.2.2.2.2.2.1)
                          refine ⟨_, rfl, ?_⟩
                          have n0_ := YE (YO (by (with_reducible repeat (first | apply YL | apply YM | apply YN)); exact HO_8.out) hb)
                          have n1_ := YE (YO (by (with_reducible repeat (first | apply YL | apply YM | apply YN)); exact HO_9.out) hb)
                          have n2_ := YE (YD (by repeat (first | (with_reducible first | exact HB.out | apply YA | apply YB | apply YC) | exact HB.out)) hb)
                          clear HO_8; clear HO_9; clear HB; have HO_8 := n0_; have HO_9 := n1_; have HB := n2_; clear n0_ n1_ n2_; (try clear hb); (try clear hb2); (try clear hk); (try clear hi)
                          refine hK.out _ _ ⟨HS0_, HS1_, HS2_, HS3_, HS4_, HS5_, ((HB.out.cell (World.block_lt_of_cell? w _ hw431_0)).trans hw431_0), ((HB.out.cell (World.block_lt_of_cell? w _ hw431_1)).trans hw431_1), ((HB.out.cell (World.block_lt_of_cell? w _ hw431_2)).trans hw431_2), ((HB.out.cell (World.block_lt_of_cell? w _ hw431_3)).trans hw431_3), ((HB.out.cell (World.block_lt_of_cell? w _ hw431_4)).trans hw431_4), ((HB.out.cell (World.block_lt_of_cell? w _ hw431_5)).trans hw431_5), ((HB.out.cell (World.block_lt_of_cell? w _ hw432_0)).trans hw432_0), ((HB.out.cell (World.block_lt_of_cell? w _ hw432_1)).trans hw432_1), ((HB.out.cell (World.block_lt_of_cell? w _ hw432_2)).trans hw432_2), ((HB.out.cell (World.block_lt_of_cell? w _ hw432_3)).trans hw432_3), ((HB.out.cell (World.block_lt_of_cell? w _ hw432_4)).trans hw432_4), ((HB.out.cell (World.block_lt_of_cell? w _ hw432_5)).trans hw432_5)⟩ (fun hHeld => ?_)
                          clear hK K
                          refine norm_ (a' := ?_) ?_ ?_
                          rotate_left
                          · show Act.put _ (some 92) _ = _
                            simp only [Act.put, YF, YG, YH, i64_w, i32_w]
                            rfl
                          refine pure_ (i := 30) (N := some 93) (v := ?_) (a' := ?_) #[true, true, true, true, true, true, true, true, true, true, true, true, true, true, true, true, true, true, true, true, true, true, true, true, true, true, true, true, true, true, true, false] rfl rfl (any_of HT_.out (by kernel_rfl)) (fun _ _ _ h => h) (Or.inl ⟨by rfl, ?_⟩) ?_ ?_
                          rotate_left
                          · intro w'
                            go_simp; with_reducible rfl
                          rotate_left
                          · simp only [Act.put, YF, YG, YH, i64_w, i32_w]
                            rfl
                          refine pure_ (i := 31) (N := some 94) (v := ?_) (a' := ?_) #[true, true, true, true, true, true, true, true, true, true, true, true, true, true, true, true, true, true, true, true, true, true, true, true, true, true, true, true, true, true, true, true] rfl rfl (any_of HT_.out (by kernel_rfl)) (fun _ _ _ h => h) (Or.inl ⟨by rfl, ?_⟩) ?_ ?_
                          rotate_left
                          · intro w'
                            go_simp; with_reducible rfl
                          rotate_left
                          · simp only [Act.put, YF, YG, YH, i64_w, i32_w]
                            rfl
                          refine done_ (done_of HT_.out (by kernel_rfl)) ?_
                          try go_wp2
                          go_meet
                          case rel => exact ⟨_, (!t433), (by first | rfl | (simp; done) | (simp [*]; done)), H', ⟨by have := HJ3.out; have := HK2.out; have := HK3.out; have := HK4.out; first | omega | exact Nat.le_refl _⟩, ⟨by (try simp only [hl9_4]); (with_reducible repeat (first | apply YL | apply YM | apply YN)); exact HO_8.out⟩, ⟨by (try simp only [hl9_4]); (with_reducible repeat (first | apply YL | apply YM | apply YN)); exact HO_9.out⟩, ⟨by repeat (first | (with_reducible first | exact HB.out | apply YA | apply YB | apply YC) | exact HB.out)⟩⟩
                        case rest =>
                          clear HC25
                          try clear c1
                          try clear c2
                          try clear p2
                          try clear c3
                          try clear p4
                          try clear q4
                          try clear hx4
                          try clear c19
                          try clear c29
                          try clear c29b0
                          try clear c31
                          try clear c31b0
                          try clear c32
                          try clear c32b0
                          try clear c33
                          try clear c33b0
                          try clear c34
                          try clear c34b0
                          try clear hx428_0
                          try clear hx428_1
                          try clear hx429_0
                          try clear hx429_1
                          try clear hx430_0
                          try clear hx430_1
                          try clear hx431_0
                          try clear hx431_1
                          try clear hx431_2
                          try clear hx431_3
                          try clear hx431_4
                          try clear hx431_5
                          try clear hx432_0
                          try clear hx432_1
                          try clear hx432_2
                          try clear hx432_3
                          try clear hx432_4
                          try clear hx432_5
                          try clear p428
                          try clear p429
                          try clear p430
                          try clear p431
                          try clear p432
                          try clear q428
                          try clear q429
                          try clear q430
                          try clear q431
                          try clear q432
                          obtain ⟨kq, x94_24, rfl, HA, HJ24, HO_8, HO_9, HB⟩ := hcut
                          cases kq with
                          | zero => exact absurd HA.out (by simp [thalweglaw25_GraphDown.j4])
                          | succ kj24 =>
                            have H := HA.out
                            clear HA
                            simp only [thalweglaw25_GraphDown.j4] at H
                            by_cases c38 : x94_24 = true
                            · subst c38
                              have H1 : (none) = some r := by rw [if_pos rfl] at H; exact H
                              clear H
                              have H := H1
                              clear H1
                              exact absurd H (by simp)
                            replace c38 := Bool.eq_false_iff.mpr c38
                            subst c38
                            have H1 : (if x11_4 = 0 then (if 0 ≤ x12_4 then (if x12_4 < (t415.length : Int) then (if 0 ≤ x10_3 then (if x10_3 < (x9_4.length : Int) then (thalweglaw25_GraphDown.l2 kj24 l0 l2 t415 (x9_4.set (x10_3 : Int).toNat ((rd_T36 t415 x12_4).f1)) x10_3 (wrap64 (x11_4 + 1)) (wrap64 (x12_4 + 1))) else (none)) else (none)) else (none)) else (none)) else (if x10_3 < (l2.length : Int) then (if 0 ≤ x10_3 then (if x11_4 = (rd l2 x10_3) then (if 0 ≤ x12_4 then (if x12_4 < (t415.length : Int) then (if x10_3 < (x9_4.length : Int) then (thalweglaw25_GraphDown.l2 kj24 l0 l2 t415 (x9_4.set (x10_3 : Int).toNat ((rd_T36 t415 x12_4).f1)) x10_3 (wrap64 (x11_4 + 1)) (wrap64 (x12_4 + 1))) else (none)) else (none)) else (none)) else (thalweglaw25_GraphDown.l2 kj24 l0 l2 t415 x9_4 x10_3 (wrap64 (x11_4 + 1)) (wrap64 (x12_4 + 1)))) else (none)) else (thalweglaw25_GraphDown.l2 kj24 l0 l2 t415 x9_4 x10_3 (wrap64 (x11_4 + 1)) (wrap64 (x12_4 + 1))))) = some r := by rw [if_neg (show ¬ (false = true) by decide)] at H; exact H
                            clear H
                            have H := H1
                            clear H1
                            by_cases c39 : x11_4 = 0
                            · rw [if_pos c39] at H
                              have c39b0 : (x11_4 == 0) = true := beq_iff_eq.mpr c39
                              have c39b1 : (x11_4 != 0) = false := bne_eq_false_iff_eq.mpr c39
                              clear c39
                              by_cases c40 : 0 ≤ x12_4
                              rotate_left
                              · rw [if_neg c40] at H
                                exact absurd H (by simp)
                              rw [if_pos c40] at H; have c40b0 : decide (0 ≤ x12_4) = true := decide_eq_true c40; clear c40
                              by_cases c41 : x12_4 < (t415.length : Int)
                              rotate_left
                              · rw [if_neg c41] at H
                                exact absurd H (by simp)
                              rw [if_pos c41] at H
                              have c41b0 : decide (x12_4 < (t415.length : Int)) = true := decide_eq_true c41
                              clear c41
                              by_cases c42 : 0 ≤ x10_3
                              rotate_left
                              · rw [if_neg c42] at H
                                exact absurd H (by simp)
                              rw [if_pos c42] at H; have c42b0 : decide (0 ≤ x10_3) = true := decide_eq_true c42; clear c42
                              by_cases c43 : x10_3 < (x9_4.length : Int)
                              rotate_left
                              · rw [if_neg c43] at H
                                exact absurd H (by simp)
                              rw [if_pos c43] at H
                              have c43b0 : decide (x10_3 < (x9_4.length : Int)) = true := decide_eq_true c43
                              clear c43
                              obtain ⟨y435, hy435⟩ : ∃ y_ : List Int, y_ = (x9_4.set (x10_3 : Int).toNat ((rd_T36 t415 x12_4).f1)) := ⟨_, rfl⟩
                              replace H : (thalweglaw25_GraphDown.l2 kj24 l0 l2 t415 y435 x10_3 (wrap64 (x11_4 + 1)) (wrap64 (x12_4 + 1))) = some r := by first | (rw [hy435]; with_reducible exact H) | (have H2_ := (Option.bind_some _ _).symm.trans H; rw [hy435]; with_reducible exact H2_) | (have H2_ := (Option.bind_some _ _).symm.trans H; with_reducible exact H2_) | with_reducible exact H | (rw [hy435]; exact H) | exact H
                              have Ny435 := YE hy435; clear hy435
                              have H' := YE H
                              clear H
                              have p434 : 0 ≤ (x12_4 : Int) := of_decide_eq_true (by first | (with_reducible assumption) | assumption)
                              have q434 : x12_4 < (t415.length : Int) := of_decide_eq_true (by first | (with_reducible assumption) | assumption)
                              obtain ⟨ad434, e434, hx434_0, hx434_1⟩ := at_T36 (Kd.R_reads' HO_8.out).2.2 x12_4 p434 q434
                              obtain rfl : ad427 = ad434 := (by injection e434)
                              replace p434 := eq_true p434
                              replace q434 := eq_true q434
                              have p44 : 0 ≤ (x10_3 : Int) := of_decide_eq_true (by first | (with_reducible assumption) | assumption)
                              have q44 : (x10_3 : Int) < ((x9_4.length : Int) : Int) := of_decide_eq_true (by first | (with_reducible assumption) | assumption)
                              obtain ⟨hx44_0, hf44_0⟩ := Kd.R_celln 0 HO_9.out (x10_3 : Int) p44 q44
                              replace p44 := eq_true p44
                              replace q44 := eq_true q44
                              have HP45 := Kd.R_putg HO_9.out (x10_3 : Int) ((rd_T36 t415 x12_4).f1)
                              go_wp2_with (first | ((with_reducible refine gate_store (t := 3) (p := 118) rfl ?_); refine store_event (t := 3) (p := 118) (v := ?vo_w46) (w1 := (wc.setCell ⟨go19, (x10_3 : Int).toNat, none⟩ (.int .i64 ((rd_T36 t415 x12_4).f1)))) ?hg ?ho ?hn ?hr ?_; (case ho => rfl); (case hg => rfl); (case hn => rfl); (case hr => first | (go_simp; done) | (go_simp; rfl)); intro w46 hw; have hg : wc.grownBy w46 (some go19) := (by rw [hw]; exact HP45.2); have hp_ : Kd.R (Kd.int .i64) 3 w46 w.heap.size (fun _ => True) (.slice (some ⟨go19, 0, none⟩) x9_4.length co19) y435 := (by rw [hw, Ny435.out]; exact HP45.1); clear HP45; have n0_ := YE (Kd.R_over' (v := (.slice (some ⟨go19, 0, none⟩) x9_4.length co19)) (by (with_reducible repeat (first | apply YL | apply YM | apply YN)); exact HO_8.out) (Kd.R_typed HO_9.out) (by decide) hg); have n1_ := YE (hp_); have n2_ := YE ((by rw [hw]; exact below_set (HB.out) GB19.out : Below w.heap.size w w46)); clear HO_8; clear HO_9; clear HB; have HO_8 := n0_; have HO_9 := n1_; have HB := n2_; clear n0_ n1_ n2_; clear hg hw hp_))
                              (try simp only [← hl9_4])
                              go_roundg kj24
                              case measure => have := HJ3.out; have := HK2.out; have := HK3.out; have := HK4.out; have := HJ24.out; omega
                              case rel => exact ⟨(y435), (wrap64 (x11_4 + 1)), (wrap64 (x12_4 + 1)), (by first | rfl | (simp; done) | (simp [*]; done)), (by first | rfl | (simp; done) | (simp [*]; done)), H', ⟨by have := HJ3.out; have := HK2.out; have := HK3.out; have := HK4.out; have := HJ24.out; omega⟩, ⟨by (try simp only [hl9_4]); (with_reducible repeat (first | apply YL | apply YM | apply YN)); exact HO_8.out⟩, ⟨by (try simp only [hl9_4]); (with_reducible repeat (first | apply YL | apply YM | apply YN)); exact HO_9.out⟩, ⟨by repeat (first | (with_reducible first | exact HB.out | apply YA | apply YB | apply YC) | exact HB.out)⟩⟩
                            rw [if_neg c39] at H
                            have c39b0 : (x11_4 == 0) = false := beq_eq_false_iff_ne.mpr c39
                            have c39b1 : (x11_4 != 0) = true := bne_iff_ne.mpr c39
                            by_cases c47 : x10_3 < (l2.length : Int)
                            · rw [if_pos c47] at H
                              have c47b0 : decide (x10_3 < (l2.length : Int)) = true := decide_eq_true c47
                              clear c47
                              by_cases c48 : 0 ≤ x10_3
                              rotate_left
                              · rw [if_neg c48] at H
                                exact absurd H (by simp)
                              rw [if_pos c48] at H; have c48b0 : decide (0 ≤ x10_3) = true := decide_eq_true c48; clear c48
                              by_cases c49 : x11_4 = (rd l2 x10_3)
                              · rw [if_pos c49] at H
                                have c49b0 : (x11_4 == (rd l2 x10_3)) = true := beq_iff_eq.mpr c49
                                have c49b1 : (x11_4 != (rd l2 x10_3)) = false := bne_eq_false_iff_eq.mpr c49
                                clear c49
                                by_cases c50 : 0 ≤ x12_4
                                rotate_left
                                · rw [if_neg c50] at H
                                  exact absurd H (by simp)
                                rw [if_pos c50] at H; have c50b0 : decide (0 ≤ x12_4) = true := decide_eq_true c50; clear c50
                                by_cases c51 : x12_4 < (t415.length : Int)
                                rotate_left
                                · rw [if_neg c51] at H
                                  exact absurd H (by simp)
                                rw [if_pos c51] at H
                                have c51b0 : decide (x12_4 < (t415.length : Int)) = true := decide_eq_true c51
                                clear c51
                                by_cases c52 : x10_3 < (x9_4.length : Int)
                                rotate_left
                                · rw [if_neg c52] at H
                                  exact absurd H (by simp)
                                rw [if_pos c52] at H
                                have c52b0 : decide (x10_3 < (x9_4.length : Int)) = true := decide_eq_true c52
                                clear c52
                                obtain ⟨y438, hy438⟩ : ∃ y_ : List Int, y_ = (x9_4.set (x10_3 : Int).toNat ((rd_T36 t415 x12_4).f1)) := ⟨_, rfl⟩
                                replace H : (thalweglaw25_GraphDown.l2 kj24 l0 l2 t415 y438 x10_3 (wrap64 (x11_4 + 1)) (wrap64 (x12_4 + 1))) = some r := by first | (rw [hy438]; with_reducible exact H) | (have H2_ := (Option.bind_some _ _).symm.trans H; rw [hy438]; with_reducible exact H2_) | (have H2_ := (Option.bind_some _ _).symm.trans H; with_reducible exact H2_) | with_reducible exact H | (rw [hy438]; exact H) | exact H
                                have Ny438 := YE hy438; clear hy438
                                have H' := YE H
                                clear H
                                have p436 : 0 ≤ (x10_3 : Int) := of_decide_eq_true (by first | (with_reducible assumption) | assumption)
                                have q436 : x10_3 < (l2.length : Int) := of_decide_eq_true (by first | (with_reducible assumption) | assumption)
                                obtain ⟨ad436, e436, hx436_0⟩ := Kd.at_int HR2.out x10_3 p436 q436
                                cases e436
                                replace hx436_0 := (HB.out.cell (World.block_lt_of_cell? w _ hx436_0)).trans hx436_0
                                replace p436 := eq_true p436
                                replace q436 := eq_true q436
                                have p437 : 0 ≤ (x12_4 : Int) := of_decide_eq_true (by first | (with_reducible assumption) | assumption)
                                have q437 : x12_4 < (t415.length : Int) := of_decide_eq_true (by first | (with_reducible assumption) | assumption)
                                obtain ⟨ad437, e437, hx437_0, hx437_1⟩ := at_T36 (Kd.R_reads' HO_8.out).2.2 x12_4 p437 q437
                                obtain rfl : ad427 = ad437 := (by injection e437)
                                replace p437 := eq_true p437
                                replace q437 := eq_true q437
                                have p53 : 0 ≤ (x10_3 : Int) := of_decide_eq_true (by first | (with_reducible assumption) | assumption)
                                have q53 : (x10_3 : Int) < ((x9_4.length : Int) : Int) := of_decide_eq_true (by first | (with_reducible assumption) | assumption)
                                obtain ⟨hx53_0, hf53_0⟩ := Kd.R_celln 0 HO_9.out (x10_3 : Int) p53 q53
                                replace p53 := eq_true p53
                                replace q53 := eq_true q53
                                have HP54 := Kd.R_putg HO_9.out (x10_3 : Int) ((rd_T36 t415 x12_4).f1)
                                go_wp2_with (first | ((with_reducible refine gate_store (t := 3) (p := 118) rfl ?_); refine store_event (t := 3) (p := 118) (v := ?vo_w55) (w1 := (wc.setCell ⟨go19, (x10_3 : Int).toNat, none⟩ (.int .i64 ((rd_T36 t415 x12_4).f1)))) ?hg ?ho ?hn ?hr ?_; (case ho => rfl); (case hg => rfl); (case hn => rfl); (case hr => first | (go_simp; done) | (go_simp; rfl)); intro w55 hw; have hg : wc.grownBy w55 (some go19) := (by rw [hw]; exact HP54.2); have hp_ : Kd.R (Kd.int .i64) 3 w55 w.heap.size (fun _ => True) (.slice (some ⟨go19, 0, none⟩) x9_4.length co19) y438 := (by rw [hw, Ny438.out]; exact HP54.1); clear HP54; have n0_ := YE (Kd.R_over' (v := (.slice (some ⟨go19, 0, none⟩) x9_4.length co19)) (by (with_reducible repeat (first | apply YL | apply YM | apply YN)); exact HO_8.out) (Kd.R_typed HO_9.out) (by decide) hg); have n1_ := YE (hp_); have n2_ := YE ((by rw [hw]; exact below_set (HB.out) GB19.out : Below w.heap.size w w55)); clear HO_8; clear HO_9; clear HB; have HO_8 := n0_; have HO_9 := n1_; have HB := n2_; clear n0_ n1_ n2_; clear hg hw hp_))
                                (try simp only [← hl9_4])
                                go_roundg kj24
                                case measure => have := HJ3.out; have := HK2.out; have := HK3.out; have := HK4.out; have := HJ24.out; omega
                                case rel => exact ⟨(y438), (wrap64 (x11_4 + 1)), (wrap64 (x12_4 + 1)), (by first | rfl | (simp; done) | (simp [*]; done)), (by first | rfl | (simp; done) | (simp [*]; done)), H', ⟨by have := HJ3.out; have := HK2.out; have := HK3.out; have := HK4.out; have := HJ24.out; omega⟩, ⟨by (try simp only [hl9_4]); (with_reducible repeat (first | apply YL | apply YM | apply YN)); exact HO_8.out⟩, ⟨by (try simp only [hl9_4]); (with_reducible repeat (first | apply YL | apply YM | apply YN)); exact HO_9.out⟩, ⟨by repeat (first | (with_reducible first | exact HB.out | apply YA | apply YB | apply YC) | exact HB.out)⟩⟩
                              rw [if_neg c49] at H
                              have c49b0 : (x11_4 == (rd l2 x10_3)) = false := beq_eq_false_iff_ne.mpr c49
                              have c49b1 : (x11_4 != (rd l2 x10_3)) = true := bne_iff_ne.mpr c49
                              have H' := YE H
                              clear H
                              have p436 : 0 ≤ (x10_3 : Int) := of_decide_eq_true (by first | (with_reducible assumption) | assumption)
                              have q436 : x10_3 < (l2.length : Int) := of_decide_eq_true (by first | (with_reducible assumption) | assumption)
                              obtain ⟨ad436, e436, hx436_0⟩ := Kd.at_int HR2.out x10_3 p436 q436
                              cases e436
                              replace hx436_0 := (HB.out.cell (World.block_lt_of_cell? w _ hx436_0)).trans hx436_0
                              replace p436 := eq_true p436
                              replace q436 := eq_true q436
                              go_wp2
                              (try simp only [← hl9_4])
                              go_roundg kj24
                              case measure => have := HJ3.out; have := HK2.out; have := HK3.out; have := HK4.out; have := HJ24.out; omega
                              case rel => exact ⟨(x9_4), (wrap64 (x11_4 + 1)), (wrap64 (x12_4 + 1)), (by first | rfl | (simp; done) | (simp [*]; done)), (by first | rfl | (simp; done) | (simp [*]; done)), H', ⟨by have := HJ3.out; have := HK2.out; have := HK3.out; have := HK4.out; have := HJ24.out; omega⟩, ⟨by (try simp only [hl9_4]); (with_reducible repeat (first | apply YL | apply YM | apply YN)); exact HO_8.out⟩, ⟨by (try simp only [hl9_4]); (with_reducible repeat (first | apply YL | apply YM | apply YN)); exact HO_9.out⟩, ⟨by repeat (first | (with_reducible first | exact HB.out | apply YA | apply YB | apply YC) | exact HB.out)⟩⟩
                            rw [if_neg c47] at H
                            have c47b0 : decide (x10_3 < (l2.length : Int)) = false := decide_eq_false c47
                            clear c47
                            have H' := YE H
                            clear H
                            go_wp2
                            (try simp only [← hl9_4])
                            go_roundg kj24
                            case measure => have := HJ3.out; have := HK2.out; have := HK3.out; have := HK4.out; have := HJ24.out; omega
                            case rel => exact ⟨(x9_4), (wrap64 (x11_4 + 1)), (wrap64 (x12_4 + 1)), (by first | rfl | (simp; done) | (simp [*]; done)), (by first | rfl | (simp; done) | (simp [*]; done)), H', ⟨by have := HJ3.out; have := HK2.out; have := HK3.out; have := HK4.out; have := HJ24.out; omega⟩, ⟨by (try simp only [hl9_4]); (with_reducible repeat (first | apply YL | apply YM | apply YN)); exact HO_8.out⟩, ⟨by (try simp only [hl9_4]); (with_reducible repeat (first | apply YL | apply YM | apply YN)); exact HO_9.out⟩, ⟨by repeat (first | (with_reducible first | exact HB.out | apply YA | apply YB | apply YC) | exact HB.out)⟩⟩
                      rw [if_neg c24] at H
                      have c24b0 : (((rd_T36 t415 x12_4).f0) == x10_3) = false := beq_eq_false_iff_ne.mpr c24
                      have c24b1 : (((rd_T36 t415 x12_4).f0) != x10_3) = true := bne_iff_ne.mpr c24
                      have H' := YE H
                      clear H
                      obtain ⟨Ao56, co56, eo56⟩ := Kd.R_slice HO_8.out
                      subst eo56
                      have p427 : 0 ≤ (x12_4 : Int) := of_decide_eq_true (by first | (with_reducible assumption) | assumption)
                      have q427 : x12_4 < (t415.length : Int) := of_decide_eq_true (by first | (with_reducible assumption) | assumption)
                      obtain ⟨ad427, e427, hx427_0, hx427_1⟩ := at_T36 (Kd.R_reads' HO_8.out).2.2 x12_4 p427 q427
                      cases e427
                      replace p427 := eq_true p427
                      replace q427 := eq_true q427
                      go_wp2
                      (try simp only [← hl9_4])
                      go_roundg k4
                      case measure => have := HJ3.out; have := HK2.out; have := HK3.out; have := HK4.out; omega
                      case rel => exact ⟨(x9_4), (x11_4), (wrap64 (x12_4 + 1)), (by first | rfl | (simp; done) | (simp [*]; done)), (by first | rfl | (simp; done) | (simp [*]; done)), H', ⟨by have := HJ3.out; have := HK2.out; have := HK3.out; have := HK4.out; omega⟩, ⟨by (try simp only [hl9_4]); (with_reducible repeat (first | apply YL | apply YM | apply YN)); exact HO_8.out⟩, ⟨by (try simp only [hl9_4]); (with_reducible repeat (first | apply YL | apply YM | apply YN)); exact HO_9.out⟩, ⟨by repeat (first | (with_reducible first | exact HB.out | apply YA | apply YB | apply YC) | exact HB.out)⟩⟩
                    rw [if_neg c22] at H
                    have c22b0 : decide (x12_4 < (t415.length : Int)) = false := decide_eq_false c22
                    clear c22
                    have H' := YE H
                    clear H
                    obtain ⟨Ao57, co57, eo57⟩ := Kd.R_slice HO_8.out
                    subst eo57
                    go_wp2
                    (try simp only [← hl9_4])
                    go_roundg k4
                    case measure => have := HJ3.out; have := HK2.out; have := HK3.out; have := HK4.out; omega
                    case rel => exact ⟨(x9_4), (wrap64 (x10_3 + 1)), (by first | rfl | (simp; done) | (simp [*]; done)), H', ⟨by have := HJ3.out; have := HK2.out; have := HK3.out; have := HK4.out; omega⟩, ⟨by (try simp only [hl9_4]); (with_reducible repeat (first | apply YL | apply YM | apply YN)); exact HO_8.out⟩, ⟨by (try simp only [hl9_4]); (with_reducible repeat (first | apply YL | apply YM | apply YN)); exact HO_9.out⟩, ⟨by repeat (first | (with_reducible first | exact HB.out | apply YA | apply YB | apply YC) | exact HB.out)⟩⟩
              rw [if_neg c16] at H
              have c16b0 : decide (x10_3 < (l0.length : Int)) = false := decide_eq_false c16
              clear c16; replace H := Option.bind_eq_some_iff.mp H
              obtain ⟨⟨t421, t422⟩, A580, H⟩ := H
              replace H : ((thalweglaw25_awake.f k3).bind fun t425 => (if t425 = true then (some (!t422)) else (none))) = some r := H
              have A58 := YE A580; clear A580; replace H := Option.bind_eq_some_iff.mp H; obtain ⟨t425, A590, H⟩ := H
              replace H : (if t425 = true then (some (!t422)) else (none)) = some r := H
              have A59 := YE A590; clear A590
              by_cases c60 : t425 = true
              · subst c60
                have H1 : (some (!t422)) = some r := by rw [if_pos rfl] at H; exact H
                clear H
                have H := H1
                clear H1
                obtain rfl := Option.some.inj H
                obtain ⟨Ao61, co61, eo61⟩ := Kd.R_slice HO_9.out
                subst eo61
                go_wp2_with (first | ((with_reducible refine gate_callee (f := 9) rfl ?_); refine goesL_ (some 123) rfl rfl Try.func9 (by kernel_rfl) rfl #[.slice Ao61 x9_3.length co61] rfl (by (try simp only [YI, List.map_cons, List.map_nil]); first | done | rfl | (simp only [YK, YJ]; rfl)) ?_; (with_reducible refine (graph_Cycle.calls k3 _ _ x9_3 t421 t422 _ ?side1 ?side2 A58.out).mono ?_); (case side1 => repeat (first | exact (Kd.R_reads' HO_9.out).2.2 | (with_reducible refine Kd.C_alloc ?_ _) | (with_reducible refine Kd.C_drewN ?_ _) | (with_reducible refine Kd.C_drew ?_))); (case side2 => exact (Kd.R_reads' HO_9.out).2.1); rintro e w62 ⟨v423, rfl, ho0, hb⟩; refine ⟨_, rfl, ?_⟩; have n0_ := YE (YO (by (with_reducible repeat (first | apply YL | apply YM | apply YN)); exact HO_8.out) hb); have n1_ := YE (Kd.R_elder' (by (with_reducible repeat (first | apply YL | apply YM | apply YN)); exact HO_9.out) (Kd.R_base ho0) hb); have n2_ := YE (Kd.R_lower (Kd.R_new' ho0 (Kd.R_lt (by (with_reducible repeat (first | apply YL | apply YM | apply YN)); exact HO_9.out))) (below_size (by repeat (first | (with_reducible first | exact HB.out | apply YA | apply YB | apply YC) | exact HB.out)))); have n3_ := YE (YD (by repeat (first | (with_reducible first | exact HB.out | apply YA | apply YB | apply YC) | exact HB.out)) hb); clear HO_8; clear HO_9; clear HB; have HO_8 := n0_; have HO_9 := n1_; have HO424 := n2_; have HB := n3_; clear n0_ n1_ n2_ n3_; (try clear hb); (try clear hb2); (try clear hk); (try clear hi); (try clear ho0)) | ((with_reducible refine gate_callee (f := 10) rfl ?_); refine goesL_ (some 126) rfl rfl Try.func10 (by kernel_rfl) rfl #[] rfl (by (try simp only [YI, List.map_cons, List.map_nil]); first | done | rfl | (simp only [YK, YJ]; rfl)) ?_; (with_reducible refine (thalweglaw25_awake.calls k3  true _ A59.out).mono ?_); rintro e w63 ⟨rfl, hb⟩; refine ⟨_, rfl, ?_⟩; have n0_ := YE (YO (by (with_reducible repeat (first | apply YL | apply YM | apply YN)); exact HO_8.out) hb); have n1_ := YE (YO (by (with_reducible repeat (first | apply YL | apply YM | apply YN)); exact HO_9.out) hb); have n2_ := YE (YO (by (with_reducible repeat (first | apply YL | apply YM | apply YN)); exact HO424.out) hb); have n3_ := YE (YD (by repeat (first | (with_reducible first | exact HB.out | apply YA | apply YB | apply YC) | exact HB.out)) hb); clear HO_8; clear HO_9; clear HO424; clear HB; have HO_8 := n0_; have HO_9 := n1_; have HO424 := n2_; have HB := n3_; clear n0_ n1_ n2_ n3_; (try clear hb); (try clear hb2); (try clear hk); (try clear hi)))
                go_ret
                exact ⟨by first | rfl | (simp [errW_none, errW_some] <;> rfl) | (simp [*, errW_none, errW_some] <;> rfl), by repeat (first | (with_reducible first | exact HB.out | apply YA | apply YB | apply YC) | exact HB.out)⟩
              replace c60 := Bool.eq_false_iff.mpr c60
              subst c60
              have H1 : (none) = some r := by rw [if_neg (show ¬ (false = true) by decide)] at H; exact H
              clear H
              have H := H1
              clear H1
              exact absurd H (by simp)

end Go.Proofs.Ytbejdbgcfgllhaa.P
