-- WRITTEN BY xprint.py, a program of this session that drives the kit's printer.
import Derived.Test.YtbejdbgcfgllhaaP0
import Derived.Test.YtbejdbgcfgllhaaP5
import Derived.Test.YtbejdbgcfgllhaaP6
import Derived.Test.YtbejdbgcfgllhaaP8
import Derived.Test.YtbejdbgcfgllhaaP9
import Derived.Test.YtbejdbgcfgllhaaP10
import Derived.Test.YtbejdbgcfgllhaaP13
import Derived.Test.YtbejdbgcfgllhaaP14
import Derived.Test.YtbejdbgcfgllhaaP15
import Derived.Test.YtbejdbgcfgllhaaP17
import Derived.Test.YtbejdbgcfgllhaaP18
namespace Go.Proofs.Ytbejdbgcfgllhaa.P
open Go.RowKit Go.Proofs.YtbejdbgcfgllhaaW.PrintWords Go.Proofs.YtbejdbgcfgllhaaW.PrintLast Go.Proofs.YtbejdbgcfgllhaaW.PrintMore
open Go.Proofs.YtbejdbgcfgllhaaW.PrintWords renaming below_alloc → YA, pw_below_drewN → YB, below_drew1 → YC, below_step → YD, below_size → YE
open Go.Proofs.YtbejdbgcfgllhaaW.PrintWords.Aside0 renaming mk → YF
open List renaming map_toArray → YG, length_take → YH, length_drop → YI
open Go.Proofs.YtbejdbgcfgllhaaW.PrintWords.Kd renaming R_alloc → YJ, R_drewN → YK, R_drew → YL, R_below → YM
attribute [local go_sem] max2_int min2_int max_two min_two max_three min_three max_four min_four   -- for this text's walks alone
set_option linter.unusedVariables false
set_option linter.unusedSimpArgs false

/-! ### thalweglaw25_GraphTells: function 4 -/
def thalweglaw25_GraphTells.j0 : Nat → Int → List (S36) → Int → List Int → Int → Bool → Option (Bool)
  | 0, _, _, _, _, _, _ => none
  | k + 1, x0, x1, x2, x3, x4, x42 => if x42 = true then (some true) else ((graph_Parts.f k x0 x1).bind fun bt262 => ((thalwegref25_Parts.f k x0 x1).bind fun bt266 => ((graph_Steps.f k x0 x1 x2).bind fun bt270 => ((thalwegref25_Steps.f k x0 x1 x2).bind fun bt274 => ((graph_Cycle.f k x3).bind fun bt278 => ((thalwegref25_Cycle.f k x3).bind fun bt282 => ((graph_Way.f k x3 x2 x4).bind fun bt286 => ((thalwegref25_Way.f k x3 x2 x4).bind fun bt290 => ((thalweglaw25_awake.f k).bind fun t294 => (if t294 = true then ((thalwegref03_Ints.f k bt262.1 bt266.1).bind fun t295 => (if t295 = true then (if bt262.2 = bt266.2 then ((thalwegref03_Ints.f k bt270.1 bt274.1).bind fun t296 => (if t296 = true then (if bt270.2 = bt274.2 then ((thalwegref03_Ints.f k bt278.1 bt282.1).bind fun t297 => (if t297 = true then (if (bt278.2 == bt282.2) = true then ((thalwegref03_Ints.f k bt286.1 bt290.1).bind fun t298 => (if t298 = true then (some (bt286.2 == bt290.2)) else (none))) else (none)) else (none))) else (none)) else (none))) else (none)) else (none))) else (none)))))))))))
def thalweglaw25_GraphTells.f (k : Nat) (a0 : Int) (l1 : List (S36)) (a2 : Int) (l3 : List Int) (a4 : Int) : Option (Bool) := if a0 > 20 then (if a0 ≤ 64 then (thalweglaw25_GraphTells.j0 k a0 l1 a2 l3 a4 true) else (if (l1.length : Int) > 40 then (thalweglaw25_GraphTells.j0 k a0 l1 a2 l3 a4 true) else (thalweglaw25_GraphTells.j0 k a0 l1 a2 l3 a4 (decide ((l3.length : Int) > 60))))) else (if (l1.length : Int) > 40 then (thalweglaw25_GraphTells.j0 k a0 l1 a2 l3 a4 true) else (thalweglaw25_GraphTells.j0 k a0 l1 a2 l3 a4 (decide ((l3.length : Int) > 60))))
theorem thalweglaw25_GraphTells.mono_l : ∀ k, (∀ y0 y1 y2 y3 y4 y5, LeO (thalweglaw25_GraphTells.j0 k y0 y1 y2 y3 y4 y5) (thalweglaw25_GraphTells.j0 (k + 1) y0 y1 y2 y3 y4 y5))
  | 0 => fun _ _ _ _ _ _ r h => by simp [thalweglaw25_GraphTells.j0] at h
  | k + 1 => by
    have ih0 := thalweglaw25_GraphTells.mono_l k
    · intro y0 y1 y2 y3 y4 y5
      unfold thalweglaw25_GraphTells.j0
      repeat' first
      | (with_reducible exact ih0 _ _ _ _ _ _)
      | (with_reducible exact graph_Cycle.mono _ _)
      | (with_reducible exact graph_Parts.mono _ _ _)
      | (with_reducible exact graph_Steps.mono _ _ _ _)
      | (with_reducible exact graph_Way.mono _ _ _ _)
      | (with_reducible exact thalweglaw25_awake.mono _)
      | (with_reducible exact thalwegref03_Ints.mono _ _ _)
      | (with_reducible exact thalwegref25_Cycle.mono _ _)
      | (with_reducible exact thalwegref25_Parts.mono _ _ _)
      | (with_reducible exact thalwegref25_Steps.mono _ _ _ _)
      | (with_reducible exact thalwegref25_Way.mono _ _ _ _)
      | (with_reducible exact LeO.refl _)
      | (with_reducible exact LeO.none _)
      | (with_reducible refine LeO.ite ?_ ?_)
      | (with_reducible refine LeO.bind ?_ (fun _ => ?_))
      | exact ih0 _ _ _ _ _ _
      | exact graph_Cycle.mono _ _
      | exact graph_Parts.mono _ _ _
      | exact graph_Steps.mono _ _ _ _
      | exact graph_Way.mono _ _ _ _
      | exact thalweglaw25_awake.mono _
      | exact thalwegref03_Ints.mono _ _ _
      | exact thalwegref25_Cycle.mono _ _
      | exact thalwegref25_Parts.mono _ _ _
      | exact thalwegref25_Steps.mono _ _ _ _
      | exact thalwegref25_Way.mono _ _ _ _
      | exact LeO.none _
      | refine LeO.ite ?_ ?_
      | refine LeO.bind ?_ (fun _ => ?_)
theorem thalweglaw25_GraphTells.mono : ∀ a0 a1 a2 a3 a4 k, LeO (thalweglaw25_GraphTells.f k a0 a1 a2 a3 a4) (thalweglaw25_GraphTells.f (k + 1) a0 a1 a2 a3 a4) := by
  intro a0 a1 a2 a3 a4 k
  have ih0 := thalweglaw25_GraphTells.mono_l k
  unfold thalweglaw25_GraphTells.f
  repeat' first
      | (with_reducible exact ih0 _ _ _ _ _ _)
      | (with_reducible exact graph_Cycle.mono _ _)
      | (with_reducible exact graph_Parts.mono _ _ _)
      | (with_reducible exact graph_Steps.mono _ _ _ _)
      | (with_reducible exact graph_Way.mono _ _ _ _)
      | (with_reducible exact thalweglaw25_awake.mono _)
      | (with_reducible exact thalwegref03_Ints.mono _ _ _)
      | (with_reducible exact thalwegref25_Cycle.mono _ _)
      | (with_reducible exact thalwegref25_Parts.mono _ _ _)
      | (with_reducible exact thalwegref25_Steps.mono _ _ _ _)
      | (with_reducible exact thalwegref25_Way.mono _ _ _ _)
      | (with_reducible exact LeO.refl _)
      | (with_reducible exact LeO.none _)
      | (with_reducible refine LeO.ite ?_ ?_)
      | (with_reducible refine LeO.bind ?_ (fun _ => ?_))
      | exact ih0 _ _ _ _ _ _
      | exact graph_Cycle.mono _ _
      | exact graph_Parts.mono _ _ _
      | exact graph_Steps.mono _ _ _ _
      | exact graph_Way.mono _ _ _ _
      | exact thalweglaw25_awake.mono _
      | exact thalwegref03_Ints.mono _ _ _
      | exact thalwegref25_Cycle.mono _ _
      | exact thalwegref25_Parts.mono _ _ _
      | exact thalwegref25_Steps.mono _ _ _ _
      | exact thalwegref25_Way.mono _ _ _ _
      | exact LeO.none _
      | refine LeO.ite ?_ ?_
      | refine LeO.bind ?_ (fun _ => ?_)
set_option maxHeartbeats 8000000 in
set_option maxRecDepth 100000 in
theorem thalweglaw25_GraphTells.calls (k : Nat) (a0 : Int) (A1 : Option Addr) (c1 : Nat) (l1 : List (S36)) (a2 : Int) (A3 : Option Addr) (c3 : Nat) (l3 : List Int) (a4 : Int) (r : Bool) (w : World) (hr1 : Kd.C k36 w A1 l1.length l1) (hc1 : l1.length ≤ c1) (hr3 : Kd.C (Kd.int .i64) w A3 l3.length l3) (hc3 : l3.length ≤ c3) (h : thalweglaw25_GraphTells.f k a0 l1 a2 l3 a4 = some r) :
    Calls Try.prog 4 #[.int .i64 a0, .slice A1 l1.length c1, .int .i64 a2, .slice A3 l3.length c3, .int .i64 a4] w fun e w' => e = .returned (.bool r) ∧ Below w.heap.size w w' := by
  have HR1 := YF hr1; have HC1 := YF hc1; clear hr1 hc1; have HR3 := YF hr3; have HC3 := YF hc3; clear hr3 hc3
  have HB := YF (Below.refl w.heap.size w)
  have H : (if a0 > 20 then (if a0 ≤ 64 then (thalweglaw25_GraphTells.j0 k a0 l1 a2 l3 a4 true) else (if (l1.length : Int) > 40 then (thalweglaw25_GraphTells.j0 k a0 l1 a2 l3 a4 true) else (thalweglaw25_GraphTells.j0 k a0 l1 a2 l3 a4 (decide ((l3.length : Int) > 60))))) else (if (l1.length : Int) > 40 then (thalweglaw25_GraphTells.j0 k a0 l1 a2 l3 a4 true) else (thalweglaw25_GraphTells.j0 k a0 l1 a2 l3 a4 (decide ((l3.length : Int) > 60))))) = some r := h
  clear h; have HC6 := YF H; clear H
  go_enter Try.func4, Try.ntmps4
  go_upto_region 1 with (fail)
  go_cut [42] (fun v42 wc => ∃ (kq : Nat) (x42_5 : Bool), v42 = .bool x42_5 ∧ Aside0 (thalweglaw25_GraphTells.j0 kq a0 l1 a2 l3 a4 x42_5 = some r) ∧ Aside0 (kq ≤ k) ∧ Aside0 (Below w.heap.size w wc))
  case first =>
    have H := HC6.out
    clear HC6
    by_cases c7 : a0 > 20
    · rw [if_pos c7] at H
      have c7b0 : decide (20 < a0) = true := decide_eq_true c7; clear c7
      (first | rw [c7b0] | (simp only [i64_w, i32_w]; rw [c7b0]) | rw [c7b1] | skip)
      by_cases c8 : a0 ≤ 64
      · rw [if_pos c8] at H
        have c8b0 : decide (a0 ≤ 64) = true := decide_eq_true c8; clear c8
        have H' := YF H
        clear H
        go_wp2
        go_meet
        case rel => exact ⟨_, (true), (by first | rfl | (simp; done) | (simp [*]; done)), H', ⟨by first | omega | exact Nat.le_refl _⟩, ⟨by repeat (first | (with_reducible first | exact HB.out | apply YA | apply YB | apply YC) | exact HB.out)⟩⟩
      rw [if_neg c8] at H; have c8b0 : decide (a0 ≤ 64) = false := decide_eq_false c8; clear c8
      by_cases c9 : (l1.length : Int) > 40
      · rw [if_pos c9] at H
        have c9b0 : decide (40 < (l1.length : Int)) = true := decide_eq_true c9
        have c9b1 : decide (40 < l1.length) = true := decide_eq_true (by omega)
        clear c9
        have H' := YF H
        clear H
        go_wp2
        go_meet
        case rel => exact ⟨_, (true), (by first | rfl | (simp; done) | (simp [*]; done)), H', ⟨by first | omega | exact Nat.le_refl _⟩, ⟨by repeat (first | (with_reducible first | exact HB.out | apply YA | apply YB | apply YC) | exact HB.out)⟩⟩
      rw [if_neg c9] at H
      have c9b0 : decide (40 < (l1.length : Int)) = false := decide_eq_false c9
      have c9b1 : decide (40 < l1.length) = false := decide_eq_false (by omega)
      clear c9
      have H' := YF H
      clear H
      go_wp2
      go_meet
      case rel => exact ⟨_, (decide ((l3.length : Int) > 60)), (by first | rfl | (simp; done) | (simp [*]; done)), H', ⟨by first | omega | exact Nat.le_refl _⟩, ⟨by repeat (first | (with_reducible first | exact HB.out | apply YA | apply YB | apply YC) | exact HB.out)⟩⟩
    rw [if_neg c7] at H; have c7b0 : decide (20 < a0) = false := decide_eq_false c7; clear c7
    (first | rw [c7b0] | (simp only [i64_w, i32_w]; rw [c7b0]) | rw [c7b1] | skip)
    by_cases c10 : (l1.length : Int) > 40
    · rw [if_pos c10] at H
      have c10b0 : decide (40 < (l1.length : Int)) = true := decide_eq_true c10
      have c10b1 : decide (40 < l1.length) = true := decide_eq_true (by omega)
      clear c10
      have H' := YF H
      clear H
      go_wp2
      go_meet
      case rel => exact ⟨_, (true), (by first | rfl | (simp; done) | (simp [*]; done)), H', ⟨by first | omega | exact Nat.le_refl _⟩, ⟨by repeat (first | (with_reducible first | exact HB.out | apply YA | apply YB | apply YC) | exact HB.out)⟩⟩
    rw [if_neg c10] at H
    have c10b0 : decide (40 < (l1.length : Int)) = false := decide_eq_false c10
    have c10b1 : decide (40 < l1.length) = false := decide_eq_false (by omega)
    clear c10
    have H' := YF H
    clear H
    go_wp2
    go_meet
    case rel => exact ⟨_, (decide ((l3.length : Int) > 60)), (by first | rfl | (simp; done) | (simp [*]; done)), H', ⟨by first | omega | exact Nat.le_refl _⟩, ⟨by repeat (first | (with_reducible first | exact HB.out | apply YA | apply YB | apply YC) | exact HB.out)⟩⟩
  case rest =>
    clear HC6
    try clear c1
    try clear p2
    try clear c3
    try clear c4
    try clear c7
    try clear c7b0
    try clear c8
    try clear c8b0
    try clear c9
    try clear c9b0
    try clear c9b1
    try clear c10
    try clear c10b0
    try clear c10b1
    obtain ⟨kq, x42_5, rfl, HA, HJ5, HB⟩ := hcut
    cases kq with
    | zero => exact absurd HA.out (by simp [thalweglaw25_GraphTells.j0])
    | succ kj5 =>
      have H := HA.out
      clear HA
      simp only [thalweglaw25_GraphTells.j0] at H
      by_cases c11 : x42_5 = true
      · subst c11
        have H1 : (some true) = some r := by rw [if_pos rfl] at H; exact H
        clear H
        have H := H1
        clear H1
        obtain rfl := Option.some.inj H
        go_wp2
        go_ret
        exact ⟨by first | rfl | (simp [errW_none, errW_some] <;> rfl) | (simp [*, errW_none, errW_some] <;> rfl), by repeat (first | (with_reducible first | exact HB.out | apply YA | apply YB | apply YC) | exact HB.out)⟩
      replace c11 := Bool.eq_false_iff.mpr c11
      subst c11
      have H1 : ((graph_Parts.f kj5 a0 l1).bind fun bt262 => ((thalwegref25_Parts.f kj5 a0 l1).bind fun bt266 => ((graph_Steps.f kj5 a0 l1 a2).bind fun bt270 => ((thalwegref25_Steps.f kj5 a0 l1 a2).bind fun bt274 => ((graph_Cycle.f kj5 l3).bind fun bt278 => ((thalwegref25_Cycle.f kj5 l3).bind fun bt282 => ((graph_Way.f kj5 l3 a2 a4).bind fun bt286 => ((thalwegref25_Way.f kj5 l3 a2 a4).bind fun bt290 => ((thalweglaw25_awake.f kj5).bind fun t294 => (if t294 = true then ((thalwegref03_Ints.f kj5 bt262.1 bt266.1).bind fun t295 => (if t295 = true then (if bt262.2 = bt266.2 then ((thalwegref03_Ints.f kj5 bt270.1 bt274.1).bind fun t296 => (if t296 = true then (if bt270.2 = bt274.2 then ((thalwegref03_Ints.f kj5 bt278.1 bt282.1).bind fun t297 => (if t297 = true then (if (bt278.2 == bt282.2) = true then ((thalwegref03_Ints.f kj5 bt286.1 bt290.1).bind fun t298 => (if t298 = true then (some (bt286.2 == bt290.2)) else (none))) else (none)) else (none))) else (none)) else (none))) else (none)) else (none))) else (none))))))))))) = some r := by rw [if_neg (show ¬ (false = true) by decide)] at H; exact H
      clear H
      have H := H1
      clear H1; replace H := Option.bind_eq_some_iff.mp H
      obtain ⟨⟨t262, t263⟩, A120, H⟩ := H
      replace H : ((thalwegref25_Parts.f kj5 a0 l1).bind fun bt266 => ((graph_Steps.f kj5 a0 l1 a2).bind fun bt270 => ((thalwegref25_Steps.f kj5 a0 l1 a2).bind fun bt274 => ((graph_Cycle.f kj5 l3).bind fun bt278 => ((thalwegref25_Cycle.f kj5 l3).bind fun bt282 => ((graph_Way.f kj5 l3 a2 a4).bind fun bt286 => ((thalwegref25_Way.f kj5 l3 a2 a4).bind fun bt290 => ((thalweglaw25_awake.f kj5).bind fun t294 => (if t294 = true then ((thalwegref03_Ints.f kj5 t262 bt266.1).bind fun t295 => (if t295 = true then (if t263 = bt266.2 then ((thalwegref03_Ints.f kj5 bt270.1 bt274.1).bind fun t296 => (if t296 = true then (if bt270.2 = bt274.2 then ((thalwegref03_Ints.f kj5 bt278.1 bt282.1).bind fun t297 => (if t297 = true then (if (bt278.2 == bt282.2) = true then ((thalwegref03_Ints.f kj5 bt286.1 bt290.1).bind fun t298 => (if t298 = true then (some (bt286.2 == bt290.2)) else (none))) else (none)) else (none))) else (none)) else (none))) else (none)) else (none))) else (none)))))))))) = some r := H
      have A12 := YF A120; clear A120; replace H := Option.bind_eq_some_iff.mp H
      obtain ⟨⟨t266, t267⟩, A130, H⟩ := H
      replace H : ((graph_Steps.f kj5 a0 l1 a2).bind fun bt270 => ((thalwegref25_Steps.f kj5 a0 l1 a2).bind fun bt274 => ((graph_Cycle.f kj5 l3).bind fun bt278 => ((thalwegref25_Cycle.f kj5 l3).bind fun bt282 => ((graph_Way.f kj5 l3 a2 a4).bind fun bt286 => ((thalwegref25_Way.f kj5 l3 a2 a4).bind fun bt290 => ((thalweglaw25_awake.f kj5).bind fun t294 => (if t294 = true then ((thalwegref03_Ints.f kj5 t262 t266).bind fun t295 => (if t295 = true then (if t263 = t267 then ((thalwegref03_Ints.f kj5 bt270.1 bt274.1).bind fun t296 => (if t296 = true then (if bt270.2 = bt274.2 then ((thalwegref03_Ints.f kj5 bt278.1 bt282.1).bind fun t297 => (if t297 = true then (if (bt278.2 == bt282.2) = true then ((thalwegref03_Ints.f kj5 bt286.1 bt290.1).bind fun t298 => (if t298 = true then (some (bt286.2 == bt290.2)) else (none))) else (none)) else (none))) else (none)) else (none))) else (none)) else (none))) else (none))))))))) = some r := H
      have A13 := YF A130; clear A130; replace H := Option.bind_eq_some_iff.mp H
      obtain ⟨⟨t270, t271⟩, A140, H⟩ := H
      replace H : ((thalwegref25_Steps.f kj5 a0 l1 a2).bind fun bt274 => ((graph_Cycle.f kj5 l3).bind fun bt278 => ((thalwegref25_Cycle.f kj5 l3).bind fun bt282 => ((graph_Way.f kj5 l3 a2 a4).bind fun bt286 => ((thalwegref25_Way.f kj5 l3 a2 a4).bind fun bt290 => ((thalweglaw25_awake.f kj5).bind fun t294 => (if t294 = true then ((thalwegref03_Ints.f kj5 t262 t266).bind fun t295 => (if t295 = true then (if t263 = t267 then ((thalwegref03_Ints.f kj5 t270 bt274.1).bind fun t296 => (if t296 = true then (if t271 = bt274.2 then ((thalwegref03_Ints.f kj5 bt278.1 bt282.1).bind fun t297 => (if t297 = true then (if (bt278.2 == bt282.2) = true then ((thalwegref03_Ints.f kj5 bt286.1 bt290.1).bind fun t298 => (if t298 = true then (some (bt286.2 == bt290.2)) else (none))) else (none)) else (none))) else (none)) else (none))) else (none)) else (none))) else (none)))))))) = some r := H
      have A14 := YF A140; clear A140; replace H := Option.bind_eq_some_iff.mp H
      obtain ⟨⟨t274, t275⟩, A150, H⟩ := H
      replace H : ((graph_Cycle.f kj5 l3).bind fun bt278 => ((thalwegref25_Cycle.f kj5 l3).bind fun bt282 => ((graph_Way.f kj5 l3 a2 a4).bind fun bt286 => ((thalwegref25_Way.f kj5 l3 a2 a4).bind fun bt290 => ((thalweglaw25_awake.f kj5).bind fun t294 => (if t294 = true then ((thalwegref03_Ints.f kj5 t262 t266).bind fun t295 => (if t295 = true then (if t263 = t267 then ((thalwegref03_Ints.f kj5 t270 t274).bind fun t296 => (if t296 = true then (if t271 = t275 then ((thalwegref03_Ints.f kj5 bt278.1 bt282.1).bind fun t297 => (if t297 = true then (if (bt278.2 == bt282.2) = true then ((thalwegref03_Ints.f kj5 bt286.1 bt290.1).bind fun t298 => (if t298 = true then (some (bt286.2 == bt290.2)) else (none))) else (none)) else (none))) else (none)) else (none))) else (none)) else (none))) else (none))))))) = some r := H
      have A15 := YF A150; clear A150; replace H := Option.bind_eq_some_iff.mp H
      obtain ⟨⟨t278, t279⟩, A160, H⟩ := H
      replace H : ((thalwegref25_Cycle.f kj5 l3).bind fun bt282 => ((graph_Way.f kj5 l3 a2 a4).bind fun bt286 => ((thalwegref25_Way.f kj5 l3 a2 a4).bind fun bt290 => ((thalweglaw25_awake.f kj5).bind fun t294 => (if t294 = true then ((thalwegref03_Ints.f kj5 t262 t266).bind fun t295 => (if t295 = true then (if t263 = t267 then ((thalwegref03_Ints.f kj5 t270 t274).bind fun t296 => (if t296 = true then (if t271 = t275 then ((thalwegref03_Ints.f kj5 t278 bt282.1).bind fun t297 => (if t297 = true then (if (t279 == bt282.2) = true then ((thalwegref03_Ints.f kj5 bt286.1 bt290.1).bind fun t298 => (if t298 = true then (some (bt286.2 == bt290.2)) else (none))) else (none)) else (none))) else (none)) else (none))) else (none)) else (none))) else (none)))))) = some r := H
      have A16 := YF A160; clear A160; replace H := Option.bind_eq_some_iff.mp H
      obtain ⟨⟨t282, t283⟩, A170, H⟩ := H
      replace H : ((graph_Way.f kj5 l3 a2 a4).bind fun bt286 => ((thalwegref25_Way.f kj5 l3 a2 a4).bind fun bt290 => ((thalweglaw25_awake.f kj5).bind fun t294 => (if t294 = true then ((thalwegref03_Ints.f kj5 t262 t266).bind fun t295 => (if t295 = true then (if t263 = t267 then ((thalwegref03_Ints.f kj5 t270 t274).bind fun t296 => (if t296 = true then (if t271 = t275 then ((thalwegref03_Ints.f kj5 t278 t282).bind fun t297 => (if t297 = true then (if (t279 == t283) = true then ((thalwegref03_Ints.f kj5 bt286.1 bt290.1).bind fun t298 => (if t298 = true then (some (bt286.2 == bt290.2)) else (none))) else (none)) else (none))) else (none)) else (none))) else (none)) else (none))) else (none))))) = some r := H
      have A17 := YF A170; clear A170; replace H := Option.bind_eq_some_iff.mp H
      obtain ⟨⟨t286, t287⟩, A180, H⟩ := H
      replace H : ((thalwegref25_Way.f kj5 l3 a2 a4).bind fun bt290 => ((thalweglaw25_awake.f kj5).bind fun t294 => (if t294 = true then ((thalwegref03_Ints.f kj5 t262 t266).bind fun t295 => (if t295 = true then (if t263 = t267 then ((thalwegref03_Ints.f kj5 t270 t274).bind fun t296 => (if t296 = true then (if t271 = t275 then ((thalwegref03_Ints.f kj5 t278 t282).bind fun t297 => (if t297 = true then (if (t279 == t283) = true then ((thalwegref03_Ints.f kj5 t286 bt290.1).bind fun t298 => (if t298 = true then (some (t287 == bt290.2)) else (none))) else (none)) else (none))) else (none)) else (none))) else (none)) else (none))) else (none)))) = some r := H
      have A18 := YF A180; clear A180; replace H := Option.bind_eq_some_iff.mp H
      obtain ⟨⟨t290, t291⟩, A190, H⟩ := H
      replace H : ((thalweglaw25_awake.f kj5).bind fun t294 => (if t294 = true then ((thalwegref03_Ints.f kj5 t262 t266).bind fun t295 => (if t295 = true then (if t263 = t267 then ((thalwegref03_Ints.f kj5 t270 t274).bind fun t296 => (if t296 = true then (if t271 = t275 then ((thalwegref03_Ints.f kj5 t278 t282).bind fun t297 => (if t297 = true then (if (t279 == t283) = true then ((thalwegref03_Ints.f kj5 t286 t290).bind fun t298 => (if t298 = true then (some (t287 == t291)) else (none))) else (none)) else (none))) else (none)) else (none))) else (none)) else (none))) else (none))) = some r := H
      have A19 := YF A190; clear A190; replace H := Option.bind_eq_some_iff.mp H; obtain ⟨t294, A200, H⟩ := H
      replace H : (if t294 = true then ((thalwegref03_Ints.f kj5 t262 t266).bind fun t295 => (if t295 = true then (if t263 = t267 then ((thalwegref03_Ints.f kj5 t270 t274).bind fun t296 => (if t296 = true then (if t271 = t275 then ((thalwegref03_Ints.f kj5 t278 t282).bind fun t297 => (if t297 = true then (if (t279 == t283) = true then ((thalwegref03_Ints.f kj5 t286 t290).bind fun t298 => (if t298 = true then (some (t287 == t291)) else (none))) else (none)) else (none))) else (none)) else (none))) else (none)) else (none))) else (none)) = some r := H
      have A20 := YF A200; clear A200
      by_cases c21 : t294 = true
      · subst c21
        have H1 : ((thalwegref03_Ints.f kj5 t262 t266).bind fun t295 => (if t295 = true then (if t263 = t267 then ((thalwegref03_Ints.f kj5 t270 t274).bind fun t296 => (if t296 = true then (if t271 = t275 then ((thalwegref03_Ints.f kj5 t278 t282).bind fun t297 => (if t297 = true then (if (t279 == t283) = true then ((thalwegref03_Ints.f kj5 t286 t290).bind fun t298 => (if t298 = true then (some (t287 == t291)) else (none))) else (none)) else (none))) else (none)) else (none))) else (none)) else (none))) = some r := by rw [if_pos rfl] at H; exact H
        clear H
        have H := H1
        clear H1; replace H := Option.bind_eq_some_iff.mp H; obtain ⟨t295, A220, H⟩ := H
        replace H : (if t295 = true then (if t263 = t267 then ((thalwegref03_Ints.f kj5 t270 t274).bind fun t296 => (if t296 = true then (if t271 = t275 then ((thalwegref03_Ints.f kj5 t278 t282).bind fun t297 => (if t297 = true then (if (t279 == t283) = true then ((thalwegref03_Ints.f kj5 t286 t290).bind fun t298 => (if t298 = true then (some (t287 == t291)) else (none))) else (none)) else (none))) else (none)) else (none))) else (none)) else (none)) = some r := H
        have A22 := YF A220; clear A220
        by_cases c23 : t295 = true
        · subst c23
          have H1 : (if t263 = t267 then ((thalwegref03_Ints.f kj5 t270 t274).bind fun t296 => (if t296 = true then (if t271 = t275 then ((thalwegref03_Ints.f kj5 t278 t282).bind fun t297 => (if t297 = true then (if (t279 == t283) = true then ((thalwegref03_Ints.f kj5 t286 t290).bind fun t298 => (if t298 = true then (some (t287 == t291)) else (none))) else (none)) else (none))) else (none)) else (none))) else (none)) = some r := by rw [if_pos rfl] at H; exact H
          clear H
          have H := H1
          clear H1
          by_cases c24 : t263 = t267
          rotate_left
          · rw [if_neg c24] at H
            exact absurd H (by simp)
          rw [if_pos c24] at H
          have c24b0 : (t263 == t267) = true := beq_iff_eq.mpr c24
          have c24b1 : (t263 != t267) = false := bne_eq_false_iff_eq.mpr c24
          clear c24; replace H := Option.bind_eq_some_iff.mp H; obtain ⟨t296, A250, H⟩ := H
          replace H : (if t296 = true then (if t271 = t275 then ((thalwegref03_Ints.f kj5 t278 t282).bind fun t297 => (if t297 = true then (if (t279 == t283) = true then ((thalwegref03_Ints.f kj5 t286 t290).bind fun t298 => (if t298 = true then (some (t287 == t291)) else (none))) else (none)) else (none))) else (none)) else (none)) = some r := H
          have A25 := YF A250; clear A250
          by_cases c26 : t296 = true
          · subst c26
            have H1 : (if t271 = t275 then ((thalwegref03_Ints.f kj5 t278 t282).bind fun t297 => (if t297 = true then (if (t279 == t283) = true then ((thalwegref03_Ints.f kj5 t286 t290).bind fun t298 => (if t298 = true then (some (t287 == t291)) else (none))) else (none)) else (none))) else (none)) = some r := by rw [if_pos rfl] at H; exact H
            clear H
            have H := H1
            clear H1
            by_cases c27 : t271 = t275
            rotate_left
            · rw [if_neg c27] at H
              exact absurd H (by simp)
            rw [if_pos c27] at H
            have c27b0 : (t271 == t275) = true := beq_iff_eq.mpr c27
            have c27b1 : (t271 != t275) = false := bne_eq_false_iff_eq.mpr c27
            clear c27; replace H := Option.bind_eq_some_iff.mp H; obtain ⟨t297, A280, H⟩ := H
            replace H : (if t297 = true then (if (t279 == t283) = true then ((thalwegref03_Ints.f kj5 t286 t290).bind fun t298 => (if t298 = true then (some (t287 == t291)) else (none))) else (none)) else (none)) = some r := H
            have A28 := YF A280; clear A280
            by_cases c29 : t297 = true
            · subst c29
              have H1 : (if (t279 == t283) = true then ((thalwegref03_Ints.f kj5 t286 t290).bind fun t298 => (if t298 = true then (some (t287 == t291)) else (none))) else (none)) = some r := by rw [if_pos rfl] at H; exact H
              clear H
              have H := H1
              clear H1
              by_cases c30 : (t279 == t283) = true
              rotate_left
              · rw [if_neg c30] at H
                exact absurd H (by simp)
              rw [if_pos c30] at H
              have c30b0 : (t279 == t283) = true := c30
              (try (have c30b1 : decide (t279 = t283) = true := by simpa using c30))
              (try (have c30b2 : (t279 == t283) = true := by simpa using c30))
              clear c30; replace H := Option.bind_eq_some_iff.mp H; obtain ⟨t298, A310, H⟩ := H
              replace H : (if t298 = true then (some (t287 == t291)) else (none)) = some r := H
              have A31 := YF A310; clear A310
              by_cases c32 : t298 = true
              · subst c32
                have H1 : (some (t287 == t291)) = some r := by rw [if_pos rfl] at H; exact H
                clear H
                have H := H1
                clear H1
                obtain rfl := Option.some.inj H
                go_wp2_with (first | ((with_reducible refine gate_callee (f := 11) rfl ?_); refine goesL_ (some 46) rfl rfl Try.func11 (by kernel_rfl) rfl #[.int .i64 a0, .slice A1 l1.length c1] rfl (by (try simp only [YG, List.map_cons, List.map_nil]); first | done | rfl | (simp only [YI, YH]; rfl)) ?_; (with_reducible refine (graph_Parts.calls kj5 a0 _ _ l1 t262 t263 _ ?side1 ?side2 A12.out).mono ?_); (case side1 => repeat (first | exact (Kd.C_below HR1.out HB.out) | (with_reducible refine Kd.C_alloc ?_ _) | (with_reducible refine Kd.C_drewN ?_ _) | (with_reducible refine Kd.C_drew ?_))); (case side2 => exact HC1.out); rintro e w33 ⟨v264, rfl, ho0, hb⟩; refine ⟨_, rfl, ?_⟩; have n0_ := YF (Kd.R_lower ho0 (YE (by repeat (first | (with_reducible first | exact HB.out | apply YA | apply YB | apply YC) | exact HB.out)))); have n1_ := YF (YD (by repeat (first | (with_reducible first | exact HB.out | apply YA | apply YB | apply YC) | exact HB.out)) hb); clear HB; have HO265 := n0_; have HB := n1_; clear n0_ n1_; (try clear hb); (try clear hb2); (try clear hk); (try clear hi); (try clear ho0)) | ((with_reducible refine gate_callee (f := 12) rfl ?_); refine goesL_ (some 52) rfl rfl Try.func12 (by kernel_rfl) rfl #[.int .i64 a0, .slice A1 l1.length c1] rfl (by (try simp only [YG, List.map_cons, List.map_nil]); first | done | rfl | (simp only [YI, YH]; rfl)) ?_; (with_reducible refine (thalwegref25_Parts.calls kj5 a0 _ _ l1 t266 t267 _ ?side1 ?side2 A13.out).mono ?_); (case side1 => repeat (first | exact (Kd.C_below HR1.out HB.out) | (with_reducible refine Kd.C_alloc ?_ _) | (with_reducible refine Kd.C_drewN ?_ _) | (with_reducible refine Kd.C_drew ?_))); (case side2 => exact HC1.out); rintro e w34 ⟨v268, rfl, ho0, hb⟩; refine ⟨_, rfl, ?_⟩; have n0_ := YF (Kd.R_elder' (by (with_reducible repeat (first | apply YJ | apply YK | apply YL)); exact HO265.out) (Kd.R_base ho0) hb); have n1_ := YF (Kd.R_lower (Kd.R_new' ho0 (Kd.R_lt (by (with_reducible repeat (first | apply YJ | apply YK | apply YL)); exact HO265.out))) (YE (by repeat (first | (with_reducible first | exact HB.out | apply YA | apply YB | apply YC) | exact HB.out)))); have n2_ := YF (YD (by repeat (first | (with_reducible first | exact HB.out | apply YA | apply YB | apply YC) | exact HB.out)) hb); clear HO265; clear HB; have HO265 := n0_; have HO269 := n1_; have HB := n2_; clear n0_ n1_ n2_; (try clear hb); (try clear hb2); (try clear hk); (try clear hi); (try clear ho0)) | ((with_reducible refine gate_callee (f := 13) rfl ?_); refine goesL_ (some 59) rfl rfl Try.func13 (by kernel_rfl) rfl #[.int .i64 a0, .slice A1 l1.length c1, .int .i64 a2] rfl (by (try simp only [YG, List.map_cons, List.map_nil]); first | done | rfl | (simp only [YI, YH]; rfl)) ?_; (with_reducible refine (graph_Steps.calls kj5 a0 _ _ l1 a2 t270 t271 _ ?side1 ?side2 A14.out).mono ?_); (case side1 => repeat (first | exact (Kd.C_below HR1.out HB.out) | (with_reducible refine Kd.C_alloc ?_ _) | (with_reducible refine Kd.C_drewN ?_ _) | (with_reducible refine Kd.C_drew ?_))); (case side2 => exact HC1.out); rintro e w35 ⟨v272, rfl, ho0, hb⟩; refine ⟨_, rfl, ?_⟩; have n0_ := YF (Kd.R_elder' (by (with_reducible repeat (first | apply YJ | apply YK | apply YL)); exact HO265.out) (Kd.R_base ho0) hb); have n1_ := YF (Kd.R_elder' (by (with_reducible repeat (first | apply YJ | apply YK | apply YL)); exact HO269.out) (Kd.R_base ho0) hb); have n2_ := YF (Kd.R_lower (Kd.R_new' (Kd.R_new' ho0 (Kd.R_lt (by (with_reducible repeat (first | apply YJ | apply YK | apply YL)); exact HO265.out))) (Kd.R_lt (by (with_reducible repeat (first | apply YJ | apply YK | apply YL)); exact HO269.out))) (YE (by repeat (first | (with_reducible first | exact HB.out | apply YA | apply YB | apply YC) | exact HB.out)))); have n3_ := YF (YD (by repeat (first | (with_reducible first | exact HB.out | apply YA | apply YB | apply YC) | exact HB.out)) hb); clear HO265; clear HO269; clear HB; have HO265 := n0_; have HO269 := n1_; have HO273 := n2_; have HB := n3_; clear n0_ n1_ n2_ n3_; (try clear hb); (try clear hb2); (try clear hk); (try clear hi); (try clear ho0)) | ((with_reducible refine gate_callee (f := 14) rfl ?_); refine goesL_ (some 66) rfl rfl Try.func14 (by kernel_rfl) rfl #[.int .i64 a0, .slice A1 l1.length c1, .int .i64 a2] rfl (by (try simp only [YG, List.map_cons, List.map_nil]); first | done | rfl | (simp only [YI, YH]; rfl)) ?_; (with_reducible refine (thalwegref25_Steps.calls kj5 a0 _ _ l1 a2 t274 t275 _ ?side1 ?side2 A15.out).mono ?_); (case side1 => repeat (first | exact (Kd.C_below HR1.out HB.out) | (with_reducible refine Kd.C_alloc ?_ _) | (with_reducible refine Kd.C_drewN ?_ _) | (with_reducible refine Kd.C_drew ?_))); (case side2 => exact HC1.out); rintro e w36 ⟨v276, rfl, ho0, hb⟩; refine ⟨_, rfl, ?_⟩; have n0_ := YF (Kd.R_elder' (by (with_reducible repeat (first | apply YJ | apply YK | apply YL)); exact HO265.out) (Kd.R_base ho0) hb); have n1_ := YF (Kd.R_elder' (by (with_reducible repeat (first | apply YJ | apply YK | apply YL)); exact HO269.out) (Kd.R_base ho0) hb); have n2_ := YF (Kd.R_elder' (by (with_reducible repeat (first | apply YJ | apply YK | apply YL)); exact HO273.out) (Kd.R_base ho0) hb); have n3_ := YF (Kd.R_lower (Kd.R_new' (Kd.R_new' (Kd.R_new' ho0 (Kd.R_lt (by (with_reducible repeat (first | apply YJ | apply YK | apply YL)); exact HO265.out))) (Kd.R_lt (by (with_reducible repeat (first | apply YJ | apply YK | apply YL)); exact HO269.out))) (Kd.R_lt (by (with_reducible repeat (first | apply YJ | apply YK | apply YL)); exact HO273.out))) (YE (by repeat (first | (with_reducible first | exact HB.out | apply YA | apply YB | apply YC) | exact HB.out)))); have n4_ := YF (YD (by repeat (first | (with_reducible first | exact HB.out | apply YA | apply YB | apply YC) | exact HB.out)) hb); clear HO265; clear HO269; clear HO273; clear HB; have HO265 := n0_; have HO269 := n1_; have HO273 := n2_; have HO277 := n3_; have HB := n4_; clear n0_ n1_ n2_ n3_ n4_; (try clear hb); (try clear hb2); (try clear hk); (try clear hi); (try clear ho0)) | ((with_reducible refine gate_callee (f := 9) rfl ?_); refine goesL_ (some 71) rfl rfl Try.func9 (by kernel_rfl) rfl #[.slice A3 l3.length c3] rfl (by (try simp only [YG, List.map_cons, List.map_nil]); first | done | rfl | (simp only [YI, YH]; rfl)) ?_; (with_reducible refine (graph_Cycle.calls kj5 _ _ l3 t278 t279 _ ?side1 ?side2 A16.out).mono ?_); (case side1 => repeat (first | exact (Kd.C_below HR3.out HB.out) | (with_reducible refine Kd.C_alloc ?_ _) | (with_reducible refine Kd.C_drewN ?_ _) | (with_reducible refine Kd.C_drew ?_))); (case side2 => exact HC3.out); rintro e w37 ⟨v280, rfl, ho0, hb⟩; refine ⟨_, rfl, ?_⟩; have n0_ := YF (Kd.R_elder' (by (with_reducible repeat (first | apply YJ | apply YK | apply YL)); exact HO265.out) (Kd.R_base ho0) hb); have n1_ := YF (Kd.R_elder' (by (with_reducible repeat (first | apply YJ | apply YK | apply YL)); exact HO269.out) (Kd.R_base ho0) hb); have n2_ := YF (Kd.R_elder' (by (with_reducible repeat (first | apply YJ | apply YK | apply YL)); exact HO273.out) (Kd.R_base ho0) hb); have n3_ := YF (Kd.R_elder' (by (with_reducible repeat (first | apply YJ | apply YK | apply YL)); exact HO277.out) (Kd.R_base ho0) hb); have n4_ := YF (Kd.R_lower (Kd.R_new' (Kd.R_new' (Kd.R_new' (Kd.R_new' ho0 (Kd.R_lt (by (with_reducible repeat (first | apply YJ | apply YK | apply YL)); exact HO265.out))) (Kd.R_lt (by (with_reducible repeat (first | apply YJ | apply YK | apply YL)); exact HO269.out))) (Kd.R_lt (by (with_reducible repeat (first | apply YJ | apply YK | apply YL)); exact HO273.out))) (Kd.R_lt (by (with_reducible repeat (first | apply YJ | apply YK | apply YL)); exact HO277.out))) (YE (by repeat (first | (with_reducible first | exact HB.out | apply YA | apply YB | apply YC) | exact HB.out)))); have n5_ := YF (YD (by repeat (first | (with_reducible first | exact HB.out | apply YA | apply YB | apply YC) | exact HB.out)) hb); clear HO265; clear HO269; clear HO273; clear HO277; clear HB; have HO265 := n0_; have HO269 := n1_; have HO273 := n2_; have HO277 := n3_; have HO281 := n4_; have HB := n5_; clear n0_ n1_ n2_ n3_ n4_ n5_; (try clear hb); (try clear hb2); (try clear hk); (try clear hi); (try clear ho0)) | ((with_reducible refine gate_callee (f := 15) rfl ?_); refine goesL_ (some 76) rfl rfl Try.func15 (by kernel_rfl) rfl #[.slice A3 l3.length c3] rfl (by (try simp only [YG, List.map_cons, List.map_nil]); first | done | rfl | (simp only [YI, YH]; rfl)) ?_; (with_reducible refine (thalwegref25_Cycle.calls kj5 _ _ l3 t282 t283 _ ?side1 ?side2 A17.out).mono ?_); (case side1 => repeat (first | exact (Kd.C_below HR3.out HB.out) | (with_reducible refine Kd.C_alloc ?_ _) | (with_reducible refine Kd.C_drewN ?_ _) | (with_reducible refine Kd.C_drew ?_))); (case side2 => exact HC3.out); rintro e w38 ⟨v284, rfl, ho0, hb⟩; refine ⟨_, rfl, ?_⟩; have n0_ := YF (Kd.R_elder' (by (with_reducible repeat (first | apply YJ | apply YK | apply YL)); exact HO265.out) (Kd.R_base ho0) hb); have n1_ := YF (Kd.R_elder' (by (with_reducible repeat (first | apply YJ | apply YK | apply YL)); exact HO269.out) (Kd.R_base ho0) hb); have n2_ := YF (Kd.R_elder' (by (with_reducible repeat (first | apply YJ | apply YK | apply YL)); exact HO273.out) (Kd.R_base ho0) hb); have n3_ := YF (Kd.R_elder' (by (with_reducible repeat (first | apply YJ | apply YK | apply YL)); exact HO277.out) (Kd.R_base ho0) hb); have n4_ := YF (Kd.R_elder' (by (with_reducible repeat (first | apply YJ | apply YK | apply YL)); exact HO281.out) (Kd.R_base ho0) hb); have n5_ := YF (Kd.R_lower (Kd.R_new' (Kd.R_new' (Kd.R_new' (Kd.R_new' (Kd.R_new' ho0 (Kd.R_lt (by (with_reducible repeat (first | apply YJ | apply YK | apply YL)); exact HO265.out))) (Kd.R_lt (by (with_reducible repeat (first | apply YJ | apply YK | apply YL)); exact HO269.out))) (Kd.R_lt (by (with_reducible repeat (first | apply YJ | apply YK | apply YL)); exact HO273.out))) (Kd.R_lt (by (with_reducible repeat (first | apply YJ | apply YK | apply YL)); exact HO277.out))) (Kd.R_lt (by (with_reducible repeat (first | apply YJ | apply YK | apply YL)); exact HO281.out))) (YE (by repeat (first | (with_reducible first | exact HB.out | apply YA | apply YB | apply YC) | exact HB.out)))); have n6_ := YF (YD (by repeat (first | (with_reducible first | exact HB.out | apply YA | apply YB | apply YC) | exact HB.out)) hb); clear HO265; clear HO269; clear HO273; clear HO277; clear HO281; clear HB; have HO265 := n0_; have HO269 := n1_; have HO273 := n2_; have HO277 := n3_; have HO281 := n4_; have HO285 := n5_; have HB := n6_; clear n0_ n1_ n2_ n3_ n4_ n5_ n6_; (try clear hb); (try clear hb2); (try clear hk); (try clear hi); (try clear ho0)) | ((with_reducible refine gate_callee (f := 8) rfl ?_); refine goesL_ (some 83) rfl rfl Try.func8 (by kernel_rfl) rfl #[.slice A3 l3.length c3, .int .i64 a2, .int .i64 a4] rfl (by (try simp only [YG, List.map_cons, List.map_nil]); first | done | rfl | (simp only [YI, YH]; rfl)) ?_; (with_reducible refine (graph_Way.calls kj5 _ _ l3 a2 a4 t286 t287 _ ?side1 ?side2 A18.out).mono ?_); (case side1 => repeat (first | exact (Kd.C_below HR3.out HB.out) | (with_reducible refine Kd.C_alloc ?_ _) | (with_reducible refine Kd.C_drewN ?_ _) | (with_reducible refine Kd.C_drew ?_))); (case side2 => exact HC3.out); rintro e w39 ⟨v288, rfl, ho0, hb⟩; refine ⟨_, rfl, ?_⟩; have n0_ := YF (Kd.R_elder' (by (with_reducible repeat (first | apply YJ | apply YK | apply YL)); exact HO265.out) (Kd.R_base ho0) hb); have n1_ := YF (Kd.R_elder' (by (with_reducible repeat (first | apply YJ | apply YK | apply YL)); exact HO269.out) (Kd.R_base ho0) hb); have n2_ := YF (Kd.R_elder' (by (with_reducible repeat (first | apply YJ | apply YK | apply YL)); exact HO273.out) (Kd.R_base ho0) hb); have n3_ := YF (Kd.R_elder' (by (with_reducible repeat (first | apply YJ | apply YK | apply YL)); exact HO277.out) (Kd.R_base ho0) hb); have n4_ := YF (Kd.R_elder' (by (with_reducible repeat (first | apply YJ | apply YK | apply YL)); exact HO281.out) (Kd.R_base ho0) hb); have n5_ := YF (Kd.R_elder' (by (with_reducible repeat (first | apply YJ | apply YK | apply YL)); exact HO285.out) (Kd.R_base ho0) hb); have n6_ := YF (Kd.R_lower (Kd.R_new' (Kd.R_new' (Kd.R_new' (Kd.R_new' (Kd.R_new' (Kd.R_new' ho0 (Kd.R_lt (by (with_reducible repeat (first | apply YJ | apply YK | apply YL)); exact HO265.out))) (Kd.R_lt (by (with_reducible repeat (first | apply YJ | apply YK | apply YL)); exact HO269.out))) (Kd.R_lt (by (with_reducible repeat (first | apply YJ | apply YK | apply YL)); exact HO273.out))) (Kd.R_lt (by (with_reducible repeat (first | apply YJ | apply YK | apply YL)); exact HO277.out))) (Kd.R_lt (by (with_reducible repeat (first | apply YJ | apply YK | apply YL)); exact HO281.out))) (Kd.R_lt (by (with_reducible repeat (first | apply YJ | apply YK | apply YL)); exact HO285.out))) (YE (by repeat (first | (with_reducible first | exact HB.out | apply YA | apply YB | apply YC) | exact HB.out)))); have n7_ := YF (YD (by repeat (first | (with_reducible first | exact HB.out | apply YA | apply YB | apply YC) | exact HB.out)) hb); clear HO265; clear HO269; clear HO273; clear HO277; clear HO281; clear HO285; clear HB; have HO265 := n0_; have HO269 := n1_; have HO273 := n2_; have HO277 := n3_; have HO281 := n4_; have HO285 := n5_; have HO289 := n6_; have HB := n7_; clear n0_ n1_ n2_ n3_ n4_ n5_ n6_ n7_; (try clear hb); (try clear hb2); (try clear hk); (try clear hi); (try clear ho0)) | ((with_reducible refine gate_callee (f := 16) rfl ?_); refine goesL_ (some 90) rfl rfl Try.func16 (by kernel_rfl) rfl #[.slice A3 l3.length c3, .int .i64 a2, .int .i64 a4] rfl (by (try simp only [YG, List.map_cons, List.map_nil]); first | done | rfl | (simp only [YI, YH]; rfl)) ?_; (with_reducible refine (thalwegref25_Way.calls kj5 _ _ l3 a2 a4 t290 t291 _ ?side1 ?side2 A19.out).mono ?_); (case side1 => repeat (first | exact (Kd.C_below HR3.out HB.out) | (with_reducible refine Kd.C_alloc ?_ _) | (with_reducible refine Kd.C_drewN ?_ _) | (with_reducible refine Kd.C_drew ?_))); (case side2 => exact HC3.out); rintro e w40 ⟨v292, rfl, ho0, hb⟩; refine ⟨_, rfl, ?_⟩; have n0_ := YF (Kd.R_elder' (by (with_reducible repeat (first | apply YJ | apply YK | apply YL)); exact HO265.out) (Kd.R_base ho0) hb); have n1_ := YF (Kd.R_elder' (by (with_reducible repeat (first | apply YJ | apply YK | apply YL)); exact HO269.out) (Kd.R_base ho0) hb); have n2_ := YF (Kd.R_elder' (by (with_reducible repeat (first | apply YJ | apply YK | apply YL)); exact HO273.out) (Kd.R_base ho0) hb); have n3_ := YF (Kd.R_elder' (by (with_reducible repeat (first | apply YJ | apply YK | apply YL)); exact HO277.out) (Kd.R_base ho0) hb); have n4_ := YF (Kd.R_elder' (by (with_reducible repeat (first | apply YJ | apply YK | apply YL)); exact HO281.out) (Kd.R_base ho0) hb); have n5_ := YF (Kd.R_elder' (by (with_reducible repeat (first | apply YJ | apply YK | apply YL)); exact HO285.out) (Kd.R_base ho0) hb); have n6_ := YF (Kd.R_elder' (by (with_reducible repeat (first | apply YJ | apply YK | apply YL)); exact HO289.out) (Kd.R_base ho0) hb); have n7_ := YF (Kd.R_lower (Kd.R_new' (Kd.R_new' (Kd.R_new' (Kd.R_new' (Kd.R_new' (Kd.R_new' (Kd.R_new' ho0 (Kd.R_lt (by (with_reducible repeat (first | apply YJ | apply YK | apply YL)); exact HO265.out))) (Kd.R_lt (by (with_reducible repeat (first | apply YJ | apply YK | apply YL)); exact HO269.out))) (Kd.R_lt (by (with_reducible repeat (first | apply YJ | apply YK | apply YL)); exact HO273.out))) (Kd.R_lt (by (with_reducible repeat (first | apply YJ | apply YK | apply YL)); exact HO277.out))) (Kd.R_lt (by (with_reducible repeat (first | apply YJ | apply YK | apply YL)); exact HO281.out))) (Kd.R_lt (by (with_reducible repeat (first | apply YJ | apply YK | apply YL)); exact HO285.out))) (Kd.R_lt (by (with_reducible repeat (first | apply YJ | apply YK | apply YL)); exact HO289.out))) (YE (by repeat (first | (with_reducible first | exact HB.out | apply YA | apply YB | apply YC) | exact HB.out)))); have n8_ := YF (YD (by repeat (first | (with_reducible first | exact HB.out | apply YA | apply YB | apply YC) | exact HB.out)) hb); clear HO265; clear HO269; clear HO273; clear HO277; clear HO281; clear HO285; clear HO289; clear HB; have HO265 := n0_; have HO269 := n1_; have HO273 := n2_; have HO277 := n3_; have HO281 := n4_; have HO285 := n5_; have HO289 := n6_; have HO293 := n7_; have HB := n8_; clear n0_ n1_ n2_ n3_ n4_ n5_ n6_ n7_ n8_; (try clear hb); (try clear hb2); (try clear hk); (try clear hi); (try clear ho0)) | ((with_reducible refine gate_callee (f := 10) rfl ?_); refine goesL_ (some 93) rfl rfl Try.func10 (by kernel_rfl) rfl #[] rfl (by (try simp only [YG, List.map_cons, List.map_nil]); first | done | rfl | (simp only [YI, YH]; rfl)) ?_; (with_reducible refine (thalweglaw25_awake.calls kj5  true _ A20.out).mono ?_); rintro e w41 ⟨rfl, hb⟩; refine ⟨_, rfl, ?_⟩; have n0_ := YF (YM (by (with_reducible repeat (first | apply YJ | apply YK | apply YL)); exact HO265.out) hb); have n1_ := YF (YM (by (with_reducible repeat (first | apply YJ | apply YK | apply YL)); exact HO269.out) hb); have n2_ := YF (YM (by (with_reducible repeat (first | apply YJ | apply YK | apply YL)); exact HO273.out) hb); have n3_ := YF (YM (by (with_reducible repeat (first | apply YJ | apply YK | apply YL)); exact HO277.out) hb); have n4_ := YF (YM (by (with_reducible repeat (first | apply YJ | apply YK | apply YL)); exact HO281.out) hb); have n5_ := YF (YM (by (with_reducible repeat (first | apply YJ | apply YK | apply YL)); exact HO285.out) hb); have n6_ := YF (YM (by (with_reducible repeat (first | apply YJ | apply YK | apply YL)); exact HO289.out) hb); have n7_ := YF (YM (by (with_reducible repeat (first | apply YJ | apply YK | apply YL)); exact HO293.out) hb); have n8_ := YF (YD (by repeat (first | (with_reducible first | exact HB.out | apply YA | apply YB | apply YC) | exact HB.out)) hb); clear HO265; clear HO269; clear HO273; clear HO277; clear HO281; clear HO285; clear HO289; clear HO293; clear HB; have HO265 := n0_; have HO269 := n1_; have HO273 := n2_; have HO277 := n3_; have HO281 := n4_; have HO285 := n5_; have HO289 := n6_; have HO293 := n7_; have HB := n8_; clear n0_ n1_ n2_ n3_ n4_ n5_ n6_ n7_ n8_; (try clear hb); (try clear hb2); (try clear hk); (try clear hi); obtain ⟨Ao42, co42, eo42⟩ := Kd.R_slice HO265.out; subst eo42; obtain ⟨Ao43, co43, eo43⟩ := Kd.R_slice HO269.out; subst eo43) | (go_at_call 17; (with_reducible refine (thalwegref03_Ints.calls kj5 _ _ t262 _ _ t266 true _ ?side1 ?side2 ?side3 ?side4 A22.out).mono ?_); (case side1 => repeat (first | exact (Kd.R_reads' HO265.out).2.2 | (with_reducible refine Kd.C_alloc ?_ _) | (with_reducible refine Kd.C_drewN ?_ _) | (with_reducible refine Kd.C_drew ?_))); (case side2 => exact (Kd.R_reads' HO265.out).2.1); (case side3 => repeat (first | exact (Kd.R_reads' HO269.out).2.2 | (with_reducible refine Kd.C_alloc ?_ _) | (with_reducible refine Kd.C_drewN ?_ _) | (with_reducible refine Kd.C_drew ?_))); (case side4 => exact (Kd.R_reads' HO269.out).2.1); rintro e w' ⟨rfl, ⟨nd, rfl⟩⟩; obtain ⟨Ao44, co44, eo44⟩ := Kd.R_slice HO273.out; subst eo44; obtain ⟨Ao45, co45, eo45⟩ := Kd.R_slice HO277.out; subst eo45) | (go_at_call 17; (with_reducible refine (thalwegref03_Ints.calls kj5 _ _ t270 _ _ t274 true _ ?side1 ?side2 ?side3 ?side4 A25.out).mono ?_); (case side1 => repeat (first | exact (Kd.R_reads' HO273.out).2.2 | (with_reducible refine Kd.C_alloc ?_ _) | (with_reducible refine Kd.C_drewN ?_ _) | (with_reducible refine Kd.C_drew ?_))); (case side2 => exact (Kd.R_reads' HO273.out).2.1); (case side3 => repeat (first | exact (Kd.R_reads' HO277.out).2.2 | (with_reducible refine Kd.C_alloc ?_ _) | (with_reducible refine Kd.C_drewN ?_ _) | (with_reducible refine Kd.C_drew ?_))); (case side4 => exact (Kd.R_reads' HO277.out).2.1); rintro e w' ⟨rfl, ⟨nd, rfl⟩⟩; obtain ⟨Ao46, co46, eo46⟩ := Kd.R_slice HO281.out; subst eo46; obtain ⟨Ao47, co47, eo47⟩ := Kd.R_slice HO285.out; subst eo47) | (go_at_call 17; (with_reducible refine (thalwegref03_Ints.calls kj5 _ _ t278 _ _ t282 true _ ?side1 ?side2 ?side3 ?side4 A28.out).mono ?_); (case side1 => repeat (first | exact (Kd.R_reads' HO281.out).2.2 | (with_reducible refine Kd.C_alloc ?_ _) | (with_reducible refine Kd.C_drewN ?_ _) | (with_reducible refine Kd.C_drew ?_))); (case side2 => exact (Kd.R_reads' HO281.out).2.1); (case side3 => repeat (first | exact (Kd.R_reads' HO285.out).2.2 | (with_reducible refine Kd.C_alloc ?_ _) | (with_reducible refine Kd.C_drewN ?_ _) | (with_reducible refine Kd.C_drew ?_))); (case side4 => exact (Kd.R_reads' HO285.out).2.1); rintro e w' ⟨rfl, ⟨nd, rfl⟩⟩; obtain ⟨Ao48, co48, eo48⟩ := Kd.R_slice HO289.out; subst eo48; obtain ⟨Ao49, co49, eo49⟩ := Kd.R_slice HO293.out; subst eo49) | (go_at_call 17; (with_reducible refine (thalwegref03_Ints.calls kj5 _ _ t286 _ _ t290 true _ ?side1 ?side2 ?side3 ?side4 A31.out).mono ?_); (case side1 => repeat (first | exact (Kd.R_reads' HO289.out).2.2 | (with_reducible refine Kd.C_alloc ?_ _) | (with_reducible refine Kd.C_drewN ?_ _) | (with_reducible refine Kd.C_drew ?_))); (case side2 => exact (Kd.R_reads' HO289.out).2.1); (case side3 => repeat (first | exact (Kd.R_reads' HO293.out).2.2 | (with_reducible refine Kd.C_alloc ?_ _) | (with_reducible refine Kd.C_drewN ?_ _) | (with_reducible refine Kd.C_drew ?_))); (case side4 => exact (Kd.R_reads' HO293.out).2.1); rintro e w' ⟨rfl, ⟨nd, rfl⟩⟩))
                go_ret
                exact ⟨by first | rfl | (simp [errW_none, errW_some] <;> rfl) | (simp [*, errW_none, errW_some] <;> rfl), by repeat (first | (with_reducible first | exact HB.out | apply YA | apply YB | apply YC) | exact HB.out)⟩
              replace c32 := Bool.eq_false_iff.mpr c32
              subst c32
              have H1 : (none) = some r := by rw [if_neg (show ¬ (false = true) by decide)] at H; exact H
              clear H
              have H := H1
              clear H1
              exact absurd H (by simp)
            replace c29 := Bool.eq_false_iff.mpr c29
            subst c29
            have H1 : (none) = some r := by rw [if_neg (show ¬ (false = true) by decide)] at H; exact H
            clear H
            have H := H1
            clear H1
            exact absurd H (by simp)
          replace c26 := Bool.eq_false_iff.mpr c26
          subst c26
          have H1 : (none) = some r := by rw [if_neg (show ¬ (false = true) by decide)] at H; exact H
          clear H
          have H := H1
          clear H1
          exact absurd H (by simp)
        replace c23 := Bool.eq_false_iff.mpr c23
        subst c23
        have H1 : (none) = some r := by rw [if_neg (show ¬ (false = true) by decide)] at H; exact H
        clear H
        have H := H1
        clear H1
        exact absurd H (by simp)
      replace c21 := Bool.eq_false_iff.mpr c21
      subst c21
      have H1 : (none) = some r := by rw [if_neg (show ¬ (false = true) by decide)] at H; exact H
      clear H
      have H := H1
      clear H1
      exact absurd H (by simp)

end Go.Proofs.Ytbejdbgcfgllhaa.P
