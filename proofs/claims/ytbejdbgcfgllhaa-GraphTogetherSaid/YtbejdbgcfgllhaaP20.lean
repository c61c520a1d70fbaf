-- WRITTEN BY xprint.py, a program of this session that drives the kit's printer.
import Derived.Test.YtbejdbgcfgllhaaP0
import Derived.Test.YtbejdbgcfgllhaaP8
import Derived.Test.YtbejdbgcfgllhaaP10
import Derived.Test.YtbejdbgcfgllhaaP15
namespace Go.Proofs.Ytbejdbgcfgllhaa.P
open Go.RowKit Go.Proofs.YtbejdbgcfgllhaaW.PrintWords Go.Proofs.YtbejdbgcfgllhaaW.PrintLast Go.Proofs.YtbejdbgcfgllhaaW.PrintMore
open Go.Proofs.YtbejdbgcfgllhaaW.PrintWords renaming below_alloc → YA, pw_below_drewN → YB, below_drew1 → YC, below_step → YD, below_size → YE
open Go.Proofs.YtbejdbgcfgllhaaW.PrintWords.Aside0 renaming mk → YF
open Go.Proofs.YtbejdbgcfgllhaaW.PrintWords.Kd renaming R_alloc → YG, R_drewN → YH, R_drew → YI
attribute [local go_sem] max2_int min2_int max_two min_two max_three min_three max_four min_four   -- for this text's walks alone
set_option linter.unusedVariables false
set_option linter.unusedSimpArgs false

/-! ### thalweglaw25_GraphTogether: function 5 -/
mutual
def thalweglaw25_GraphTogether.j0 : Nat → Int → List (S36) → Bool → Option (Bool)
  | 0, _, _, _ => none
  | k + 1, x0, x1, x22 => if x22 = true then (some true) else ((graph_Parts.f k x0 x1).bind fun bt299 => (if bt299.2 = 0 then (thalweglaw25_GraphTogether.l0 k x0 x1 bt299.1 ([] : List (List Int)) 0) else ((thalweglaw25_awake.f k).bind fun t303 => (if t303 = true then (if x0 < 0 then (some ((bt299.1.length : Int) == 0)) else (none)) else (none)))))
def thalweglaw25_GraphTogether.l0 : Nat → Int → List (S36) → List Int → List (List Int) → Int → Option (Bool)
  | 0, _, _, _, _, _ => none
  | k + 1, x0, x1, x5, x7, x8 => if x8 < x0 then ((graph_Steps.f k x0 x1 x8).bind fun bt304 => (if bt304.2 = 0 then (if (bt304.1.length : Int) = x0 then (if 0 ≤ x8 then (if x8 < (bt304.1.length : Int) then (if (rd bt304.1 x8) = 0 then (if x7.length < 5864062014805 then (thalweglaw25_GraphTogether.l0 k x0 x1 x5 (x7 ++ [bt304.1]) (wrap64 (x8 + 1))) else (none)) else (none)) else (none)) else (none)) else (none)) else (none))) else (if (x5.length : Int) = x0 then (thalweglaw25_GraphTogether.l1 k x0 x1 x5 x7 0) else (none))
def thalweglaw25_GraphTogether.l1 : Nat → Int → List (S36) → List Int → List (List Int) → Int → Option (Bool)
  | 0, _, _, _, _, _ => none
  | k + 1, x0, x1, x5, x7, x11 => if x11 < x0 then (thalweglaw25_GraphTogether.l2 k x0 x1 x5 x7 x11 0) else (thalweglaw25_GraphTogether.l3 k x0 x1 x7 0)
def thalweglaw25_GraphTogether.l2 : Nat → Int → List (S36) → List Int → List (List Int) → Int → Int → Option (Bool)
  | 0, _, _, _, _, _, _ => none
  | k + 1, x0, x1, x5, x7, x11, x12 => if x12 < x0 then (if 0 ≤ x11 then (if x11 < (x7.length : Int) then (if 0 ≤ x12 then (if x12 < ((rd_L3 x7 x11).length : Int) then (if x12 < (x7.length : Int) then (if x11 < ((rd_L3 x7 x12).length : Int) then (if (rd (rd_L3 x7 x11) x12) = (rd (rd_L3 x7 x12) x11) then (if x11 < (x5.length : Int) then (if x12 < (x5.length : Int) then (if ((decide ((rd (rd_L3 x7 x11) x12) ≥ 0)) != ((rd x5 x11) == (rd x5 x12))) = true then (none) else (if (rd (rd_L3 x7 x11) x12) ≥ x0 then (none) else (if (rd x5 x11) > x11 then (none) else (thalweglaw25_GraphTogether.l2 k x0 x1 x5 x7 x11 (wrap64 (x12 + 1)))))) else (none)) else (none)) else (none)) else (none)) else (none)) else (none)) else (none)) else (none)) else (none)) else (thalweglaw25_GraphTogether.l1 k x0 x1 x5 x7 (wrap64 (x11 + 1)))
def thalweglaw25_GraphTogether.l3 : Nat → Int → List (S36) → List (List Int) → Int → Option (Bool)
  | 0, _, _, _, _ => none
  | k + 1, x0, x1, x7, x13 => if x13 < (x1.length : Int) then (if 0 ≤ x13 then (if ((rd_T36 x1 x13).f0) ≥ 0 then (if ((rd_T36 x1 x13).f0) < x0 then (if ((rd_T36 x1 x13).f1) ≥ 0 then (if ((rd_T36 x1 x13).f1) < x0 then (if 0 ≤ ((rd_T36 x1 x13).f0) then (if ((rd_T36 x1 x13).f0) < (x7.length : Int) then (if 0 ≤ ((rd_T36 x1 x13).f1) then (if ((rd_T36 x1 x13).f1) < ((rd_L3 x7 ((rd_T36 x1 x13).f0)).length : Int) then (if (rd (rd_L3 x7 ((rd_T36 x1 x13).f0)) ((rd_T36 x1 x13).f1)) < 0 then (none) else (if (rd (rd_L3 x7 ((rd_T36 x1 x13).f0)) ((rd_T36 x1 x13).f1)) > 1 then (none) else (thalweglaw25_GraphTogether.l3 k x0 x1 x7 (wrap64 (x13 + 1))))) else (none)) else (none)) else (none)) else (none)) else (thalweglaw25_GraphTogether.l3 k x0 x1 x7 (wrap64 (x13 + 1)))) else (thalweglaw25_GraphTogether.l3 k x0 x1 x7 (wrap64 (x13 + 1)))) else (thalweglaw25_GraphTogether.l3 k x0 x1 x7 (wrap64 (x13 + 1)))) else (thalweglaw25_GraphTogether.l3 k x0 x1 x7 (wrap64 (x13 + 1)))) else (none)) else ((thalweglaw25_awake.f k).bind fun t329 => (some t329))
end
def thalweglaw25_GraphTogether.f (k : Nat) (a0 : Int) (l1 : List (S36)) : Option (Bool) := if a0 > 12 then (thalweglaw25_GraphTogether.j0 k a0 l1 true) else (thalweglaw25_GraphTogether.j0 k a0 l1 (decide ((l1.length : Int) > 40)))
theorem thalweglaw25_GraphTogether.mono_l : ∀ k, (∀ y0 y1 y2, LeO (thalweglaw25_GraphTogether.j0 k y0 y1 y2) (thalweglaw25_GraphTogether.j0 (k + 1) y0 y1 y2)) ∧ (∀ y0 y1 y2 y3 y4, LeO (thalweglaw25_GraphTogether.l0 k y0 y1 y2 y3 y4) (thalweglaw25_GraphTogether.l0 (k + 1) y0 y1 y2 y3 y4)) ∧ (∀ y0 y1 y2 y3 y4, LeO (thalweglaw25_GraphTogether.l1 k y0 y1 y2 y3 y4) (thalweglaw25_GraphTogether.l1 (k + 1) y0 y1 y2 y3 y4)) ∧ (∀ y0 y1 y2 y3 y4 y5, LeO (thalweglaw25_GraphTogether.l2 k y0 y1 y2 y3 y4 y5) (thalweglaw25_GraphTogether.l2 (k + 1) y0 y1 y2 y3 y4 y5)) ∧ (∀ y0 y1 y2 y3, LeO (thalweglaw25_GraphTogether.l3 k y0 y1 y2 y3) (thalweglaw25_GraphTogether.l3 (k + 1) y0 y1 y2 y3))
  | 0 => ⟨fun _ _ _ r h => by simp [thalweglaw25_GraphTogether.j0] at h, fun _ _ _ _ _ r h => by simp [thalweglaw25_GraphTogether.l0] at h, fun _ _ _ _ _ r h => by simp [thalweglaw25_GraphTogether.l1] at h, fun _ _ _ _ _ _ r h => by simp [thalweglaw25_GraphTogether.l2] at h, fun _ _ _ _ r h => by simp [thalweglaw25_GraphTogether.l3] at h⟩
  | k + 1 => by
    obtain ⟨ih0, ih1, ih2, ih3, ih4⟩ := thalweglaw25_GraphTogether.mono_l k
    refine ⟨?_, ?_, ?_, ?_, ?_⟩
    · intro y0 y1 y2
      unfold thalweglaw25_GraphTogether.j0
      repeat' first
      | (with_reducible exact ih0 _ _ _)
      | (with_reducible exact ih1 _ _ _ _ _)
      | (with_reducible exact ih2 _ _ _ _ _)
      | (with_reducible exact ih3 _ _ _ _ _ _)
      | (with_reducible exact ih4 _ _ _ _)
      | (with_reducible exact graph_Parts.mono _ _ _)
      | (with_reducible exact graph_Steps.mono _ _ _ _)
      | (with_reducible exact thalweglaw25_awake.mono _)
      | (with_reducible exact LeO.refl _)
      | (with_reducible exact LeO.none _)
      | (with_reducible refine LeO.ite ?_ ?_)
      | (with_reducible refine LeO.bind ?_ (fun _ => ?_))
      | exact ih0 _ _ _
      | exact ih1 _ _ _ _ _
      | exact ih2 _ _ _ _ _
      | exact ih3 _ _ _ _ _ _
      | exact ih4 _ _ _ _
      | exact graph_Parts.mono _ _ _
      | exact graph_Steps.mono _ _ _ _
      | exact thalweglaw25_awake.mono _
      | exact LeO.none _
      | refine LeO.ite ?_ ?_
      | refine LeO.bind ?_ (fun _ => ?_)
    · intro y0 y1 y2 y3 y4
      unfold thalweglaw25_GraphTogether.l0
      repeat' first
      | (with_reducible exact ih0 _ _ _)
      | (with_reducible exact ih1 _ _ _ _ _)
      | (with_reducible exact ih2 _ _ _ _ _)
      | (with_reducible exact ih3 _ _ _ _ _ _)
      | (with_reducible exact ih4 _ _ _ _)
      | (with_reducible exact graph_Parts.mono _ _ _)
      | (with_reducible exact graph_Steps.mono _ _ _ _)
      | (with_reducible exact thalweglaw25_awake.mono _)
      | (with_reducible exact LeO.refl _)
      | (with_reducible exact LeO.none _)
      | (with_reducible refine LeO.ite ?_ ?_)
      | (with_reducible refine LeO.bind ?_ (fun _ => ?_))
      | exact ih0 _ _ _
      | exact ih1 _ _ _ _ _
      | exact ih2 _ _ _ _ _
      | exact ih3 _ _ _ _ _ _
      | exact ih4 _ _ _ _
      | exact graph_Parts.mono _ _ _
      | exact graph_Steps.mono _ _ _ _
      | exact thalweglaw25_awake.mono _
      | exact LeO.none _
      | refine LeO.ite ?_ ?_
      | refine LeO.bind ?_ (fun _ => ?_)
    · intro y0 y1 y2 y3 y4
      unfold thalweglaw25_GraphTogether.l1
      repeat' first
      | (with_reducible exact ih0 _ _ _)
      | (with_reducible exact ih1 _ _ _ _ _)
      | (with_reducible exact ih2 _ _ _ _ _)
      | (with_reducible exact ih3 _ _ _ _ _ _)
      | (with_reducible exact ih4 _ _ _ _)
      | (with_reducible exact graph_Parts.mono _ _ _)
      | (with_reducible exact graph_Steps.mono _ _ _ _)
      | (with_reducible exact thalweglaw25_awake.mono _)
      | (with_reducible exact LeO.refl _)
      | (with_reducible exact LeO.none _)
      | (with_reducible refine LeO.ite ?_ ?_)
      | (with_reducible refine LeO.bind ?_ (fun _ => ?_))
      | exact ih0 _ _ _
      | exact ih1 _ _ _ _ _
      | exact ih2 _ _ _ _ _
      | exact ih3 _ _ _ _ _ _
      | exact ih4 _ _ _ _
      | exact graph_Parts.mono _ _ _
      | exact graph_Steps.mono _ _ _ _
      | exact thalweglaw25_awake.mono _
      | exact LeO.none _
      | refine LeO.ite ?_ ?_
      | refine LeO.bind ?_ (fun _ => ?_)
    · intro y0 y1 y2 y3 y4 y5
      unfold thalweglaw25_GraphTogether.l2
      repeat' first
      | (with_reducible exact ih0 _ _ _)
      | (with_reducible exact ih1 _ _ _ _ _)
      | (with_reducible exact ih2 _ _ _ _ _)
      | (with_reducible exact ih3 _ _ _ _ _ _)
      | (with_reducible exact ih4 _ _ _ _)
      | (with_reducible exact graph_Parts.mono _ _ _)
      | (with_reducible exact graph_Steps.mono _ _ _ _)
      | (with_reducible exact thalweglaw25_awake.mono _)
      | (with_reducible exact LeO.refl _)
      | (with_reducible exact LeO.none _)
      | (with_reducible refine LeO.ite ?_ ?_)
      | (with_reducible refine LeO.bind ?_ (fun _ => ?_))
      | exact ih0 _ _ _
      | exact ih1 _ _ _ _ _
      | exact ih2 _ _ _ _ _
      | exact ih3 _ _ _ _ _ _
      | exact ih4 _ _ _ _
      | exact graph_Parts.mono _ _ _
      | exact graph_Steps.mono _ _ _ _
      | exact thalweglaw25_awake.mono _
      | exact LeO.none _
      | refine LeO.ite ?_ ?_
      | refine LeO.bind ?_ (fun _ => ?_)
    intro y0 y1 y2 y3
    unfold thalweglaw25_GraphTogether.l3
    repeat' first
    | (with_reducible exact ih0 _ _ _)
    | (with_reducible exact ih1 _ _ _ _ _)
    | (with_reducible exact ih2 _ _ _ _ _)
    | (with_reducible exact ih3 _ _ _ _ _ _)
    | (with_reducible exact ih4 _ _ _ _)
    | (with_reducible exact graph_Parts.mono _ _ _)
    | (with_reducible exact graph_Steps.mono _ _ _ _)
    | (with_reducible exact thalweglaw25_awake.mono _)
    | (with_reducible exact LeO.refl _)
    | (with_reducible exact LeO.none _)
    | (with_reducible refine LeO.ite ?_ ?_)
    | (with_reducible refine LeO.bind ?_ (fun _ => ?_))
    | exact ih0 _ _ _
    | exact ih1 _ _ _ _ _
    | exact ih2 _ _ _ _ _
    | exact ih3 _ _ _ _ _ _
    | exact ih4 _ _ _ _
    | exact graph_Parts.mono _ _ _
    | exact graph_Steps.mono _ _ _ _
    | exact thalweglaw25_awake.mono _
    | exact LeO.none _
    | refine LeO.ite ?_ ?_
    | refine LeO.bind ?_ (fun _ => ?_)
theorem thalweglaw25_GraphTogether.mono : ∀ a0 a1 k, LeO (thalweglaw25_GraphTogether.f k a0 a1) (thalweglaw25_GraphTogether.f (k + 1) a0 a1) := by
  intro a0 a1 k
  obtain ⟨ih0, ih1, ih2, ih3, ih4⟩ := thalweglaw25_GraphTogether.mono_l k
  unfold thalweglaw25_GraphTogether.f
  repeat' first
      | (with_reducible exact ih0 _ _ _)
      | (with_reducible exact ih1 _ _ _ _ _)
      | (with_reducible exact ih2 _ _ _ _ _)
      | (with_reducible exact ih3 _ _ _ _ _ _)
      | (with_reducible exact ih4 _ _ _ _)
      | (with_reducible exact graph_Parts.mono _ _ _)
      | (with_reducible exact graph_Steps.mono _ _ _ _)
      | (with_reducible exact thalweglaw25_awake.mono _)
      | (with_reducible exact LeO.refl _)
      | (with_reducible exact LeO.none _)
      | (with_reducible refine LeO.ite ?_ ?_)
      | (with_reducible refine LeO.bind ?_ (fun _ => ?_))
      | exact ih0 _ _ _
      | exact ih1 _ _ _ _ _
      | exact ih2 _ _ _ _ _
      | exact ih3 _ _ _ _ _ _
      | exact ih4 _ _ _ _
      | exact graph_Parts.mono _ _ _
      | exact graph_Steps.mono _ _ _ _
      | exact thalweglaw25_awake.mono _
      | exact LeO.none _
      | refine LeO.ite ?_ ?_
      | refine LeO.bind ?_ (fun _ => ?_)
set_option maxHeartbeats 8000000 in
set_option maxRecDepth 100000 in
theorem thalweglaw25_GraphTogether.calls (k : Nat) (a0 : Int) (A1 : Option Addr) (c1 : Nat) (l1 : List (S36)) (r : Bool) (w : World) (hr1 : Kd.C k36 w A1 l1.length l1) (hc1 : l1.length ≤ c1) (h : thalweglaw25_GraphTogether.f k a0 l1 = some r) :
    Calls Try.prog 5 #[.int .i64 a0, .slice A1 l1.length c1] w fun e w' => e = .returned (.bool r) ∧ Below w.heap.size w w' := by
  have HR1 := YF hr1; have HC1 := YF hc1; clear hr1 hc1
  have HB := YF (Below.refl w.heap.size w)
  have H : (if a0 > 12 then (thalweglaw25_GraphTogether.j0 k a0 l1 true) else (thalweglaw25_GraphTogether.j0 k a0 l1 (decide ((l1.length : Int) > 40)))) = some r := h
  clear h; have HC3 := YF H; clear H
  go_enter Try.func5, Try.ntmps5
  go_upto_region 1 with (fail)
  repeat (go_quiet (fail); go_upto_region 1 with (fail))
  go_cut [22] (fun v22 wc => ∃ (kq : Nat) (x22_2 : Bool), v22 = .bool x22_2 ∧ Aside0 (thalweglaw25_GraphTogether.j0 kq a0 l1 x22_2 = some r) ∧ Aside0 (kq ≤ k) ∧ Aside0 (Below w.heap.size w wc))
  case first =>
    have H := HC3.out
    clear HC3
    by_cases c4 : a0 > 12
    · rw [if_pos c4] at H
      have c4b0 : decide (12 < a0) = true := decide_eq_true c4; clear c4
      (first | rw [c4b0] | (simp only [i64_w, i32_w]; rw [c4b0]) | rw [c4b1] | skip)
      have H' := YF H
      clear H
      go_wp2
      repeat (go_quiet (fail); try go_wp2)
      go_meet
      case rel => exact ⟨_, (true), (by first | rfl | (simp; done) | (simp [*]; done)), H', ⟨by first | omega | exact Nat.le_refl _⟩, ⟨by repeat (first | (with_reducible first | exact HB.out | apply YA | apply YB | apply YC) | exact HB.out)⟩⟩
    rw [if_neg c4] at H; have c4b0 : decide (12 < a0) = false := decide_eq_false c4; clear c4
    (first | rw [c4b0] | (simp only [i64_w, i32_w]; rw [c4b0]) | rw [c4b1] | skip)
    have H' := YF H
    clear H
    go_wp2
    repeat (go_quiet (fail); try go_wp2)
    go_meet
    case rel => exact ⟨_, (decide ((l1.length : Int) > 40)), (by first | rfl | (simp; done) | (simp [*]; done)), H', ⟨by first | omega | exact Nat.le_refl _⟩, ⟨by repeat (first | (with_reducible first | exact HB.out | apply YA | apply YB | apply YC) | exact HB.out)⟩⟩
  case rest =>
    clear HC3
    try clear c1
    try clear p2
    try clear c4
    try clear c4b0
    obtain ⟨kq, x22_2, rfl, HA, HJ2, HB⟩ := hcut
    cases kq with
    | zero => exact absurd HA.out (by simp [thalweglaw25_GraphTogether.j0])
    | succ kj2 =>
      have H := HA.out
      clear HA
      simp only [thalweglaw25_GraphTogether.j0] at H
      by_cases c5 : x22_2 = true
      · subst c5
        have H1 : (some true) = some r := by rw [if_pos rfl] at H; exact H
        clear H
        have H := H1
        clear H1
        obtain rfl := Option.some.inj H
        go_wp2
        repeat (go_quiet (fail); try go_wp2)
        go_ret
        exact ⟨by first | rfl | (simp [errW_none, errW_some] <;> rfl) | (simp [*, errW_none, errW_some] <;> rfl), by repeat (first | (with_reducible first | exact HB.out | apply YA | apply YB | apply YC) | exact HB.out)⟩
      replace c5 := Bool.eq_false_iff.mpr c5
      subst c5
      have H1 : ((graph_Parts.f kj2 a0 l1).bind fun bt299 => (if bt299.2 = 0 then (thalweglaw25_GraphTogether.l0 kj2 a0 l1 bt299.1 ([] : List (List Int)) 0) else ((thalweglaw25_awake.f kj2).bind fun t303 => (if t303 = true then (if a0 < 0 then (some ((bt299.1.length : Int) == 0)) else (none)) else (none))))) = some r := by rw [if_neg (show ¬ (false = true) by decide)] at H; exact H
      clear H
      have H := H1
      clear H1; replace H := Option.bind_eq_some_iff.mp H
      obtain ⟨⟨t299, t300⟩, A60, H⟩ := H
      replace H : (if t300 = 0 then (thalweglaw25_GraphTogether.l0 kj2 a0 l1 t299 ([] : List (List Int)) 0) else ((thalweglaw25_awake.f kj2).bind fun t303 => (if t303 = true then (if a0 < 0 then (some ((t299.length : Int) == 0)) else (none)) else (none)))) = some r := H
      have A6 := YF A60; clear A60
      by_cases c7 : t300 = 0
      · rw [if_pos c7] at H
        have c7b0 : (t300 == 0) = true := beq_iff_eq.mpr c7
        have c7b1 : (t300 != 0) = false := bne_eq_false_iff_eq.mpr c7
        clear c7
        have H' := YF H
        clear H
        go_wp2_with (first | (go_at_call 11; (with_reducible refine (graph_Parts.calls kj2 a0 _ _ l1 t299 t300 _ ?side1 ?side2 A6.out).mono ?_); (case side1 => repeat (first | exact (Kd.C_below HR1.out HB.out) | (with_reducible refine Kd.C_alloc ?_ _) | (with_reducible refine Kd.C_drewN ?_ _) | (with_reducible refine Kd.C_drew ?_))); (case side2 => exact HC1.out); rintro e w8 ⟨v301, rfl, ho0, hb⟩; have n0_ := YF (Kd.R_lower ho0 (YE (by repeat (first | (with_reducible first | exact HB.out | apply YA | apply YB | apply YC) | exact HB.out)))); have n1_ := YF (YD (by repeat (first | (with_reducible first | exact HB.out | apply YA | apply YB | apply YC) | exact HB.out)) hb); clear HB; have HO302 := n0_; have HB := n1_; clear n0_ n1_; (try clear hb); (try clear hb2); (try clear hk); (try clear hi); (try clear ho0)))
        repeat (go_quiet (first | (go_at_call 11; (with_reducible refine (graph_Parts.calls kj2 a0 _ _ l1 t299 t300 _ ?side1 ?side2 A6.out).mono ?_); (case side1 => repeat (first | exact (Kd.C_below HR1.out HB.out) | (with_reducible refine Kd.C_alloc ?_ _) | (with_reducible refine Kd.C_drewN ?_ _) | (with_reducible refine Kd.C_drew ?_))); (case side2 => exact HC1.out); rintro e w8 ⟨v301, rfl, ho0, hb⟩; have n0_ := YF (Kd.R_lower ho0 (YE (by repeat (first | (with_reducible first | exact HB.out | apply YA | apply YB | apply YC) | exact HB.out)))); have n1_ := YF (YD (by repeat (first | (with_reducible first | exact HB.out | apply YA | apply YB | apply YC) | exact HB.out)) hb); clear HB; have HO302 := n0_; have HB := n1_; clear n0_ n1_; (try clear hb); (try clear hb2); (try clear hk); (try clear hi); (try clear ho0))); try go_wp2_with (first | (go_at_call 11; (with_reducible refine (graph_Parts.calls kj2 a0 _ _ l1 t299 t300 _ ?side1 ?side2 A6.out).mono ?_); (case side1 => repeat (first | exact (Kd.C_below HR1.out HB.out) | (with_reducible refine Kd.C_alloc ?_ _) | (with_reducible refine Kd.C_drewN ?_ _) | (with_reducible refine Kd.C_drew ?_))); (case side2 => exact HC1.out); rintro e w8 ⟨v301, rfl, ho0, hb⟩; have n0_ := YF (Kd.R_lower ho0 (YE (by repeat (first | (with_reducible first | exact HB.out | apply YA | apply YB | apply YC) | exact HB.out)))); have n1_ := YF (YD (by repeat (first | (with_reducible first | exact HB.out | apply YA | apply YB | apply YC) | exact HB.out)) hb); clear HB; have HO302 := n0_; have HB := n1_; clear n0_ n1_; (try clear hb); (try clear hb2); (try clear hk); (try clear hi); (try clear ho0))))
        go_loopg [7, 8] kj2 (fun kq v7 v8 w' => ∃ (x7_2 : List (List Int)) (x8_2 : Int), v8 = .int .i64 x8_2 ∧ Aside0 (thalweglaw25_GraphTogether.l0 kq a0 l1 t299 x7_2 x8_2 = some r) ∧ Aside0 (kq ≤ kj2) ∧ Aside0 (Kd.R (Kd.int .i64) 3 w' w.heap.size (fun _ => True) v301 t299) ∧ Aside0 (Kd.S (Kd.slice 3 (Kd.int .i64)) 22 w' w.heap.size (fun k_ => some k_ ≠ (v301 : Value).ownBlock) v7 x7_2) ∧ Aside0 (Below w.heap.size w w'))
        case atStart => exact ⟨(([] : List (List Int))), (0), (by first | rfl | (simp; done) | (simp [*]; done)), H', ⟨Nat.le_refl _⟩, ⟨by (with_reducible repeat (first | apply YG | apply YH | apply YI)); exact HO302.out⟩, ⟨by first | exact Kd.S_nil _ _ _ _ _ | exact Kd.N_nil _ _ _ _ _ | exact Kd.V_nil _ _ _ _ _ | exact Kd.Q_nil _ _ _ _ _ | exact Kd.R_nil _ _ _ _ _⟩, ⟨by repeat (first | (with_reducible first | exact HB.out | apply YA | apply YB | apply YC) | exact HB.out)⟩⟩
        case round =>
          clear H'
          try clear c1
          try clear p2
          try clear c4
          try clear c4b0
          try clear c5
          try clear c7
          try clear c7b0
          try clear c7b1
          try clear p2
          obtain ⟨x7_2, x8_2, rfl, HA, HK2, HO_5, HO_7, HB⟩ := hrel
          cases gk with
          | zero => exact absurd HA.out (by simp [thalweglaw25_GraphTogether.l0])
          | succ k2 =>
            have H := HA.out
            clear HA
            simp only [thalweglaw25_GraphTogether.l0] at H
            by_cases c9 : x8_2 < a0
            · rw [if_pos c9] at H
              have c9b0 : decide (x8_2 < a0) = true := decide_eq_true c9; clear c9; replace H := Option.bind_eq_some_iff.mp H
              obtain ⟨⟨t304, t305⟩, A100, H⟩ := H
              replace H : (if t305 = 0 then (if (t304.length : Int) = a0 then (if 0 ≤ x8_2 then (if x8_2 < (t304.length : Int) then (if (rd t304 x8_2) = 0 then (if x7_2.length < 5864062014805 then (thalweglaw25_GraphTogether.l0 k2 a0 l1 t299 (x7_2 ++ [t304]) (wrap64 (x8_2 + 1))) else (none)) else (none)) else (none)) else (none)) else (none)) else (none)) = some r := H
              have A10 := YF A100; clear A100
              by_cases c11 : t305 = 0
              rotate_left
              · rw [if_neg c11] at H
                exact absurd H (by simp)
              rw [if_pos c11] at H
              have c11b0 : (t305 == 0) = true := beq_iff_eq.mpr c11
              have c11b1 : (t305 != 0) = false := bne_eq_false_iff_eq.mpr c11
              clear c11
              by_cases c12 : (t304.length : Int) = a0
              rotate_left
              · rw [if_neg c12] at H
                exact absurd H (by simp)
              rw [if_pos c12] at H
              have c12b0 : ((t304.length : Int) == a0) = true := beq_iff_eq.mpr c12
              have c12b1 : ((t304.length : Int) != a0) = false := bne_eq_false_iff_eq.mpr c12
              clear c12
              by_cases c13 : 0 ≤ x8_2
              rotate_left
              · rw [if_neg c13] at H
                exact absurd H (by simp)
              rw [if_pos c13] at H; have c13b0 : decide (0 ≤ x8_2) = true := decide_eq_true c13; clear c13
              by_cases c14 : x8_2 < (t304.length : Int)
              rotate_left
              · rw [if_neg c14] at H
                exact absurd H (by simp)
              rw [if_pos c14] at H
              have c14b0 : decide (x8_2 < (t304.length : Int)) = true := decide_eq_true c14
              clear c14
              by_cases c15 : (rd t304 x8_2) = 0
              rotate_left
              · rw [if_neg c15] at H
                exact absurd H (by simp)
              rw [if_pos c15] at H
              have c15b0 : ((rd t304 x8_2) == 0) = true := beq_iff_eq.mpr c15
              have c15b1 : ((rd t304 x8_2) != 0) = false := bne_eq_false_iff_eq.mpr c15
              clear c15
              by_cases c16 : x7_2.length < 5864062014805
              rotate_left
              · rw [if_neg c16] at H
                exact absurd H (by simp)
              rw [if_pos c16] at H; have LMc16 := YF c16; clear c16
              obtain ⟨y309, hy309⟩ : ∃ y_ : List (List Int), y_ = (x7_2 ++ [t304]) := ⟨_, rfl⟩
              replace H : (thalweglaw25_GraphTogether.l0 k2 a0 l1 t299 y309 (wrap64 (x8_2 + 1))) = some r := by first | (rw [hy309]; with_reducible exact H) | (have H2_ := (Option.bind_some _ _).symm.trans H; rw [hy309]; with_reducible exact H2_) | (have H2_ := (Option.bind_some _ _).symm.trans H; with_reducible exact H2_) | with_reducible exact H | (rw [hy309]; exact H) | exact H
              have Ny309 := YF hy309; clear hy309
              have H' := YF H
              clear H
              go_wp2_with (first | (go_at_call 13; (with_reducible refine (graph_Steps.calls k2 a0 _ _ l1 x8_2 t304 t305 _ ?side1 ?side2 A10.out).mono ?_); (case side1 => repeat (first | exact (Kd.C_below HR1.out HB.out) | (with_reducible refine Kd.C_alloc ?_ _) | (with_reducible refine Kd.C_drewN ?_ _) | (with_reducible refine Kd.C_drew ?_))); (case side2 => exact HC1.out); rintro e w17 ⟨v306, rfl, ho0, hb⟩; have n0_ := YF (Kd.R_elder' (by (with_reducible repeat (first | apply YG | apply YH | apply YI)); exact HO_5.out) (Kd.R_base ho0) hb); have n1_ := YF (Kd.S_elder' (by (with_reducible repeat (first | apply Kd.S_alloc | apply Kd.S_drewN | apply Kd.S_drew)); exact HO_7.out) (Kd.R_base ho0) hb); have n2_ := YF (Kd.R_lower (Kd.R_new' ho0 (Kd.R_lt (by (with_reducible repeat (first | apply YG | apply YH | apply YI)); exact HO_5.out))) (YE (by repeat (first | (with_reducible first | exact HB.out | apply YA | apply YB | apply YC) | exact HB.out)))); have n3_ := YF (YD (by repeat (first | (with_reducible first | exact HB.out | apply YA | apply YB | apply YC) | exact HB.out)) hb); clear HO_5; clear HO_7; clear HB; have HO_5 := n0_; have HO_7 := n1_; have HO307 := n2_; have HB := n3_; clear n0_ n1_ n2_ n3_; (try clear hb); (try clear hb2); (try clear hk); (try clear hi); (try clear ho0); obtain ⟨Ao18, co18, eo18⟩ := Kd.R_slice HO307.out; subst eo18; have p308 : 0 ≤ (x8_2 : Int) := of_decide_eq_true (by first | (with_reducible assumption) | assumption); have q308 : x8_2 < (t304.length : Int) := of_decide_eq_true (by first | (with_reducible assumption) | assumption); obtain ⟨ad308, e308, hx308_0⟩ := Kd.at_int (Kd.R_reads' HO307.out).2.2 x8_2 p308 q308; cases e308; replace p308 := eq_true p308; replace q308 := eq_true q308) | ((with_reducible refine gate_builtin (b := .append) (xs := #[.tmp 68, .tmp 70]) rfl ?_); (try (refine gate_guard (by rfl) ?_; dsimp only)); at_builtin; refine Kd.S_append (Kd.slice 3 (Kd.int .i64)) (w0 := w) w.heap.size rfl (.tmp 68) (.tmp 70) 35 22 (.slice none 0 0) 24 rfl Try.underlying35 info22 rfl (by decide) (by omega) u7 x7_2 t304 [.slice (some ad308) t304.length co18] (fun k_ => some k_ ≠ (v301 : Value).ownBlock) (fun k_ => some k_ = (.slice (some ad308) t304.length co18 : Value).ownBlock) rfl rfl ?aP (fun k_ hk_ => ((Kd.R_mono (ok' := fun k_ => ((fun k_ => some k_ ≠ (v301 : Value).ownBlock)) k_ ∧ some k_ ≠ (u7 : Value).ownBlock) (Kd.R_apart' (HO307.out) (Kd.S_typed HO_7.out) (by decide)) (fun k_ hk => ⟨hk.1.2, hk.2⟩))).1 k_ hk_.symm) ?aF ?aO ?aB ?aS ?aL ?_; (case aP => exact Kd.M_row (Kd.R_mono (Kd.R_tight rfl (Kd.R_mono (ok' := fun k_ => ((fun k_ => some k_ ≠ (v301 : Value).ownBlock)) k_ ∧ some k_ ≠ (u7 : Value).ownBlock) (Kd.R_apart' (HO307.out) (Kd.S_typed HO_7.out) (by decide)) (fun k_ hk => ⟨hk.1.2, hk.2⟩))) (fun _ h_ => h_))); (case aB => exact (by repeat (first | (with_reducible first | exact HB.out | apply YA | apply YB | apply YC) | exact HB.out))); (case aF => exact (fun k_ hk => Kd.fresh' (Kd.R_lt (by (with_reducible repeat (first | apply YG | apply YH | apply YI)); exact HO_5.out)) k_ hk)); (case aO => exact (by (with_reducible repeat (first | apply Kd.S_alloc | apply Kd.S_drewN | apply Kd.S_drew)); exact Kd.S_mono HO_7.out (fun k_ hk => ⟨hk.1, fun e_ => hk.2 e_⟩))); (case aS => exact (YE (by repeat (first | (with_reducible first | exact HB.out | apply YA | apply YB | apply YC) | exact HB.out)))); (case aL => have := LMc16.out; omega); intro v310 w19 ho hb hg hat; rw [← Ny309.out] at ho; have n0_ := YF (Kd.R_over' (by (with_reducible repeat (first | apply YG | apply YH | apply YI)); exact HO_5.out) (Kd.S_typed (by (with_reducible repeat (first | apply Kd.S_alloc | apply Kd.S_drewN | apply Kd.S_drew)); exact HO_7.out)) (by decide) hg); have n1_ := YF (hb); have n2_ := YF (ho); clear HO_5; clear HB; clear HO_7; clear HO307; have HO_5 := n0_; have HB := n1_; have HO311 := n2_; clear n0_ n1_ n2_; clear ho hb hg hat))
              repeat (go_quiet (first | (go_at_call 13; (with_reducible refine (graph_Steps.calls k2 a0 _ _ l1 x8_2 t304 t305 _ ?side1 ?side2 A10.out).mono ?_); (case side1 => repeat (first | exact (Kd.C_below HR1.out HB.out) | (with_reducible refine Kd.C_alloc ?_ _) | (with_reducible refine Kd.C_drewN ?_ _) | (with_reducible refine Kd.C_drew ?_))); (case side2 => exact HC1.out); rintro e w17 ⟨v306, rfl, ho0, hb⟩; have n0_ := YF (Kd.R_elder' (by (with_reducible repeat (first | apply YG | apply YH | apply YI)); exact HO_5.out) (Kd.R_base ho0) hb); have n1_ := YF (Kd.S_elder' (by (with_reducible repeat (first | apply Kd.S_alloc | apply Kd.S_drewN | apply Kd.S_drew)); exact HO_7.out) (Kd.R_base ho0) hb); have n2_ := YF (Kd.R_lower (Kd.R_new' ho0 (Kd.R_lt (by (with_reducible repeat (first | apply YG | apply YH | apply YI)); exact HO_5.out))) (YE (by repeat (first | (with_reducible first | exact HB.out | apply YA | apply YB | apply YC) | exact HB.out)))); have n3_ := YF (YD (by repeat (first | (with_reducible first | exact HB.out | apply YA | apply YB | apply YC) | exact HB.out)) hb); clear HO_5; clear HO_7; clear HB; have HO_5 := n0_; have HO_7 := n1_; have HO307 := n2_; have HB := n3_; clear n0_ n1_ n2_ n3_; (try clear hb); (try clear hb2); (try clear hk); (try clear hi); (try clear ho0); obtain ⟨Ao18, co18, eo18⟩ := Kd.R_slice HO307.out; subst eo18; have p308 : 0 ≤ (x8_2 : Int) := of_decide_eq_true (by first | (with_reducible assumption) | assumption); have q308 : x8_2 < (t304.length : Int) := of_decide_eq_true (by first | (with_reducible assumption) | assumption); obtain ⟨ad308, e308, hx308_0⟩ := Kd.at_int (Kd.R_reads' HO307.out).2.2 x8_2 p308 q308; cases e308; replace p308 := eq_true p308; replace q308 := eq_true q308) | ((with_reducible refine gate_builtin (b := .append) (xs := #[.tmp 68, .tmp 70]) rfl ?_); (try (refine gate_guard (by rfl) ?_; dsimp only)); at_builtin; refine Kd.S_append (Kd.slice 3 (Kd.int .i64)) (w0 := w) w.heap.size rfl (.tmp 68) (.tmp 70) 35 22 (.slice none 0 0) 24 rfl Try.underlying35 info22 rfl (by decide) (by omega) u7 x7_2 t304 [.slice (some ad308) t304.length co18] (fun k_ => some k_ ≠ (v301 : Value).ownBlock) (fun k_ => some k_ = (.slice (some ad308) t304.length co18 : Value).ownBlock) rfl rfl ?aP (fun k_ hk_ => ((Kd.R_mono (ok' := fun k_ => ((fun k_ => some k_ ≠ (v301 : Value).ownBlock)) k_ ∧ some k_ ≠ (u7 : Value).ownBlock) (Kd.R_apart' (HO307.out) (Kd.S_typed HO_7.out) (by decide)) (fun k_ hk => ⟨hk.1.2, hk.2⟩))).1 k_ hk_.symm) ?aF ?aO ?aB ?aS ?aL ?_; (case aP => exact Kd.M_row (Kd.R_mono (Kd.R_tight rfl (Kd.R_mono (ok' := fun k_ => ((fun k_ => some k_ ≠ (v301 : Value).ownBlock)) k_ ∧ some k_ ≠ (u7 : Value).ownBlock) (Kd.R_apart' (HO307.out) (Kd.S_typed HO_7.out) (by decide)) (fun k_ hk => ⟨hk.1.2, hk.2⟩))) (fun _ h_ => h_))); (case aB => exact (by repeat (first | (with_reducible first | exact HB.out | apply YA | apply YB | apply YC) | exact HB.out))); (case aF => exact (fun k_ hk => Kd.fresh' (Kd.R_lt (by (with_reducible repeat (first | apply YG | apply YH | apply YI)); exact HO_5.out)) k_ hk)); (case aO => exact (by (with_reducible repeat (first | apply Kd.S_alloc | apply Kd.S_drewN | apply Kd.S_drew)); exact Kd.S_mono HO_7.out (fun k_ hk => ⟨hk.1, fun e_ => hk.2 e_⟩))); (case aS => exact (YE (by repeat (first | (with_reducible first | exact HB.out | apply YA | apply YB | apply YC) | exact HB.out)))); (case aL => have := LMc16.out; omega); intro v310 w19 ho hb hg hat; rw [← Ny309.out] at ho; have n0_ := YF (Kd.R_over' (by (with_reducible repeat (first | apply YG | apply YH | apply YI)); exact HO_5.out) (Kd.S_typed (by (with_reducible repeat (first | apply Kd.S_alloc | apply Kd.S_drewN | apply Kd.S_drew)); exact HO_7.out)) (by decide) hg); have n1_ := YF (hb); have n2_ := YF (ho); clear HO_5; clear HB; clear HO_7; clear HO307; have HO_5 := n0_; have HB := n1_; have HO311 := n2_; clear n0_ n1_ n2_; clear ho hb hg hat)); try go_wp2_with (first | (go_at_call 13; (with_reducible refine (graph_Steps.calls k2 a0 _ _ l1 x8_2 t304 t305 _ ?side1 ?side2 A10.out).mono ?_); (case side1 => repeat (first | exact (Kd.C_below HR1.out HB.out) | (with_reducible refine Kd.C_alloc ?_ _) | (with_reducible refine Kd.C_drewN ?_ _) | (with_reducible refine Kd.C_drew ?_))); (case side2 => exact HC1.out); rintro e w17 ⟨v306, rfl, ho0, hb⟩; have n0_ := YF (Kd.R_elder' (by (with_reducible repeat (first | apply YG | apply YH | apply YI)); exact HO_5.out) (Kd.R_base ho0) hb); have n1_ := YF (Kd.S_elder' (by (with_reducible repeat (first | apply Kd.S_alloc | apply Kd.S_drewN | apply Kd.S_drew)); exact HO_7.out) (Kd.R_base ho0) hb); have n2_ := YF (Kd.R_lower (Kd.R_new' ho0 (Kd.R_lt (by (with_reducible repeat (first | apply YG | apply YH | apply YI)); exact HO_5.out))) (YE (by repeat (first | (with_reducible first | exact HB.out | apply YA | apply YB | apply YC) | exact HB.out)))); have n3_ := YF (YD (by repeat (first | (with_reducible first | exact HB.out | apply YA | apply YB | apply YC) | exact HB.out)) hb); clear HO_5; clear HO_7; clear HB; have HO_5 := n0_; have HO_7 := n1_; have HO307 := n2_; have HB := n3_; clear n0_ n1_ n2_ n3_; (try clear hb); (try clear hb2); (try clear hk); (try clear hi); (try clear ho0); obtain ⟨Ao18, co18, eo18⟩ := Kd.R_slice HO307.out; subst eo18; have p308 : 0 ≤ (x8_2 : Int) := of_decide_eq_true (by first | (with_reducible assumption) | assumption); have q308 : x8_2 < (t304.length : Int) := of_decide_eq_true (by first | (with_reducible assumption) | assumption); obtain ⟨ad308, e308, hx308_0⟩ := Kd.at_int (Kd.R_reads' HO307.out).2.2 x8_2 p308 q308; cases e308; replace p308 := eq_true p308; replace q308 := eq_true q308) | ((with_reducible refine gate_builtin (b := .append) (xs := #[.tmp 68, .tmp 70]) rfl ?_); (try (refine gate_guard (by rfl) ?_; dsimp only)); at_builtin; refine Kd.S_append (Kd.slice 3 (Kd.int .i64)) (w0 := w) w.heap.size rfl (.tmp 68) (.tmp 70) 35 22 (.slice none 0 0) 24 rfl Try.underlying35 info22 rfl (by decide) (by omega) u7 x7_2 t304 [.slice (some ad308) t304.length co18] (fun k_ => some k_ ≠ (v301 : Value).ownBlock) (fun k_ => some k_ = (.slice (some ad308) t304.length co18 : Value).ownBlock) rfl rfl ?aP (fun k_ hk_ => ((Kd.R_mono (ok' := fun k_ => ((fun k_ => some k_ ≠ (v301 : Value).ownBlock)) k_ ∧ some k_ ≠ (u7 : Value).ownBlock) (Kd.R_apart' (HO307.out) (Kd.S_typed HO_7.out) (by decide)) (fun k_ hk => ⟨hk.1.2, hk.2⟩))).1 k_ hk_.symm) ?aF ?aO ?aB ?aS ?aL ?_; (case aP => exact Kd.M_row (Kd.R_mono (Kd.R_tight rfl (Kd.R_mono (ok' := fun k_ => ((fun k_ => some k_ ≠ (v301 : Value).ownBlock)) k_ ∧ some k_ ≠ (u7 : Value).ownBlock) (Kd.R_apart' (HO307.out) (Kd.S_typed HO_7.out) (by decide)) (fun k_ hk => ⟨hk.1.2, hk.2⟩))) (fun _ h_ => h_))); (case aB => exact (by repeat (first | (with_reducible first | exact HB.out | apply YA | apply YB | apply YC) | exact HB.out))); (case aF => exact (fun k_ hk => Kd.fresh' (Kd.R_lt (by (with_reducible repeat (first | apply YG | apply YH | apply YI)); exact HO_5.out)) k_ hk)); (case aO => exact (by (with_reducible repeat (first | apply Kd.S_alloc | apply Kd.S_drewN | apply Kd.S_drew)); exact Kd.S_mono HO_7.out (fun k_ hk => ⟨hk.1, fun e_ => hk.2 e_⟩))); (case aS => exact (YE (by repeat (first | (with_reducible first | exact HB.out | apply YA | apply YB | apply YC) | exact HB.out)))); (case aL => have := LMc16.out; omega); intro v310 w19 ho hb hg hat; rw [← Ny309.out] at ho; have n0_ := YF (Kd.R_over' (by (with_reducible repeat (first | apply YG | apply YH | apply YI)); exact HO_5.out) (Kd.S_typed (by (with_reducible repeat (first | apply Kd.S_alloc | apply Kd.S_drewN | apply Kd.S_drew)); exact HO_7.out)) (by decide) hg); have n1_ := YF (hb); have n2_ := YF (ho); clear HO_5; clear HB; clear HO_7; clear HO307; have HO_5 := n0_; have HB := n1_; have HO311 := n2_; clear n0_ n1_ n2_; clear ho hb hg hat)))
              go_roundg k2
              case measure => have := HJ2.out; have := HK2.out; omega
              case rel => exact ⟨(y309), (wrap64 (x8_2 + 1)), (by first | rfl | (simp; done) | (simp [*]; done)), H', ⟨by have := HJ2.out; have := HK2.out; omega⟩, ⟨by (with_reducible repeat (first | apply YG | apply YH | apply YI)); exact Kd.R_mono HO_5.out (fun _ hk => trivial)⟩, ⟨by (with_reducible repeat (first | apply Kd.S_alloc | apply Kd.S_drewN | apply Kd.S_drew)); exact HO311.out⟩, ⟨by repeat (first | (with_reducible first | exact HB.out | apply YA | apply YB | apply YC) | exact HB.out)⟩⟩
            rw [if_neg c9] at H; have c9b0 : decide (x8_2 < a0) = false := decide_eq_false c9; clear c9
            by_cases c20 : (t299.length : Int) = a0
            rotate_left
            · rw [if_neg c20] at H
              exact absurd H (by simp)
            rw [if_pos c20] at H
            have c20b0 : ((t299.length : Int) == a0) = true := beq_iff_eq.mpr c20
            have c20b1 : ((t299.length : Int) != a0) = false := bne_eq_false_iff_eq.mpr c20
            clear c20
            have H' := YF H
            clear H
            obtain ⟨Ao21, co21, eo21⟩ := Kd.R_slice HO_5.out
            subst eo21
            go_wp2
            repeat (go_quiet (fail); try go_wp2)
            go_loopg [11] k2 (fun kq v11 w' => ∃ (x11_3 : Int), v11 = .int .i64 x11_3 ∧ Aside0 (thalweglaw25_GraphTogether.l1 kq a0 l1 t299 x7_2 x11_3 = some r) ∧ Aside0 (kq ≤ k2) ∧ Aside0 (Kd.R (Kd.int .i64) 3 w' w.heap.size (fun _ => True) (.slice Ao21 t299.length co21) t299) ∧ Aside0 (Kd.S (Kd.slice 3 (Kd.int .i64)) 22 w' w.heap.size (fun k_ => some k_ ≠ ((.slice Ao21 t299.length co21) : Value).ownBlock) u7 x7_2) ∧ Aside0 (Below w.heap.size w w'))
            case atStart => exact ⟨(0), (by first | rfl | (simp; done) | (simp [*]; done)), H', ⟨Nat.le_refl _⟩, ⟨by (with_reducible repeat (first | apply YG | apply YH | apply YI)); exact HO_5.out⟩, ⟨by (with_reducible repeat (first | apply Kd.S_alloc | apply Kd.S_drewN | apply Kd.S_drew)); exact HO_7.out⟩, ⟨by repeat (first | (with_reducible first | exact HB.out | apply YA | apply YB | apply YC) | exact HB.out)⟩⟩
            case round =>
              clear H'
              try clear c1
              try clear c2
              try clear p2
              try clear p3
              try clear q3
              try clear hx3
              try clear c4
              try clear c4b0
              try clear c5
              try clear p6
              try clear c7
              try clear c7b0
              try clear c7b1
              try clear c9
              try clear c9b0
              try clear c11
              try clear c11b0
              try clear c11b1
              try clear c12
              try clear c12b0
              try clear c12b1
              try clear c13
              try clear c13b0
              try clear c14
              try clear c14b0
              try clear c15
              try clear c15b0
              try clear c15b1
              try clear c16
              try clear c20
              try clear c20b0
              try clear c20b1
              try clear hx308_0
              try clear p2
              try clear p308
              try clear q308
              obtain ⟨x11_3, rfl, HA, HK3, HO_5, HO_7, HB⟩ := hrel
              cases gk with
              | zero => exact absurd HA.out (by simp [thalweglaw25_GraphTogether.l1])
              | succ k3 =>
                have H := HA.out
                clear HA
                simp only [thalweglaw25_GraphTogether.l1] at H
                by_cases c22 : x11_3 < a0
                · rw [if_pos c22] at H
                  have c22b0 : decide (x11_3 < a0) = true := decide_eq_true c22; clear c22
                  have H' := YF H
                  clear H
                  go_wp2
                  repeat (go_quiet (fail); try go_wp2)
                  go_loopg [12] k3 (fun kq v12 w' => ∃ (x12_4 : Int), v12 = .int .i64 x12_4 ∧ Aside0 (thalweglaw25_GraphTogether.l2 kq a0 l1 t299 x7_2 x11_3 x12_4 = some r) ∧ Aside0 (kq ≤ k3) ∧ Aside0 (Kd.R (Kd.int .i64) 3 w' w.heap.size (fun _ => True) (.slice Ao21 t299.length co21) t299) ∧ Aside0 (Kd.S (Kd.slice 3 (Kd.int .i64)) 22 w' w.heap.size (fun k_ => some k_ ≠ ((.slice Ao21 t299.length co21) : Value).ownBlock) u7 x7_2) ∧ Aside0 (Below w.heap.size w w'))
                  case atStart => exact ⟨(0), (by first | rfl | (simp; done) | (simp [*]; done)), H', ⟨Nat.le_refl _⟩, ⟨by (with_reducible repeat (first | apply YG | apply YH | apply YI)); exact HO_5.out⟩, ⟨by (with_reducible repeat (first | apply Kd.S_alloc | apply Kd.S_drewN | apply Kd.S_drew)); exact HO_7.out⟩, ⟨by repeat (first | (with_reducible first | exact HB.out | apply YA | apply YB | apply YC) | exact HB.out)⟩⟩
                  case round =>
                    clear H'
                    try clear c1
                    try clear c2
                    try clear p2
                    try clear p3
                    try clear q3
                    try clear hx3
                    try clear c4
                    try clear c4b0
                    try clear c5
                    try clear p6
                    try clear c7
                    try clear c7b0
                    try clear c7b1
                    try clear c9
                    try clear c9b0
                    try clear c11
                    try clear c11b0
                    try clear c11b1
                    try clear c12
                    try clear c12b0
                    try clear c12b1
                    try clear c13
                    try clear c13b0
                    try clear c14
                    try clear c14b0
                    try clear c15
                    try clear c15b0
                    try clear c15b1
                    try clear c16
                    try clear c20
                    try clear c20b0
                    try clear c20b1
                    try clear c22
                    try clear c22b0
                    try clear hx308_0
                    try clear p2
                    try clear p3
                    try clear p308
                    try clear p6
                    try clear q3
                    try clear q308
                    obtain ⟨x12_4, rfl, HA, HK4, HO_5, HO_7, HB⟩ := hrel
                    cases gk with
                    | zero => exact absurd HA.out (by simp [thalweglaw25_GraphTogether.l2])
                    | succ k4 =>
                      have H := HA.out
                      clear HA
                      simp only [thalweglaw25_GraphTogether.l2] at H
                      by_cases c23 : x12_4 < a0
                      · rw [if_pos c23] at H
                        have c23b0 : decide (x12_4 < a0) = true := decide_eq_true c23; clear c23
                        by_cases c24 : 0 ≤ x11_3
                        rotate_left
                        · rw [if_neg c24] at H
                          exact absurd H (by simp)
                        rw [if_pos c24] at H; have c24b0 : decide (0 ≤ x11_3) = true := decide_eq_true c24; clear c24
                        by_cases c25 : x11_3 < (x7_2.length : Int)
                        rotate_left
                        · rw [if_neg c25] at H
                          exact absurd H (by simp)
                        rw [if_pos c25] at H
                        have c25b0 : decide (x11_3 < (x7_2.length : Int)) = true := decide_eq_true c25
                        clear c25
                        by_cases c26 : 0 ≤ x12_4
                        rotate_left
                        · rw [if_neg c26] at H
                          exact absurd H (by simp)
                        rw [if_pos c26] at H; have c26b0 : decide (0 ≤ x12_4) = true := decide_eq_true c26; clear c26
                        by_cases c27 : x12_4 < ((rd_L3 x7_2 x11_3).length : Int)
                        rotate_left
                        · rw [if_neg c27] at H
                          exact absurd H (by simp)
                        rw [if_pos c27] at H
                        have c27b0 : decide (x12_4 < ((rd_L3 x7_2 x11_3).length : Int)) = true := decide_eq_true c27
                        clear c27
                        by_cases c28 : x12_4 < (x7_2.length : Int)
                        rotate_left
                        · rw [if_neg c28] at H
                          exact absurd H (by simp)
                        rw [if_pos c28] at H
                        have c28b0 : decide (x12_4 < (x7_2.length : Int)) = true := decide_eq_true c28
                        clear c28
                        by_cases c29 : x11_3 < ((rd_L3 x7_2 x12_4).length : Int)
                        rotate_left
                        · rw [if_neg c29] at H
                          exact absurd H (by simp)
                        rw [if_pos c29] at H
                        have c29b0 : decide (x11_3 < ((rd_L3 x7_2 x12_4).length : Int)) = true := decide_eq_true c29
                        clear c29
                        by_cases c30 : (rd (rd_L3 x7_2 x11_3) x12_4) = (rd (rd_L3 x7_2 x12_4) x11_3)
                        rotate_left
                        · rw [if_neg c30] at H
                          exact absurd H (by simp)
                        rw [if_pos c30] at H
                        have c30b0 : ((rd (rd_L3 x7_2 x11_3) x12_4) == (rd (rd_L3 x7_2 x12_4) x11_3)) = true := beq_iff_eq.mpr c30
                        have c30b1 : ((rd (rd_L3 x7_2 x11_3) x12_4) != (rd (rd_L3 x7_2 x12_4) x11_3)) = false := bne_eq_false_iff_eq.mpr c30
                        clear c30
                        by_cases c31 : x11_3 < (t299.length : Int)
                        rotate_left
                        · rw [if_neg c31] at H
                          exact absurd H (by simp)
                        rw [if_pos c31] at H
                        have c31b0 : decide (x11_3 < (t299.length : Int)) = true := decide_eq_true c31
                        clear c31
                        by_cases c32 : x12_4 < (t299.length : Int)
                        rotate_left
                        · rw [if_neg c32] at H
                          exact absurd H (by simp)
                        rw [if_pos c32] at H
                        have c32b0 : decide (x12_4 < (t299.length : Int)) = true := decide_eq_true c32
                        clear c32
                        by_cases c33 : ((decide ((rd (rd_L3 x7_2 x11_3) x12_4) ≥ 0)) != ((rd t299 x11_3) == (rd t299 x12_4))) = true
                        · rw [if_pos c33] at H
                          exact absurd H (by simp)
                        rw [if_neg c33] at H
                        have c33b0 : ((decide ((rd (rd_L3 x7_2 x11_3) x12_4) ≥ 0)) != ((rd t299 x11_3) == (rd t299 x12_4))) = false := by simpa using c33
                        (try (have c33b1 : decide ((decide ((rd (rd_L3 x7_2 x11_3) x12_4) ≥ 0)) = ((rd t299 x11_3) == (rd t299 x12_4))) = true := by simpa using c33))
                        (try (have c33b2 : ((decide ((rd (rd_L3 x7_2 x11_3) x12_4) ≥ 0)) == ((rd t299 x11_3) == (rd t299 x12_4))) = true := by simpa using c33))
                        clear c33
                        by_cases c34 : (rd (rd_L3 x7_2 x11_3) x12_4) ≥ a0
                        · rw [if_pos c34] at H
                          exact absurd H (by simp)
                        rw [if_neg c34] at H; have c34b0 : decide (a0 ≤ (rd (rd_L3 x7_2 x11_3) x12_4)) = false := decide_eq_false c34; clear c34
                        by_cases c35 : (rd t299 x11_3) > x11_3
                        · rw [if_pos c35] at H
                          exact absurd H (by simp)
                        rw [if_neg c35] at H; have c35b0 : decide (x11_3 < (rd t299 x11_3)) = false := decide_eq_false c35; clear c35
                        have H' := YF H
                        clear H
                        obtain ⟨Ao36, co36, eo36⟩ := Kd.S_slice HO_7.out
                        subst eo36
                        have p312 : 0 ≤ (x11_3 : Int) := of_decide_eq_true (by first | (with_reducible assumption) | assumption)
                        have q312 : x11_3 < (x7_2.length : Int) := of_decide_eq_true (by first | (with_reducible assumption) | assumption)
                        obtain ⟨ad312, A312_0, c312_0, e312, hx312_0, hl312_0, hi312_0⟩ := at_L3 (Kd.S_reads' HO_7.out).2.2 x11_3 p312 q312
                        cases e312
                        obtain ⟨ce312, hce312, hMe312, hcc312⟩ := Kd.S_get HO_7.out [] x11_3 p312 (by first | exact q312 | exact of_decide_eq_true (by first | (with_reducible assumption) | assumption) | (have e_ := (Kd.S_reads' HO_7.out).1; omega))
                        obtain ⟨ve312_0, rfl, ge312_0⟩ := hMe312
                        have hv312_0 := hcc312 0 _ rfl
                        rw [Nat.add_zero, show ((Kd.slice 3 (Kd.int .i64))).sz = 1 from rfl, Nat.mul_one] at hv312_0
                        replace hv312_0 := Option.some.inj (hv312_0.symm.trans hx312_0)
                        rw [hv312_0] at ge312_0
                        have HL312_0 := YF (show Kd.R (Kd.int .i64) 3 _ _ _ _ (rd_L3 x7_2 x11_3) from ge312_0)
                        clear hv312_0 ge312_0; clear hcc312 hce312; have HR312_0 := YF hi312_0; have HC312_0 := YF hl312_0; clear hi312_0 hl312_0
                        replace p312 := eq_true p312
                        replace q312 := eq_true q312
                        have p313 : 0 ≤ (x12_4 : Int) := of_decide_eq_true (by first | (with_reducible assumption) | assumption)
                        have q313 : x12_4 < ((rd_L3 x7_2 x11_3).length : Int) := of_decide_eq_true (by first | (with_reducible assumption) | assumption)
                        obtain ⟨ad313, e313, hx313_0⟩ := Kd.at_int (by repeat (first | (with_reducible exact HR312_0.out) | (with_reducible refine Kd.C_alloc ?_ _) | (with_reducible refine Kd.C_drewN ?_ _) | (with_reducible refine Kd.C_drew ?_) | exact HR312_0.out)) x12_4 p313 q313
                        cases e313
                        replace p313 := eq_true p313
                        replace q313 := eq_true q313
                        have p314 : 0 ≤ (x12_4 : Int) := of_decide_eq_true (by first | (with_reducible assumption) | assumption)
                        have q314 : x12_4 < (x7_2.length : Int) := of_decide_eq_true (by first | (with_reducible assumption) | assumption)
                        obtain ⟨ad314, A314_0, c314_0, e314, hx314_0, hl314_0, hi314_0⟩ := at_L3 (Kd.S_reads' HO_7.out).2.2 x12_4 p314 q314
                        obtain rfl : ad312 = ad314 := (by injection e314)
                        obtain ⟨ce314, hce314, hMe314, hcc314⟩ := Kd.S_get HO_7.out [] x12_4 p314 (by first | exact q314 | exact of_decide_eq_true (by first | (with_reducible assumption) | assumption) | (have e_ := (Kd.S_reads' HO_7.out).1; omega))
                        obtain ⟨ve314_0, rfl, ge314_0⟩ := hMe314
                        have hv314_0 := hcc314 0 _ rfl
                        rw [Nat.add_zero, show ((Kd.slice 3 (Kd.int .i64))).sz = 1 from rfl, Nat.mul_one] at hv314_0
                        replace hv314_0 := Option.some.inj (hv314_0.symm.trans hx314_0)
                        rw [hv314_0] at ge314_0
                        have HL314_0 := YF (show Kd.R (Kd.int .i64) 3 _ _ _ _ (rd_L3 x7_2 x12_4) from ge314_0)
                        clear hv314_0 ge314_0; clear hcc314 hce314; have HR314_0 := YF hi314_0; have HC314_0 := YF hl314_0; clear hi314_0 hl314_0
                        replace p314 := eq_true p314
                        replace q314 := eq_true q314
                        have p315 : 0 ≤ (x11_3 : Int) := of_decide_eq_true (by first | (with_reducible assumption) | assumption)
                        have q315 : x11_3 < ((rd_L3 x7_2 x12_4).length : Int) := of_decide_eq_true (by first | (with_reducible assumption) | assumption)
                        obtain ⟨ad315, e315, hx315_0⟩ := Kd.at_int (by repeat (first | (with_reducible exact HR314_0.out) | (with_reducible refine Kd.C_alloc ?_ _) | (with_reducible refine Kd.C_drewN ?_ _) | (with_reducible refine Kd.C_drew ?_) | exact HR314_0.out)) x11_3 p315 q315
                        cases e315
                        replace p315 := eq_true p315
                        replace q315 := eq_true q315
                        have p316 : 0 ≤ (x11_3 : Int) := of_decide_eq_true (by first | (with_reducible assumption) | assumption)
                        have q316 : x11_3 < (x7_2.length : Int) := of_decide_eq_true (by first | (with_reducible assumption) | assumption)
                        obtain ⟨ad316, A316_0, c316_0, e316, hx316_0, hl316_0, hi316_0⟩ := at_L3 (Kd.S_reads' HO_7.out).2.2 x11_3 p316 q316
                        obtain rfl : ad312 = ad316 := (by injection e316)
                        obtain ⟨ce316, hce316, hMe316, hcc316⟩ := Kd.S_get HO_7.out [] x11_3 p316 (by first | exact q316 | exact of_decide_eq_true (by first | (with_reducible assumption) | assumption) | (have e_ := (Kd.S_reads' HO_7.out).1; omega))
                        obtain ⟨ve316_0, rfl, ge316_0⟩ := hMe316
                        have hv316_0 := hcc316 0 _ rfl
                        rw [Nat.add_zero, show ((Kd.slice 3 (Kd.int .i64))).sz = 1 from rfl, Nat.mul_one] at hv316_0
                        replace hv316_0 := Option.some.inj (hv316_0.symm.trans hx316_0)
                        rw [hv316_0] at ge316_0
                        have HL316_0 := YF (show Kd.R (Kd.int .i64) 3 _ _ _ _ (rd_L3 x7_2 x11_3) from ge316_0)
                        clear hv316_0 ge316_0; clear hcc316 hce316; have HR316_0 := YF hi316_0; have HC316_0 := YF hl316_0; clear hi316_0 hl316_0
                        replace p316 := eq_true p316
                        replace q316 := eq_true q316
                        have ea_ := Option.some.inj (hx312_0.symm.trans hx316_0)
                        injection ea_ with ea_ en_ ec_
                        subst ea_; subst ec_; clear en_
                        have p317 : 0 ≤ (x12_4 : Int) := of_decide_eq_true (by first | (with_reducible assumption) | assumption)
                        have q317 : x12_4 < ((rd_L3 x7_2 x11_3).length : Int) := of_decide_eq_true (by first | (with_reducible assumption) | assumption)
                        obtain ⟨ad317, e317, hx317_0⟩ := Kd.at_int (by repeat (first | (with_reducible exact HR316_0.out) | (with_reducible refine Kd.C_alloc ?_ _) | (with_reducible refine Kd.C_drewN ?_ _) | (with_reducible refine Kd.C_drew ?_) | exact HR316_0.out)) x12_4 p317 q317
                        cases e317
                        replace p317 := eq_true p317
                        replace q317 := eq_true q317
                        have p318 : 0 ≤ (x11_3 : Int) := of_decide_eq_true (by first | (with_reducible assumption) | assumption)
                        have q318 : x11_3 < (t299.length : Int) := of_decide_eq_true (by first | (with_reducible assumption) | assumption)
                        obtain ⟨ad318, e318, hx318_0⟩ := Kd.at_int (Kd.R_reads' HO_5.out).2.2 x11_3 p318 q318
                        cases e318
                        replace p318 := eq_true p318
                        replace q318 := eq_true q318
                        have p319 : 0 ≤ (x12_4 : Int) := of_decide_eq_true (by first | (with_reducible assumption) | assumption)
                        have q319 : x12_4 < (t299.length : Int) := of_decide_eq_true (by first | (with_reducible assumption) | assumption)
                        obtain ⟨ad319, e319, hx319_0⟩ := Kd.at_int (Kd.R_reads' HO_5.out).2.2 x12_4 p319 q319
                        obtain rfl : ad318 = ad319 := (by injection e319)
                        replace p319 := eq_true p319
                        replace q319 := eq_true q319
                        have p320 : 0 ≤ (x11_3 : Int) := of_decide_eq_true (by first | (with_reducible assumption) | assumption)
                        have q320 : x11_3 < (x7_2.length : Int) := of_decide_eq_true (by first | (with_reducible assumption) | assumption)
                        obtain ⟨ad320, A320_0, c320_0, e320, hx320_0, hl320_0, hi320_0⟩ := at_L3 (Kd.S_reads' HO_7.out).2.2 x11_3 p320 q320
                        obtain rfl : ad312 = ad320 := (by injection e320)
                        obtain ⟨ce320, hce320, hMe320, hcc320⟩ := Kd.S_get HO_7.out [] x11_3 p320 (by first | exact q320 | exact of_decide_eq_true (by first | (with_reducible assumption) | assumption) | (have e_ := (Kd.S_reads' HO_7.out).1; omega))
                        obtain ⟨ve320_0, rfl, ge320_0⟩ := hMe320
                        have hv320_0 := hcc320 0 _ rfl
                        rw [Nat.add_zero, show ((Kd.slice 3 (Kd.int .i64))).sz = 1 from rfl, Nat.mul_one] at hv320_0
                        replace hv320_0 := Option.some.inj (hv320_0.symm.trans hx320_0)
                        rw [hv320_0] at ge320_0
                        have HL320_0 := YF (show Kd.R (Kd.int .i64) 3 _ _ _ _ (rd_L3 x7_2 x11_3) from ge320_0)
                        clear hv320_0 ge320_0; clear hcc320 hce320; have HR320_0 := YF hi320_0; have HC320_0 := YF hl320_0; clear hi320_0 hl320_0
                        replace p320 := eq_true p320
                        replace q320 := eq_true q320
                        have ea_ := Option.some.inj (hx312_0.symm.trans hx320_0)
                        injection ea_ with ea_ en_ ec_
                        subst ea_; subst ec_; clear en_
                        have p321 : 0 ≤ (x12_4 : Int) := of_decide_eq_true (by first | (with_reducible assumption) | assumption)
                        have q321 : x12_4 < ((rd_L3 x7_2 x11_3).length : Int) := of_decide_eq_true (by first | (with_reducible assumption) | assumption)
                        obtain ⟨ad321, e321, hx321_0⟩ := Kd.at_int (by repeat (first | (with_reducible exact HR320_0.out) | (with_reducible refine Kd.C_alloc ?_ _) | (with_reducible refine Kd.C_drewN ?_ _) | (with_reducible refine Kd.C_drew ?_) | exact HR320_0.out)) x12_4 p321 q321
                        cases e321
                        replace p321 := eq_true p321
                        replace q321 := eq_true q321
                        have p322 : 0 ≤ (x11_3 : Int) := of_decide_eq_true (by first | (with_reducible assumption) | assumption)
                        have q322 : x11_3 < (t299.length : Int) := of_decide_eq_true (by first | (with_reducible assumption) | assumption)
                        obtain ⟨ad322, e322, hx322_0⟩ := Kd.at_int (Kd.R_reads' HO_5.out).2.2 x11_3 p322 q322
                        obtain rfl : ad318 = ad322 := (by injection e322)
                        replace p322 := eq_true p322
                        replace q322 := eq_true q322
                        go_wp2
                        repeat (go_quiet (fail); try go_wp2)
                        go_roundg k4
                        case measure => have := HJ2.out; have := HK2.out; have := HK3.out; have := HK4.out; omega
                        case rel => exact ⟨(wrap64 (x12_4 + 1)), (by first | rfl | (simp; done) | (simp [*]; done)), H', ⟨by have := HJ2.out; have := HK2.out; have := HK3.out; have := HK4.out; omega⟩, ⟨by (with_reducible repeat (first | apply YG | apply YH | apply YI)); exact HO_5.out⟩, ⟨by (with_reducible repeat (first | apply Kd.S_alloc | apply Kd.S_drewN | apply Kd.S_drew)); exact HO_7.out⟩, ⟨by repeat (first | (with_reducible first | exact HB.out | apply YA | apply YB | apply YC) | exact HB.out)⟩⟩
                      rw [if_neg c23] at H; have c23b0 : decide (x12_4 < a0) = false := decide_eq_false c23; clear c23
                      have H' := YF H
                      clear H
                      go_wp2
                      repeat (go_quiet (fail); try go_wp2)
                      go_roundg k4
                      case measure => have := HJ2.out; have := HK2.out; have := HK3.out; have := HK4.out; omega
                      case rel => exact ⟨(wrap64 (x11_3 + 1)), (by first | rfl | (simp; done) | (simp [*]; done)), H', ⟨by have := HJ2.out; have := HK2.out; have := HK3.out; have := HK4.out; omega⟩, ⟨by (with_reducible repeat (first | apply YG | apply YH | apply YI)); exact HO_5.out⟩, ⟨by (with_reducible repeat (first | apply Kd.S_alloc | apply Kd.S_drewN | apply Kd.S_drew)); exact HO_7.out⟩, ⟨by repeat (first | (with_reducible first | exact HB.out | apply YA | apply YB | apply YC) | exact HB.out)⟩⟩
                rw [if_neg c22] at H; have c22b0 : decide (x11_3 < a0) = false := decide_eq_false c22; clear c22
                have H' := YF H
                clear H
                go_wp2
                repeat (go_quiet (fail); try go_wp2)
                go_loopg [13] k3 (fun kq v13 w' => ∃ (x13_4 : Int), v13 = .int .i64 x13_4 ∧ Aside0 (thalweglaw25_GraphTogether.l3 kq a0 l1 x7_2 x13_4 = some r) ∧ Aside0 (kq ≤ k3) ∧ Aside0 (Kd.S (Kd.slice 3 (Kd.int .i64)) 22 w' w.heap.size (fun _ => True) u7 x7_2) ∧ Aside0 (Below w.heap.size w w'))
                case atStart => exact ⟨(0), (by first | rfl | (simp; done) | (simp [*]; done)), H', ⟨Nat.le_refl _⟩, ⟨by (with_reducible repeat (first | apply Kd.S_alloc | apply Kd.S_drewN | apply Kd.S_drew)); exact Kd.S_mono HO_7.out (fun _ hk => trivial)⟩, ⟨by repeat (first | (with_reducible first | exact HB.out | apply YA | apply YB | apply YC) | exact HB.out)⟩⟩
                case round =>
                  clear H'
                  try clear c1
                  try clear c2
                  try clear p2
                  try clear c3
                  try clear p3
                  try clear q3
                  try clear hx3
                  try clear c4
                  try clear c4b0
                  try clear c5
                  try clear p6
                  try clear c7
                  try clear c7b0
                  try clear c7b1
                  try clear c9
                  try clear c9b0
                  try clear c11
                  try clear c11b0
                  try clear c11b1
                  try clear c12
                  try clear c12b0
                  try clear c12b1
                  try clear c13
                  try clear c13b0
                  try clear c14
                  try clear c14b0
                  try clear c15
                  try clear c15b0
                  try clear c15b1
                  try clear c16
                  try clear c20
                  try clear c20b0
                  try clear c20b1
                  try clear c22
                  try clear c22b0
                  try clear c23
                  try clear c23b0
                  try clear c24
                  try clear c24b0
                  try clear c25
                  try clear c25b0
                  try clear c26
                  try clear c26b0
                  try clear c27
                  try clear c27b0
                  try clear c28
                  try clear c28b0
                  try clear c29
                  try clear c29b0
                  try clear c30
                  try clear c30b0
                  try clear c30b1
                  try clear p30
                  try clear q30
                  try clear hx30
                  try clear c31
                  try clear c31b0
                  try clear p31
                  try clear q31
                  try clear hx31
                  try clear c32
                  try clear c32b0
                  try clear p32
                  try clear q32
                  try clear hx32
                  try clear c33
                  try clear c33b0
                  try clear c33b1
                  try clear c33b2
                  try clear c34
                  try clear c34b0
                  try clear c35
                  try clear c35b0
                  try clear hx308_0
                  try clear hx312_0
                  try clear hx313_0
                  try clear hx314_0
                  try clear hx315_0
                  try clear hx316_0
                  try clear hx317_0
                  try clear hx318_0
                  try clear hx319_0
                  try clear hx320_0
                  try clear hx321_0
                  try clear hx322_0
                  try clear p2
                  try clear p3
                  try clear p308
                  try clear p312
                  try clear p313
                  try clear p314
                  try clear p315
                  try clear p316
                  try clear p317
                  try clear p318
                  try clear p319
                  try clear p320
                  try clear p321
                  try clear p322
                  try clear p6
                  try clear q3
                  try clear q308
                  try clear q312
                  try clear q313
                  try clear q314
                  try clear q315
                  try clear q316
                  try clear q317
                  try clear q318
                  try clear q319
                  try clear q320
                  try clear q321
                  try clear q322
                  obtain ⟨x13_4, rfl, HA, HK4, HO_7, HB⟩ := hrel
                  cases gk with
                  | zero => exact absurd HA.out (by simp [thalweglaw25_GraphTogether.l3])
                  | succ k4 =>
                    have H := HA.out
                    clear HA
                    simp only [thalweglaw25_GraphTogether.l3] at H
                    by_cases c37 : x13_4 < (l1.length : Int)
                    · rw [if_pos c37] at H
                      have c37b0 : decide (x13_4 < (l1.length : Int)) = true := decide_eq_true c37
                      clear c37
                      by_cases c38 : 0 ≤ x13_4
                      rotate_left
                      · rw [if_neg c38] at H
                        exact absurd H (by simp)
                      rw [if_pos c38] at H; have c38b0 : decide (0 ≤ x13_4) = true := decide_eq_true c38; clear c38
                      by_cases c39 : ((rd_T36 l1 x13_4).f0) ≥ 0
                      · rw [if_pos c39] at H
                        have c39b0 : decide (0 ≤ ((rd_T36 l1 x13_4).f0)) = true := decide_eq_true c39; clear c39
                        by_cases c40 : ((rd_T36 l1 x13_4).f0) < a0
                        · rw [if_pos c40] at H
                          have c40b0 : decide (((rd_T36 l1 x13_4).f0) < a0) = true := decide_eq_true c40; clear c40
                          by_cases c41 : ((rd_T36 l1 x13_4).f1) ≥ 0
                          · rw [if_pos c41] at H
                            have c41b0 : decide (0 ≤ ((rd_T36 l1 x13_4).f1)) = true := decide_eq_true c41; clear c41
                            by_cases c42 : ((rd_T36 l1 x13_4).f1) < a0
                            · rw [if_pos c42] at H
                              have c42b0 : decide (((rd_T36 l1 x13_4).f1) < a0) = true := decide_eq_true c42; clear c42
                              by_cases c43 : 0 ≤ ((rd_T36 l1 x13_4).f0)
                              rotate_left
                              · rw [if_neg c43] at H
                                exact absurd H (by simp)
                              rw [if_pos c43] at H; have c43b0 : decide (0 ≤ ((rd_T36 l1 x13_4).f0)) = true := decide_eq_true c43; clear c43
                              by_cases c44 : ((rd_T36 l1 x13_4).f0) < (x7_2.length : Int)
                              rotate_left
                              · rw [if_neg c44] at H
                                exact absurd H (by simp)
                              rw [if_pos c44] at H
                              have c44b0 : decide (((rd_T36 l1 x13_4).f0) < (x7_2.length : Int)) = true := decide_eq_true c44
                              clear c44
                              by_cases c45 : 0 ≤ ((rd_T36 l1 x13_4).f1)
                              rotate_left
                              · rw [if_neg c45] at H
                                exact absurd H (by simp)
                              rw [if_pos c45] at H; have c45b0 : decide (0 ≤ ((rd_T36 l1 x13_4).f1)) = true := decide_eq_true c45; clear c45
                              by_cases c46 : ((rd_T36 l1 x13_4).f1) < ((rd_L3 x7_2 ((rd_T36 l1 x13_4).f0)).length : Int)
                              rotate_left
                              · rw [if_neg c46] at H
                                exact absurd H (by simp)
                              rw [if_pos c46] at H
                              have c46b0 : decide (((rd_T36 l1 x13_4).f1) < ((rd_L3 x7_2 ((rd_T36 l1 x13_4).f0)).length : Int)) = true := decide_eq_true c46
                              clear c46
                              by_cases c47 : (rd (rd_L3 x7_2 ((rd_T36 l1 x13_4).f0)) ((rd_T36 l1 x13_4).f1)) < 0
                              · rw [if_pos c47] at H
                                exact absurd H (by simp)
                              rw [if_neg c47] at H; have c47b0 : decide ((rd (rd_L3 x7_2 ((rd_T36 l1 x13_4).f0)) ((rd_T36 l1 x13_4).f1)) < 0) = false := decide_eq_false c47; clear c47
                              by_cases c48 : (rd (rd_L3 x7_2 ((rd_T36 l1 x13_4).f0)) ((rd_T36 l1 x13_4).f1)) > 1
                              · rw [if_pos c48] at H
                                exact absurd H (by simp)
                              rw [if_neg c48] at H; have c48b0 : decide (1 < (rd (rd_L3 x7_2 ((rd_T36 l1 x13_4).f0)) ((rd_T36 l1 x13_4).f1))) = false := decide_eq_false c48; clear c48
                              have H' := YF H
                              clear H
                              have p323 : 0 ≤ (x13_4 : Int) := of_decide_eq_true (by first | (with_reducible assumption) | assumption)
                              have q323 : x13_4 < (l1.length : Int) := of_decide_eq_true (by first | (with_reducible assumption) | assumption)
                              obtain ⟨ad323, e323, hx323_0, hx323_1⟩ := at_T36 HR1.out x13_4 p323 q323
                              cases e323
                              replace hx323_0 := (HB.out.cell (World.block_lt_of_cell? w _ hx323_0)).trans hx323_0
                              replace hx323_1 := (HB.out.cell (World.block_lt_of_cell? w _ hx323_1)).trans hx323_1
                              replace p323 := eq_true p323
                              replace q323 := eq_true q323
                              have p324 : 0 ≤ (x13_4 : Int) := of_decide_eq_true (by first | (with_reducible assumption) | assumption)
                              have q324 : x13_4 < (l1.length : Int) := of_decide_eq_true (by first | (with_reducible assumption) | assumption)
                              obtain ⟨ad324, e324, hx324_0, hx324_1⟩ := at_T36 HR1.out x13_4 p324 q324
                              obtain rfl : ad323 = ad324 := (by injection e324)
                              replace hx324_0 := (HB.out.cell (World.block_lt_of_cell? w _ hx324_0)).trans hx324_0
                              replace hx324_1 := (HB.out.cell (World.block_lt_of_cell? w _ hx324_1)).trans hx324_1
                              replace p324 := eq_true p324
                              replace q324 := eq_true q324
                              obtain ⟨Ao49, co49, eo49⟩ := Kd.S_slice HO_7.out
                              subst eo49
                              have p325 : 0 ≤ (((rd_T36 l1 x13_4).f0) : Int) := of_decide_eq_true (by first | (with_reducible assumption) | assumption)
                              have q325 : ((rd_T36 l1 x13_4).f0) < (x7_2.length : Int) := of_decide_eq_true (by first | (with_reducible assumption) | assumption)
                              obtain ⟨ad325, A325_0, c325_0, e325, hx325_0, hl325_0, hi325_0⟩ := at_L3 (Kd.S_reads' HO_7.out).2.2 ((rd_T36 l1 x13_4).f0) p325 q325
                              cases e325
                              obtain ⟨ce325, hce325, hMe325, hcc325⟩ := Kd.S_get HO_7.out [] ((rd_T36 l1 x13_4).f0) p325 (by first | exact q325 | exact of_decide_eq_true (by first | (with_reducible assumption) | assumption) | (have e_ := (Kd.S_reads' HO_7.out).1; omega))
                              obtain ⟨ve325_0, rfl, ge325_0⟩ := hMe325
                              have hv325_0 := hcc325 0 _ rfl
                              rw [Nat.add_zero, show ((Kd.slice 3 (Kd.int .i64))).sz = 1 from rfl, Nat.mul_one] at hv325_0
                              replace hv325_0 := Option.some.inj (hv325_0.symm.trans hx325_0)
                              rw [hv325_0] at ge325_0
                              have HL325_0 := YF (show Kd.R (Kd.int .i64) 3 _ _ _ _ (rd_L3 x7_2 ((rd_T36 l1 x13_4).f0)) from ge325_0)
                              clear hv325_0 ge325_0; clear hcc325 hce325; have HR325_0 := YF hi325_0; have HC325_0 := YF hl325_0; clear hi325_0 hl325_0
                              replace p325 := eq_true p325
                              replace q325 := eq_true q325
                              have p326 : 0 ≤ (((rd_T36 l1 x13_4).f1) : Int) := of_decide_eq_true (by first | (with_reducible assumption) | assumption)
                              have q326 : ((rd_T36 l1 x13_4).f1) < ((rd_L3 x7_2 ((rd_T36 l1 x13_4).f0)).length : Int) := of_decide_eq_true (by first | (with_reducible assumption) | assumption)
                              obtain ⟨ad326, e326, hx326_0⟩ := Kd.at_int (by repeat (first | (with_reducible exact HR325_0.out) | (with_reducible refine Kd.C_alloc ?_ _) | (with_reducible refine Kd.C_drewN ?_ _) | (with_reducible refine Kd.C_drew ?_) | exact HR325_0.out)) ((rd_T36 l1 x13_4).f1) p326 q326
                              cases e326
                              replace p326 := eq_true p326
                              replace q326 := eq_true q326
                              have p327 : 0 ≤ (((rd_T36 l1 x13_4).f0) : Int) := of_decide_eq_true (by first | (with_reducible assumption) | assumption)
                              have q327 : ((rd_T36 l1 x13_4).f0) < (x7_2.length : Int) := of_decide_eq_true (by first | (with_reducible assumption) | assumption)
                              obtain ⟨ad327, A327_0, c327_0, e327, hx327_0, hl327_0, hi327_0⟩ := at_L3 (Kd.S_reads' HO_7.out).2.2 ((rd_T36 l1 x13_4).f0) p327 q327
                              obtain rfl : ad325 = ad327 := (by injection e327)
                              obtain ⟨ce327, hce327, hMe327, hcc327⟩ := Kd.S_get HO_7.out [] ((rd_T36 l1 x13_4).f0) p327 (by first | exact q327 | exact of_decide_eq_true (by first | (with_reducible assumption) | assumption) | (have e_ := (Kd.S_reads' HO_7.out).1; omega))
                              obtain ⟨ve327_0, rfl, ge327_0⟩ := hMe327
                              have hv327_0 := hcc327 0 _ rfl
                              rw [Nat.add_zero, show ((Kd.slice 3 (Kd.int .i64))).sz = 1 from rfl, Nat.mul_one] at hv327_0
                              replace hv327_0 := Option.some.inj (hv327_0.symm.trans hx327_0)
                              rw [hv327_0] at ge327_0
                              have HL327_0 := YF (show Kd.R (Kd.int .i64) 3 _ _ _ _ (rd_L3 x7_2 ((rd_T36 l1 x13_4).f0)) from ge327_0)
                              clear hv327_0 ge327_0; clear hcc327 hce327; have HR327_0 := YF hi327_0; have HC327_0 := YF hl327_0; clear hi327_0 hl327_0
                              replace p327 := eq_true p327
                              replace q327 := eq_true q327
                              have ea_ := Option.some.inj (hx325_0.symm.trans hx327_0)
                              injection ea_ with ea_ en_ ec_
                              subst ea_; subst ec_; clear en_
                              have p328 : 0 ≤ (((rd_T36 l1 x13_4).f1) : Int) := of_decide_eq_true (by first | (with_reducible assumption) | assumption)
                              have q328 : ((rd_T36 l1 x13_4).f1) < ((rd_L3 x7_2 ((rd_T36 l1 x13_4).f0)).length : Int) := of_decide_eq_true (by first | (with_reducible assumption) | assumption)
                              obtain ⟨ad328, e328, hx328_0⟩ := Kd.at_int (by repeat (first | (with_reducible exact HR327_0.out) | (with_reducible refine Kd.C_alloc ?_ _) | (with_reducible refine Kd.C_drewN ?_ _) | (with_reducible refine Kd.C_drew ?_) | exact HR327_0.out)) ((rd_T36 l1 x13_4).f1) p328 q328
                              cases e328
                              replace p328 := eq_true p328
                              replace q328 := eq_true q328
                              go_wp2
                              repeat (go_quiet (fail); try go_wp2)
                              go_roundg k4
                              case measure => have := HJ2.out; have := HK2.out; have := HK3.out; have := HK4.out; omega
                              case rel => exact ⟨(wrap64 (x13_4 + 1)), (by first | rfl | (simp; done) | (simp [*]; done)), H', ⟨by have := HJ2.out; have := HK2.out; have := HK3.out; have := HK4.out; omega⟩, ⟨by (with_reducible repeat (first | apply Kd.S_alloc | apply Kd.S_drewN | apply Kd.S_drew)); exact HO_7.out⟩, ⟨by repeat (first | (with_reducible first | exact HB.out | apply YA | apply YB | apply YC) | exact HB.out)⟩⟩
                            rw [if_neg c42] at H; have c42b0 : decide (((rd_T36 l1 x13_4).f1) < a0) = false := decide_eq_false c42; clear c42
                            have H' := YF H
                            clear H
                            have p323 : 0 ≤ (x13_4 : Int) := of_decide_eq_true (by first | (with_reducible assumption) | assumption)
                            have q323 : x13_4 < (l1.length : Int) := of_decide_eq_true (by first | (with_reducible assumption) | assumption)
                            obtain ⟨ad323, e323, hx323_0, hx323_1⟩ := at_T36 HR1.out x13_4 p323 q323
                            cases e323
                            replace hx323_0 := (HB.out.cell (World.block_lt_of_cell? w _ hx323_0)).trans hx323_0
                            replace hx323_1 := (HB.out.cell (World.block_lt_of_cell? w _ hx323_1)).trans hx323_1
                            replace p323 := eq_true p323
                            replace q323 := eq_true q323
                            have p324 : 0 ≤ (x13_4 : Int) := of_decide_eq_true (by first | (with_reducible assumption) | assumption)
                            have q324 : x13_4 < (l1.length : Int) := of_decide_eq_true (by first | (with_reducible assumption) | assumption)
                            obtain ⟨ad324, e324, hx324_0, hx324_1⟩ := at_T36 HR1.out x13_4 p324 q324
                            obtain rfl : ad323 = ad324 := (by injection e324)
                            replace hx324_0 := (HB.out.cell (World.block_lt_of_cell? w _ hx324_0)).trans hx324_0
                            replace hx324_1 := (HB.out.cell (World.block_lt_of_cell? w _ hx324_1)).trans hx324_1
                            replace p324 := eq_true p324
                            replace q324 := eq_true q324
                            go_wp2
                            repeat (go_quiet (fail); try go_wp2)
                            go_roundg k4
                            case measure => have := HJ2.out; have := HK2.out; have := HK3.out; have := HK4.out; omega
                            case rel => exact ⟨(wrap64 (x13_4 + 1)), (by first | rfl | (simp; done) | (simp [*]; done)), H', ⟨by have := HJ2.out; have := HK2.out; have := HK3.out; have := HK4.out; omega⟩, ⟨by (with_reducible repeat (first | apply Kd.S_alloc | apply Kd.S_drewN | apply Kd.S_drew)); exact HO_7.out⟩, ⟨by repeat (first | (with_reducible first | exact HB.out | apply YA | apply YB | apply YC) | exact HB.out)⟩⟩
                          rw [if_neg c41] at H; have c41b0 : decide (0 ≤ ((rd_T36 l1 x13_4).f1)) = false := decide_eq_false c41; clear c41
                          have H' := YF H
                          clear H
                          have p323 : 0 ≤ (x13_4 : Int) := of_decide_eq_true (by first | (with_reducible assumption) | assumption)
                          have q323 : x13_4 < (l1.length : Int) := of_decide_eq_true (by first | (with_reducible assumption) | assumption)
                          obtain ⟨ad323, e323, hx323_0, hx323_1⟩ := at_T36 HR1.out x13_4 p323 q323
                          cases e323
                          replace hx323_0 := (HB.out.cell (World.block_lt_of_cell? w _ hx323_0)).trans hx323_0
                          replace hx323_1 := (HB.out.cell (World.block_lt_of_cell? w _ hx323_1)).trans hx323_1
                          replace p323 := eq_true p323
                          replace q323 := eq_true q323
                          have p324 : 0 ≤ (x13_4 : Int) := of_decide_eq_true (by first | (with_reducible assumption) | assumption)
                          have q324 : x13_4 < (l1.length : Int) := of_decide_eq_true (by first | (with_reducible assumption) | assumption)
                          obtain ⟨ad324, e324, hx324_0, hx324_1⟩ := at_T36 HR1.out x13_4 p324 q324
                          obtain rfl : ad323 = ad324 := (by injection e324)
                          replace hx324_0 := (HB.out.cell (World.block_lt_of_cell? w _ hx324_0)).trans hx324_0
                          replace hx324_1 := (HB.out.cell (World.block_lt_of_cell? w _ hx324_1)).trans hx324_1
                          replace p324 := eq_true p324
                          replace q324 := eq_true q324
                          go_wp2
                          repeat (go_quiet (fail); try go_wp2)
                          go_roundg k4
                          case measure => have := HJ2.out; have := HK2.out; have := HK3.out; have := HK4.out; omega
                          case rel => exact ⟨(wrap64 (x13_4 + 1)), (by first | rfl | (simp; done) | (simp [*]; done)), H', ⟨by have := HJ2.out; have := HK2.out; have := HK3.out; have := HK4.out; omega⟩, ⟨by (with_reducible repeat (first | apply Kd.S_alloc | apply Kd.S_drewN | apply Kd.S_drew)); exact HO_7.out⟩, ⟨by repeat (first | (with_reducible first | exact HB.out | apply YA | apply YB | apply YC) | exact HB.out)⟩⟩
                        rw [if_neg c40] at H; have c40b0 : decide (((rd_T36 l1 x13_4).f0) < a0) = false := decide_eq_false c40; clear c40
                        have H' := YF H
                        clear H
                        have p323 : 0 ≤ (x13_4 : Int) := of_decide_eq_true (by first | (with_reducible assumption) | assumption)
                        have q323 : x13_4 < (l1.length : Int) := of_decide_eq_true (by first | (with_reducible assumption) | assumption)
                        obtain ⟨ad323, e323, hx323_0, hx323_1⟩ := at_T36 HR1.out x13_4 p323 q323
                        cases e323
                        replace hx323_0 := (HB.out.cell (World.block_lt_of_cell? w _ hx323_0)).trans hx323_0
                        replace hx323_1 := (HB.out.cell (World.block_lt_of_cell? w _ hx323_1)).trans hx323_1
                        replace p323 := eq_true p323
                        replace q323 := eq_true q323
                        have p324 : 0 ≤ (x13_4 : Int) := of_decide_eq_true (by first | (with_reducible assumption) | assumption)
                        have q324 : x13_4 < (l1.length : Int) := of_decide_eq_true (by first | (with_reducible assumption) | assumption)
                        obtain ⟨ad324, e324, hx324_0, hx324_1⟩ := at_T36 HR1.out x13_4 p324 q324
                        obtain rfl : ad323 = ad324 := (by injection e324)
                        replace hx324_0 := (HB.out.cell (World.block_lt_of_cell? w _ hx324_0)).trans hx324_0
                        replace hx324_1 := (HB.out.cell (World.block_lt_of_cell? w _ hx324_1)).trans hx324_1
                        replace p324 := eq_true p324
                        replace q324 := eq_true q324
                        go_wp2
                        repeat (go_quiet (fail); try go_wp2)
                        go_roundg k4
                        case measure => have := HJ2.out; have := HK2.out; have := HK3.out; have := HK4.out; omega
                        case rel => exact ⟨(wrap64 (x13_4 + 1)), (by first | rfl | (simp; done) | (simp [*]; done)), H', ⟨by have := HJ2.out; have := HK2.out; have := HK3.out; have := HK4.out; omega⟩, ⟨by (with_reducible repeat (first | apply Kd.S_alloc | apply Kd.S_drewN | apply Kd.S_drew)); exact HO_7.out⟩, ⟨by repeat (first | (with_reducible first | exact HB.out | apply YA | apply YB | apply YC) | exact HB.out)⟩⟩
                      rw [if_neg c39] at H; have c39b0 : decide (0 ≤ ((rd_T36 l1 x13_4).f0)) = false := decide_eq_false c39; clear c39
                      have H' := YF H
                      clear H
                      have p323 : 0 ≤ (x13_4 : Int) := of_decide_eq_true (by first | (with_reducible assumption) | assumption)
                      have q323 : x13_4 < (l1.length : Int) := of_decide_eq_true (by first | (with_reducible assumption) | assumption)
                      obtain ⟨ad323, e323, hx323_0, hx323_1⟩ := at_T36 HR1.out x13_4 p323 q323
                      cases e323
                      replace hx323_0 := (HB.out.cell (World.block_lt_of_cell? w _ hx323_0)).trans hx323_0
                      replace hx323_1 := (HB.out.cell (World.block_lt_of_cell? w _ hx323_1)).trans hx323_1
                      replace p323 := eq_true p323
                      replace q323 := eq_true q323
                      have p324 : 0 ≤ (x13_4 : Int) := of_decide_eq_true (by first | (with_reducible assumption) | assumption)
                      have q324 : x13_4 < (l1.length : Int) := of_decide_eq_true (by first | (with_reducible assumption) | assumption)
                      obtain ⟨ad324, e324, hx324_0, hx324_1⟩ := at_T36 HR1.out x13_4 p324 q324
                      obtain rfl : ad323 = ad324 := (by injection e324)
                      replace hx324_0 := (HB.out.cell (World.block_lt_of_cell? w _ hx324_0)).trans hx324_0
                      replace hx324_1 := (HB.out.cell (World.block_lt_of_cell? w _ hx324_1)).trans hx324_1
                      replace p324 := eq_true p324
                      replace q324 := eq_true q324
                      go_wp2
                      repeat (go_quiet (fail); try go_wp2)
                      go_roundg k4
                      case measure => have := HJ2.out; have := HK2.out; have := HK3.out; have := HK4.out; omega
                      case rel => exact ⟨(wrap64 (x13_4 + 1)), (by first | rfl | (simp; done) | (simp [*]; done)), H', ⟨by have := HJ2.out; have := HK2.out; have := HK3.out; have := HK4.out; omega⟩, ⟨by (with_reducible repeat (first | apply Kd.S_alloc | apply Kd.S_drewN | apply Kd.S_drew)); exact HO_7.out⟩, ⟨by repeat (first | (with_reducible first | exact HB.out | apply YA | apply YB | apply YC) | exact HB.out)⟩⟩
                    rw [if_neg c37] at H
                    have c37b0 : decide (x13_4 < (l1.length : Int)) = false := decide_eq_false c37
                    clear c37; replace H := Option.bind_eq_some_iff.mp H; obtain ⟨t329, A500, H⟩ := H
                    replace H : (some t329) = some r := H
                    have A50 := YF A500; clear A500
                    obtain rfl := Option.some.inj H
                    go_wp2_with (first | (go_at_call 10; (with_reducible refine (thalweglaw25_awake.calls k4  t329 _ A50.out).mono ?_); rintro e w51 ⟨rfl, hb⟩; have n0_ := YF (Kd.S_below (by (with_reducible repeat (first | apply Kd.S_alloc | apply Kd.S_drewN | apply Kd.S_drew)); exact HO_7.out) hb); have n1_ := YF (YD (by repeat (first | (with_reducible first | exact HB.out | apply YA | apply YB | apply YC) | exact HB.out)) hb); clear HO_7; clear HB; have HO_7 := n0_; have HB := n1_; clear n0_ n1_; (try clear hb); (try clear hb2); (try clear hk); (try clear hi)))
                    repeat (go_quiet (first | (go_at_call 10; (with_reducible refine (thalweglaw25_awake.calls k4  t329 _ A50.out).mono ?_); rintro e w51 ⟨rfl, hb⟩; have n0_ := YF (Kd.S_below (by (with_reducible repeat (first | apply Kd.S_alloc | apply Kd.S_drewN | apply Kd.S_drew)); exact HO_7.out) hb); have n1_ := YF (YD (by repeat (first | (with_reducible first | exact HB.out | apply YA | apply YB | apply YC) | exact HB.out)) hb); clear HO_7; clear HB; have HO_7 := n0_; have HB := n1_; clear n0_ n1_; (try clear hb); (try clear hb2); (try clear hk); (try clear hi))); try go_wp2_with (first | (go_at_call 10; (with_reducible refine (thalweglaw25_awake.calls k4  t329 _ A50.out).mono ?_); rintro e w51 ⟨rfl, hb⟩; have n0_ := YF (Kd.S_below (by (with_reducible repeat (first | apply Kd.S_alloc | apply Kd.S_drewN | apply Kd.S_drew)); exact HO_7.out) hb); have n1_ := YF (YD (by repeat (first | (with_reducible first | exact HB.out | apply YA | apply YB | apply YC) | exact HB.out)) hb); clear HO_7; clear HB; have HO_7 := n0_; have HB := n1_; clear n0_ n1_; (try clear hb); (try clear hb2); (try clear hk); (try clear hi))))
                    go_ret
                    exact ⟨by first | rfl | (simp [errW_none, errW_some] <;> rfl) | (simp [*, errW_none, errW_some] <;> rfl), by repeat (first | (with_reducible first | exact HB.out | apply YA | apply YB | apply YC) | exact HB.out)⟩
      rw [if_neg c7] at H
      have c7b0 : (t300 == 0) = false := beq_eq_false_iff_ne.mpr c7
      have c7b1 : (t300 != 0) = true := bne_iff_ne.mpr c7
      replace H := Option.bind_eq_some_iff.mp H; obtain ⟨t303, A520, H⟩ := H
      replace H : (if t303 = true then (if a0 < 0 then (some ((t299.length : Int) == 0)) else (none)) else (none)) = some r := H
      have A52 := YF A520; clear A520
      by_cases c53 : t303 = true
      · subst c53
        have H1 : (if a0 < 0 then (some ((t299.length : Int) == 0)) else (none)) = some r := by rw [if_pos rfl] at H; exact H
        clear H
        have H := H1
        clear H1
        by_cases c54 : a0 < 0
        rotate_left
        · rw [if_neg c54] at H
          exact absurd H (by simp)
        rw [if_pos c54] at H; have c54b0 : decide (a0 < 0) = true := decide_eq_true c54; clear c54
        obtain rfl := Option.some.inj H
        go_wp2_with (first | (go_at_call 11; (with_reducible refine (graph_Parts.calls kj2 a0 _ _ l1 t299 t300 _ ?side1 ?side2 A6.out).mono ?_); (case side1 => repeat (first | exact (Kd.C_below HR1.out HB.out) | (with_reducible refine Kd.C_alloc ?_ _) | (with_reducible refine Kd.C_drewN ?_ _) | (with_reducible refine Kd.C_drew ?_))); (case side2 => exact HC1.out); rintro e w55 ⟨v301, rfl, ho0, hb⟩; have n0_ := YF (Kd.R_lower ho0 (YE (by repeat (first | (with_reducible first | exact HB.out | apply YA | apply YB | apply YC) | exact HB.out)))); have n1_ := YF (YD (by repeat (first | (with_reducible first | exact HB.out | apply YA | apply YB | apply YC) | exact HB.out)) hb); clear HB; have HO302 := n0_; have HB := n1_; clear n0_ n1_; (try clear hb); (try clear hb2); (try clear hk); (try clear hi); (try clear ho0)) | (go_at_call 10; (with_reducible refine (thalweglaw25_awake.calls kj2  true _ A52.out).mono ?_); rintro e w56 ⟨rfl, hb⟩; have n0_ := YF (Kd.R_below (by (with_reducible repeat (first | apply YG | apply YH | apply YI)); exact HO302.out) hb); have n1_ := YF (YD (by repeat (first | (with_reducible first | exact HB.out | apply YA | apply YB | apply YC) | exact HB.out)) hb); clear HO302; clear HB; have HO302 := n0_; have HB := n1_; clear n0_ n1_; (try clear hb); (try clear hb2); (try clear hk); (try clear hi); obtain ⟨Ao57, co57, eo57⟩ := Kd.R_slice HO302.out; subst eo57))
        repeat (go_quiet (first | (go_at_call 11; (with_reducible refine (graph_Parts.calls kj2 a0 _ _ l1 t299 t300 _ ?side1 ?side2 A6.out).mono ?_); (case side1 => repeat (first | exact (Kd.C_below HR1.out HB.out) | (with_reducible refine Kd.C_alloc ?_ _) | (with_reducible refine Kd.C_drewN ?_ _) | (with_reducible refine Kd.C_drew ?_))); (case side2 => exact HC1.out); rintro e w55 ⟨v301, rfl, ho0, hb⟩; have n0_ := YF (Kd.R_lower ho0 (YE (by repeat (first | (with_reducible first | exact HB.out | apply YA | apply YB | apply YC) | exact HB.out)))); have n1_ := YF (YD (by repeat (first | (with_reducible first | exact HB.out | apply YA | apply YB | apply YC) | exact HB.out)) hb); clear HB; have HO302 := n0_; have HB := n1_; clear n0_ n1_; (try clear hb); (try clear hb2); (try clear hk); (try clear hi); (try clear ho0)) | (go_at_call 10; (with_reducible refine (thalweglaw25_awake.calls kj2  true _ A52.out).mono ?_); rintro e w56 ⟨rfl, hb⟩; have n0_ := YF (Kd.R_below (by (with_reducible repeat (first | apply YG | apply YH | apply YI)); exact HO302.out) hb); have n1_ := YF (YD (by repeat (first | (with_reducible first | exact HB.out | apply YA | apply YB | apply YC) | exact HB.out)) hb); clear HO302; clear HB; have HO302 := n0_; have HB := n1_; clear n0_ n1_; (try clear hb); (try clear hb2); (try clear hk); (try clear hi); obtain ⟨Ao57, co57, eo57⟩ := Kd.R_slice HO302.out; subst eo57)); try go_wp2_with (first | (go_at_call 11; (with_reducible refine (graph_Parts.calls kj2 a0 _ _ l1 t299 t300 _ ?side1 ?side2 A6.out).mono ?_); (case side1 => repeat (first | exact (Kd.C_below HR1.out HB.out) | (with_reducible refine Kd.C_alloc ?_ _) | (with_reducible refine Kd.C_drewN ?_ _) | (with_reducible refine Kd.C_drew ?_))); (case side2 => exact HC1.out); rintro e w55 ⟨v301, rfl, ho0, hb⟩; have n0_ := YF (Kd.R_lower ho0 (YE (by repeat (first | (with_reducible first | exact HB.out | apply YA | apply YB | apply YC) | exact HB.out)))); have n1_ := YF (YD (by repeat (first | (with_reducible first | exact HB.out | apply YA | apply YB | apply YC) | exact HB.out)) hb); clear HB; have HO302 := n0_; have HB := n1_; clear n0_ n1_; (try clear hb); (try clear hb2); (try clear hk); (try clear hi); (try clear ho0)) | (go_at_call 10; (with_reducible refine (thalweglaw25_awake.calls kj2  true _ A52.out).mono ?_); rintro e w56 ⟨rfl, hb⟩; have n0_ := YF (Kd.R_below (by (with_reducible repeat (first | apply YG | apply YH | apply YI)); exact HO302.out) hb); have n1_ := YF (YD (by repeat (first | (with_reducible first | exact HB.out | apply YA | apply YB | apply YC) | exact HB.out)) hb); clear HO302; clear HB; have HO302 := n0_; have HB := n1_; clear n0_ n1_; (try clear hb); (try clear hb2); (try clear hk); (try clear hi); obtain ⟨Ao57, co57, eo57⟩ := Kd.R_slice HO302.out; subst eo57)))
        go_ret
        exact ⟨by first | rfl | (simp [errW_none, errW_some] <;> rfl) | (simp [*, errW_none, errW_some] <;> rfl), by repeat (first | (with_reducible first | exact HB.out | apply YA | apply YB | apply YC) | exact HB.out)⟩
      replace c53 := Bool.eq_false_iff.mpr c53
      subst c53
      have H1 : (none) = some r := by rw [if_neg (show ¬ (false = true) by decide)] at H; exact H
      clear H
      have H := H1
      clear H1
      exact absurd H (by simp)

end Go.Proofs.Ytbejdbgcfgllhaa.P
