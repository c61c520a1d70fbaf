-- WRITTEN BY xprint.py, a program of this session that drives the kit's printer.
import Derived.Test.YtbejdbgcfgllhaaP0
import Derived.Test.YtbejdbgcfgllhaaP5
import Derived.Test.YtbejdbgcfgllhaaP6
import Derived.Test.YtbejdbgcfgllhaaP10
namespace Go.Proofs.Ytbejdbgcfgllhaa.P
open Go.RowKit Go.Proofs.YtbejdbgcfgllhaaW.PrintWords Go.Proofs.YtbejdbgcfgllhaaW.PrintLast Go.Proofs.YtbejdbgcfgllhaaW.PrintMore
open Go.Proofs.YtbejdbgcfgllhaaW.PrintWords renaming below_alloc → YA, pw_below_drewN → YB, below_drew1 → YC, below_step → YD, below_size → YE
open Go.Proofs.YtbejdbgcfgllhaaW.PrintWords.Aside0 renaming mk → YF
open Go.Proofs.YtbejdbgcfgllhaaW.PrintWords.Kd renaming R_alloc → YG, R_drewN → YH, R_drew → YI
attribute [local go_sem] max2_int min2_int max_two min_two max_three min_three max_four min_four   -- for this text's walks alone
set_option linter.unusedVariables false
set_option linter.unusedSimpArgs false

/-! ### thalweglaw25_GraphWays: function 3 -/
mutual
def thalweglaw25_GraphWays.j0 : Nat → List Int → Int → List Int → Bool → Option (Bool)
  | 0, _, _, _, _ => none
  | k + 1, x0, x1, x7, x58 => if x58 = true then (none) else (thalweglaw25_GraphWays.l0 k x0 x1 x7 0)
def thalweglaw25_GraphWays.l0 : Nat → List Int → Int → List Int → Int → Option (Bool)
  | 0, _, _, _, _ => none
  | k + 1, x0, x1, x7, x9 => if (wrap64 (x9 + 1)) < (x7.length : Int) then (if 0 ≤ x9 then (if x9 < (x7.length : Int) then (if (rd x7 x9) < 0 then (none) else (if (rd x7 x9) ≥ (x0.length : Int) then (none) else (if 0 ≤ (rd x7 x9) then (if (rd x7 x9) < (x0.length : Int) then (if 0 ≤ (wrap64 (x9 + 1)) then (if (rd x0 (rd x7 x9)) = (rd x7 (wrap64 (x9 + 1))) then (thalweglaw25_GraphWays.l0 k x0 x1 x7 (wrap64 (x9 + 1))) else (none)) else (none)) else (none)) else (none)))) else (none)) else (none)) else ((graph_Cycle.f k x0).bind fun bt206 => (thalweglaw25_GraphWays.l1 k x0 x1 bt206.1 bt206.2 0))
def thalweglaw25_GraphWays.l1 : Nat → List Int → Int → List Int → Bool → Int → Option (Bool)
  | 0, _, _, _, _, _ => none
  | k + 1, x0, x1, x10, x11, x12 => if x12 < (x10.length : Int) then (if 0 ≤ x12 then (if (rd x10 x12) < 0 then (none) else (if (rd x10 x12) ≥ (x0.length : Int) then (none) else (if 0 ≤ (rd x10 x12) then (if (rd x10 x12) < (x0.length : Int) then (if (x10.length : Int) = 0 then (none) else (if 0 ≤ (Int.tmod (wrap64 (x12 + 1)) (x10.length : Int)) then (if (Int.tmod (wrap64 (x12 + 1)) (x10.length : Int)) < (x10.length : Int) then (if (rd x0 (rd x10 x12)) = (rd x10 (Int.tmod (wrap64 (x12 + 1)) (x10.length : Int))) then (if 0 < (x10.length : Int) then (if (rd x10 x12) < (rd x10 0) then (none) else (thalweglaw25_GraphWays.l1 k x0 x1 x10 x11 (wrap64 (x12 + 1)))) else (none)) else (none)) else (none)) else (none))) else (none)) else (none)))) else (none)) else (if x11 = true then (thalweglaw25_GraphWays.j3 k x0 x1 x10 true true) else (if x1 < 0 then (thalweglaw25_GraphWays.j3 k x0 x1 x10 false true) else (thalweglaw25_GraphWays.j3 k x0 x1 x10 false (decide (x1 ≥ (x0.length : Int))))))
def thalweglaw25_GraphWays.j3 : Nat → List Int → Int → List Int → Bool → Bool → Option (Bool)
  | 0, _, _, _, _, _ => none
  | k + 1, x0, x1, x10, x11, x158 => if x158 = true then ((thalweglaw25_awake.f k).bind fun t217 => (if t217 = true then (some (x11 == (decide ((x10.length : Int) > 0)))) else (none))) else (thalweglaw25_GraphWays.l2 k x0 x1 0 0)
def thalweglaw25_GraphWays.l2 : Nat → List Int → Int → Int → Int → Option (Bool)
  | 0, _, _, _, _ => none
  | k + 1, x0, x1, x13, x14 => if x14 < (x0.length : Int) then ((graph_Way.f k x0 x1 x14).bind fun bt218 => (if bt218.2 = true then (if 0 ≤ x14 then (if (rd x0 x14) < 0 then (thalweglaw25_GraphWays.l2 k x0 x1 (wrap64 (x13 + 1)) (wrap64 (x14 + 1))) else (if (rd x0 x14) ≥ (x0.length : Int) then (thalweglaw25_GraphWays.l2 k x0 x1 (wrap64 (x13 + 1)) (wrap64 (x14 + 1))) else (thalweglaw25_GraphWays.l2 k x0 x1 x13 (wrap64 (x14 + 1))))) else (none)) else (thalweglaw25_GraphWays.l2 k x0 x1 x13 (wrap64 (x14 + 1))))) else ((thalweglaw25_awake.f k).bind fun t224 => (if t224 = true then (some (x13 == 1)) else (none)))
end
def thalweglaw25_GraphWays.f (k : Nat) (l0 : List Int) (a1 : Int) (a2 : Int) : Option (Bool) := if (l0.length : Int) > 60 then (some true) else ((graph_Way.f k l0 a1 a2).bind fun bt195 => (if (bt195.2 != (decide ((bt195.1.length : Int) > 0))) = true then (thalweglaw25_GraphWays.j0 k l0 a1 bt195.1 true) else (if bt195.2 = true then (if 0 < (bt195.1.length : Int) then (if (rd bt195.1 0) = a1 then (if 0 ≤ (wrap64 ((bt195.1.length : Int) - 1)) then (if (wrap64 ((bt195.1.length : Int) - 1)) < (bt195.1.length : Int) then (if (rd bt195.1 (wrap64 ((bt195.1.length : Int) - 1))) = a2 then (thalweglaw25_GraphWays.j0 k l0 a1 bt195.1 (decide ((bt195.1.length : Int) > (l0.length : Int)))) else (thalweglaw25_GraphWays.j0 k l0 a1 bt195.1 true)) else (none)) else (none)) else (thalweglaw25_GraphWays.j0 k l0 a1 bt195.1 true)) else (none)) else (thalweglaw25_GraphWays.j0 k l0 a1 bt195.1 false))))
theorem thalweglaw25_GraphWays.mono_l : ∀ k, (∀ y0 y1 y2 y3, LeO (thalweglaw25_GraphWays.j0 k y0 y1 y2 y3) (thalweglaw25_GraphWays.j0 (k + 1) y0 y1 y2 y3)) ∧ (∀ y0 y1 y2 y3, LeO (thalweglaw25_GraphWays.l0 k y0 y1 y2 y3) (thalweglaw25_GraphWays.l0 (k + 1) y0 y1 y2 y3)) ∧ (∀ y0 y1 y2 y3 y4, LeO (thalweglaw25_GraphWays.l1 k y0 y1 y2 y3 y4) (thalweglaw25_GraphWays.l1 (k + 1) y0 y1 y2 y3 y4)) ∧ (∀ y0 y1 y2 y3 y4, LeO (thalweglaw25_GraphWays.j3 k y0 y1 y2 y3 y4) (thalweglaw25_GraphWays.j3 (k + 1) y0 y1 y2 y3 y4)) ∧ (∀ y0 y1 y2 y3, LeO (thalweglaw25_GraphWays.l2 k y0 y1 y2 y3) (thalweglaw25_GraphWays.l2 (k + 1) y0 y1 y2 y3))
  | 0 => ⟨fun _ _ _ _ r h => by simp [thalweglaw25_GraphWays.j0] at h, fun _ _ _ _ r h => by simp [thalweglaw25_GraphWays.l0] at h, fun _ _ _ _ _ r h => by simp [thalweglaw25_GraphWays.l1] at h, fun _ _ _ _ _ r h => by simp [thalweglaw25_GraphWays.j3] at h, fun _ _ _ _ r h => by simp [thalweglaw25_GraphWays.l2] at h⟩
  | k + 1 => by
    obtain ⟨ih0, ih1, ih2, ih3, ih4⟩ := thalweglaw25_GraphWays.mono_l k
    refine ⟨?_, ?_, ?_, ?_, ?_⟩
    · intro y0 y1 y2 y3
      unfold thalweglaw25_GraphWays.j0
      repeat' first
      | (with_reducible exact ih0 _ _ _ _)
      | (with_reducible exact ih1 _ _ _ _)
      | (with_reducible exact ih2 _ _ _ _ _)
      | (with_reducible exact ih3 _ _ _ _ _)
      | (with_reducible exact ih4 _ _ _ _)
      | (with_reducible exact graph_Cycle.mono _ _)
      | (with_reducible exact graph_Way.mono _ _ _ _)
      | (with_reducible exact thalweglaw25_awake.mono _)
      | (with_reducible exact LeO.refl _)
      | (with_reducible exact LeO.none _)
      | (with_reducible refine LeO.ite ?_ ?_)
      | (with_reducible refine LeO.bind ?_ (fun _ => ?_))
      | exact ih0 _ _ _ _
      | exact ih1 _ _ _ _
      | exact ih2 _ _ _ _ _
      | exact ih3 _ _ _ _ _
      | exact ih4 _ _ _ _
      | exact graph_Cycle.mono _ _
      | exact graph_Way.mono _ _ _ _
      | exact thalweglaw25_awake.mono _
      | exact LeO.none _
      | refine LeO.ite ?_ ?_
      | refine LeO.bind ?_ (fun _ => ?_)
    · intro y0 y1 y2 y3
      unfold thalweglaw25_GraphWays.l0
      repeat' first
      | (with_reducible exact ih0 _ _ _ _)
      | (with_reducible exact ih1 _ _ _ _)
      | (with_reducible exact ih2 _ _ _ _ _)
      | (with_reducible exact ih3 _ _ _ _ _)
      | (with_reducible exact ih4 _ _ _ _)
      | (with_reducible exact graph_Cycle.mono _ _)
      | (with_reducible exact graph_Way.mono _ _ _ _)
      | (with_reducible exact thalweglaw25_awake.mono _)
      | (with_reducible exact LeO.refl _)
      | (with_reducible exact LeO.none _)
      | (with_reducible refine LeO.ite ?_ ?_)
      | (with_reducible refine LeO.bind ?_ (fun _ => ?_))
      | exact ih0 _ _ _ _
      | exact ih1 _ _ _ _
      | exact ih2 _ _ _ _ _
      | exact ih3 _ _ _ _ _
      | exact ih4 _ _ _ _
      | exact graph_Cycle.mono _ _
      | exact graph_Way.mono _ _ _ _
      | exact thalweglaw25_awake.mono _
      | exact LeO.none _
      | refine LeO.ite ?_ ?_
      | refine LeO.bind ?_ (fun _ => ?_)
    · intro y0 y1 y2 y3 y4
      unfold thalweglaw25_GraphWays.l1
      repeat' first
      | (with_reducible exact ih0 _ _ _ _)
      | (with_reducible exact ih1 _ _ _ _)
      | (with_reducible exact ih2 _ _ _ _ _)
      | (with_reducible exact ih3 _ _ _ _ _)
      | (with_reducible exact ih4 _ _ _ _)
      | (with_reducible exact graph_Cycle.mono _ _)
      | (with_reducible exact graph_Way.mono _ _ _ _)
      | (with_reducible exact thalweglaw25_awake.mono _)
      | (with_reducible exact LeO.refl _)
      | (with_reducible exact LeO.none _)
      | (with_reducible refine LeO.ite ?_ ?_)
      | (with_reducible refine LeO.bind ?_ (fun _ => ?_))
      | exact ih0 _ _ _ _
      | exact ih1 _ _ _ _
      | exact ih2 _ _ _ _ _
      | exact ih3 _ _ _ _ _
      | exact ih4 _ _ _ _
      | exact graph_Cycle.mono _ _
      | exact graph_Way.mono _ _ _ _
      | exact thalweglaw25_awake.mono _
      | exact LeO.none _
      | refine LeO.ite ?_ ?_
      | refine LeO.bind ?_ (fun _ => ?_)
    · intro y0 y1 y2 y3 y4
      unfold thalweglaw25_GraphWays.j3
      repeat' first
      | (with_reducible exact ih0 _ _ _ _)
      | (with_reducible exact ih1 _ _ _ _)
      | (with_reducible exact ih2 _ _ _ _ _)
      | (with_reducible exact ih3 _ _ _ _ _)
      | (with_reducible exact ih4 _ _ _ _)
      | (with_reducible exact graph_Cycle.mono _ _)
      | (with_reducible exact graph_Way.mono _ _ _ _)
      | (with_reducible exact thalweglaw25_awake.mono _)
      | (with_reducible exact LeO.refl _)
      | (with_reducible exact LeO.none _)
      | (with_reducible refine LeO.ite ?_ ?_)
      | (with_reducible refine LeO.bind ?_ (fun _ => ?_))
      | exact ih0 _ _ _ _
      | exact ih1 _ _ _ _
      | exact ih2 _ _ _ _ _
      | exact ih3 _ _ _ _ _
      | exact ih4 _ _ _ _
      | exact graph_Cycle.mono _ _
      | exact graph_Way.mono _ _ _ _
      | exact thalweglaw25_awake.mono _
      | exact LeO.none _
      | refine LeO.ite ?_ ?_
      | refine LeO.bind ?_ (fun _ => ?_)
    intro y0 y1 y2 y3
    unfold thalweglaw25_GraphWays.l2
    repeat' first
    | (with_reducible exact ih0 _ _ _ _)
    | (with_reducible exact ih1 _ _ _ _)
    | (with_reducible exact ih2 _ _ _ _ _)
    | (with_reducible exact ih3 _ _ _ _ _)
    | (with_reducible exact ih4 _ _ _ _)
    | (with_reducible exact graph_Cycle.mono _ _)
    | (with_reducible exact graph_Way.mono _ _ _ _)
    | (with_reducible exact thalweglaw25_awake.mono _)
    | (with_reducible exact LeO.refl _)
    | (with_reducible exact LeO.none _)
    | (with_reducible refine LeO.ite ?_ ?_)
    | (with_reducible refine LeO.bind ?_ (fun _ => ?_))
    | exact ih0 _ _ _ _
    | exact ih1 _ _ _ _
    | exact ih2 _ _ _ _ _
    | exact ih3 _ _ _ _ _
    | exact ih4 _ _ _ _
    | exact graph_Cycle.mono _ _
    | exact graph_Way.mono _ _ _ _
    | exact thalweglaw25_awake.mono _
    | exact LeO.none _
    | refine LeO.ite ?_ ?_
    | refine LeO.bind ?_ (fun _ => ?_)
theorem thalweglaw25_GraphWays.mono : ∀ a0 a1 a2 k, LeO (thalweglaw25_GraphWays.f k a0 a1 a2) (thalweglaw25_GraphWays.f (k + 1) a0 a1 a2) := by
  intro a0 a1 a2 k
  obtain ⟨ih0, ih1, ih2, ih3, ih4⟩ := thalweglaw25_GraphWays.mono_l k
  unfold thalweglaw25_GraphWays.f
  repeat' first
      | (with_reducible exact ih0 _ _ _ _)
      | (with_reducible exact ih1 _ _ _ _)
      | (with_reducible exact ih2 _ _ _ _ _)
      | (with_reducible exact ih3 _ _ _ _ _)
      | (with_reducible exact ih4 _ _ _ _)
      | (with_reducible exact graph_Cycle.mono _ _)
      | (with_reducible exact graph_Way.mono _ _ _ _)
      | (with_reducible exact thalweglaw25_awake.mono _)
      | (with_reducible exact LeO.refl _)
      | (with_reducible exact LeO.none _)
      | (with_reducible refine LeO.ite ?_ ?_)
      | (with_reducible refine LeO.bind ?_ (fun _ => ?_))
      | exact ih0 _ _ _ _
      | exact ih1 _ _ _ _
      | exact ih2 _ _ _ _ _
      | exact ih3 _ _ _ _ _
      | exact ih4 _ _ _ _
      | exact graph_Cycle.mono _ _
      | exact graph_Way.mono _ _ _ _
      | exact thalweglaw25_awake.mono _
      | exact LeO.none _
      | refine LeO.ite ?_ ?_
      | refine LeO.bind ?_ (fun _ => ?_)
set_option maxHeartbeats 8000000 in
set_option maxRecDepth 100000 in
theorem thalweglaw25_GraphWays.calls (k : Nat) (A0 : Option Addr) (c0 : Nat) (l0 : List Int) (a1 : Int) (a2 : Int) (r : Bool) (w : World) (hr0 : Kd.C (Kd.int .i64) w A0 l0.length l0) (hc0 : l0.length ≤ c0) (h : thalweglaw25_GraphWays.f k l0 a1 a2 = some r) :
    Calls Try.prog 3 #[.slice A0 l0.length c0, .int .i64 a1, .int .i64 a2] w fun e w' => e = .returned (.bool r) ∧ Below w.heap.size w w' := by
  have HR0 := YF hr0; have HC0 := YF hc0; clear hr0 hc0
  have HB := YF (Below.refl w.heap.size w)
  have H : (if (l0.length : Int) > 60 then (some true) else ((graph_Way.f k l0 a1 a2).bind fun bt195 => (if (bt195.2 != (decide ((bt195.1.length : Int) > 0))) = true then (thalweglaw25_GraphWays.j0 k l0 a1 bt195.1 true) else (if bt195.2 = true then (if 0 < (bt195.1.length : Int) then (if (rd bt195.1 0) = a1 then (if 0 ≤ (wrap64 ((bt195.1.length : Int) - 1)) then (if (wrap64 ((bt195.1.length : Int) - 1)) < (bt195.1.length : Int) then (if (rd bt195.1 (wrap64 ((bt195.1.length : Int) - 1))) = a2 then (thalweglaw25_GraphWays.j0 k l0 a1 bt195.1 (decide ((bt195.1.length : Int) > (l0.length : Int)))) else (thalweglaw25_GraphWays.j0 k l0 a1 bt195.1 true)) else (none)) else (none)) else (thalweglaw25_GraphWays.j0 k l0 a1 bt195.1 true)) else (none)) else (thalweglaw25_GraphWays.j0 k l0 a1 bt195.1 false))))) = some r := h
  clear h
  by_cases c4 : (l0.length : Int) > 60
  · rw [if_pos c4] at H
    have c4b0 : decide (60 < (l0.length : Int)) = true := decide_eq_true c4
    have c4b1 : decide (60 < l0.length) = true := decide_eq_true (by omega)
    clear c4
    obtain rfl := Option.some.inj H
    go_enter Try.func3, Try.ntmps3
    go_wp2
    repeat (go_quiet (fail); try go_wp2)
    go_ret
    exact ⟨by first | rfl | (simp [errW_none, errW_some] <;> rfl) | (simp [*, errW_none, errW_some] <;> rfl), by repeat (first | (with_reducible first | exact HB.out | apply YA | apply YB | apply YC) | exact HB.out)⟩
  rw [if_neg c4] at H
  have c4b0 : decide (60 < (l0.length : Int)) = false := decide_eq_false c4
  have c4b1 : decide (60 < l0.length) = false := decide_eq_false (by omega)
  clear c4; replace H := Option.bind_eq_some_iff.mp H
  obtain ⟨⟨t195, t196⟩, A50, H⟩ := H
  replace H : (if (t196 != (decide ((t195.length : Int) > 0))) = true then (thalweglaw25_GraphWays.j0 k l0 a1 t195 true) else (if t196 = true then (if 0 < (t195.length : Int) then (if (rd t195 0) = a1 then (if 0 ≤ (wrap64 ((t195.length : Int) - 1)) then (if (wrap64 ((t195.length : Int) - 1)) < (t195.length : Int) then (if (rd t195 (wrap64 ((t195.length : Int) - 1))) = a2 then (thalweglaw25_GraphWays.j0 k l0 a1 t195 (decide ((t195.length : Int) > (l0.length : Int)))) else (thalweglaw25_GraphWays.j0 k l0 a1 t195 true)) else (none)) else (none)) else (thalweglaw25_GraphWays.j0 k l0 a1 t195 true)) else (none)) else (thalweglaw25_GraphWays.j0 k l0 a1 t195 false))) = some r := H
  have A5 := YF A50; clear A50; have HC6 := YF H; clear H
  go_enter Try.func3, Try.ntmps3
  go_upto_region 4 with (first | (go_at_call 8; (with_reducible refine (graph_Way.calls k _ _ l0 a1 a2 t195 t196 _ ?side1 ?side2 A5.out).mono ?_); (case side1 => repeat (first | exact HR0.out | (with_reducible refine Kd.C_alloc ?_ _) | (with_reducible refine Kd.C_drewN ?_ _) | (with_reducible refine Kd.C_drew ?_))); (case side2 => exact HC0.out); rintro e w7 ⟨v197, rfl, ho0, hb⟩; have n0_ := YF (Kd.R_lower ho0 (YE (by repeat (first | (with_reducible first | exact HB.out | apply YA | apply YB | apply YC) | exact HB.out)))); have n1_ := YF (YD (by repeat (first | (with_reducible first | exact HB.out | apply YA | apply YB | apply YC) | exact HB.out)) hb); clear HB; have HO198 := n0_; have HB := n1_; clear n0_ n1_; (try clear hb); (try clear hb2); (try clear hk); (try clear hi); (try clear ho0)))
  repeat (go_quiet (first | (go_at_call 8; (with_reducible refine (graph_Way.calls k _ _ l0 a1 a2 t195 t196 _ ?side1 ?side2 A5.out).mono ?_); (case side1 => repeat (first | exact HR0.out | (with_reducible refine Kd.C_alloc ?_ _) | (with_reducible refine Kd.C_drewN ?_ _) | (with_reducible refine Kd.C_drew ?_))); (case side2 => exact HC0.out); rintro e w7 ⟨v197, rfl, ho0, hb⟩; have n0_ := YF (Kd.R_lower ho0 (YE (by repeat (first | (with_reducible first | exact HB.out | apply YA | apply YB | apply YC) | exact HB.out)))); have n1_ := YF (YD (by repeat (first | (with_reducible first | exact HB.out | apply YA | apply YB | apply YC) | exact HB.out)) hb); clear HB; have HO198 := n0_; have HB := n1_; clear n0_ n1_; (try clear hb); (try clear hb2); (try clear hk); (try clear hi); (try clear ho0))); go_upto_region 4 with (first | (go_at_call 8; (with_reducible refine (graph_Way.calls k _ _ l0 a1 a2 t195 t196 _ ?side1 ?side2 A5.out).mono ?_); (case side1 => repeat (first | exact HR0.out | (with_reducible refine Kd.C_alloc ?_ _) | (with_reducible refine Kd.C_drewN ?_ _) | (with_reducible refine Kd.C_drew ?_))); (case side2 => exact HC0.out); rintro e w7 ⟨v197, rfl, ho0, hb⟩; have n0_ := YF (Kd.R_lower ho0 (YE (by repeat (first | (with_reducible first | exact HB.out | apply YA | apply YB | apply YC) | exact HB.out)))); have n1_ := YF (YD (by repeat (first | (with_reducible first | exact HB.out | apply YA | apply YB | apply YC) | exact HB.out)) hb); clear HB; have HO198 := n0_; have HB := n1_; clear n0_ n1_; (try clear hb); (try clear hb2); (try clear hk); (try clear hi); (try clear ho0))))
  (try simp only [Act.put, List.setIfInBounds_toArray, List.set_cons_zero, List.set_cons_succ])
  go_cut [58] (fun v58 wc => ∃ (kq : Nat) (x58_5 : Bool), v58 = .bool x58_5 ∧ Aside0 (thalweglaw25_GraphWays.j0 kq l0 a1 t195 x58_5 = some r) ∧ Aside0 (kq ≤ k) ∧ Aside0 (Kd.R (Kd.int .i64) 3 wc w.heap.size (fun _ => True) v197 t195) ∧ Aside0 (Below w.heap.size w wc))
  case first =>
    have H := HC6.out
    clear HC6
    by_cases c8 : (t196 != (decide ((t195.length : Int) > 0))) = true
    · rw [if_pos c8] at H
      have c8b0 : (t196 != (decide ((t195.length : Int) > 0))) = true := c8
      (try (have c8b1 : decide (t196 = (decide ((t195.length : Int) > 0))) = false := by simpa using c8))
      (try (have c8b2 : (t196 == (decide ((t195.length : Int) > 0))) = false := by simpa using c8))
      (try (have c8b3 : ¬ (t196 = (decide ((t195.length : Int) > 0))) := by simpa using c8))
      exact absurd H (by cases k <;> simp [thalweglaw25_GraphWays.j0]) -- FIX25
    rw [if_neg c8] at H
    have c8b0 : (t196 != (decide ((t195.length : Int) > 0))) = false := by simpa using c8
    (try (have c8b1 : decide (t196 = (decide ((t195.length : Int) > 0))) = true := by simpa using c8))
    (try (have c8b2 : (t196 == (decide ((t195.length : Int) > 0))) = true := by simpa using c8))
    clear c8
    (first | rw [c8b0] | (simp only [i64_w, i32_w]; rw [c8b0]) | rw [c8b1] | skip)
    by_cases c10 : t196 = true
    · subst c10
      have H1 : (if 0 < (t195.length : Int) then (if (rd t195 0) = a1 then (if 0 ≤ (wrap64 ((t195.length : Int) - 1)) then (if (wrap64 ((t195.length : Int) - 1)) < (t195.length : Int) then (if (rd t195 (wrap64 ((t195.length : Int) - 1))) = a2 then (thalweglaw25_GraphWays.j0 k l0 a1 t195 (decide ((t195.length : Int) > (l0.length : Int)))) else (thalweglaw25_GraphWays.j0 k l0 a1 t195 true)) else (none)) else (none)) else (thalweglaw25_GraphWays.j0 k l0 a1 t195 true)) else (none)) = some r := by rw [if_pos rfl] at H; exact H
      clear H
      have H := H1
      clear H1
      by_cases c11 : 0 < (t195.length : Int)
      rotate_left
      · rw [if_neg c11] at H
        exact absurd H (by simp)
      rw [if_pos c11] at H
      have c11b0 : decide (0 < (t195.length : Int)) = true := decide_eq_true c11
      have c11b1 : decide (0 < t195.length) = true := decide_eq_true (by omega)
      clear c11
      by_cases c12 : (rd t195 0) = a1
      · rw [if_pos c12] at H
        have c12b0 : ((rd t195 0) == a1) = true := beq_iff_eq.mpr c12
        have c12b1 : ((rd t195 0) != a1) = false := bne_eq_false_iff_eq.mpr c12
        clear c12
        obtain ⟨ji13, hji13⟩ : ∃ j_ : Int, (wrap64 ((t195.length : Int) - 1)) = j_ := ⟨_, rfl⟩
        replace H : (if 0 ≤ (ji13) then (if (ji13) < (t195.length : Int) then (if (rd t195 (ji13)) = a2 then (thalweglaw25_GraphWays.j0 k l0 a1 t195 (decide ((t195.length : Int) > (l0.length : Int)))) else (thalweglaw25_GraphWays.j0 k l0 a1 t195 true)) else (none)) else (none)) = some r := by first | (rw [hji13] at H; exact H) | (simp only [hji13] at H ⊢; exact H)
        have hji13w : (IntKind.i64.wrap ((t195.length : Int) - 1)) = ji13 := (i64_w _).trans hji13
        by_cases c14 : 0 ≤ (ji13)
        rotate_left
        · rw [if_neg c14] at H
          exact absurd H (by simp)
        rw [if_pos c14] at H; have c14b0 : decide (0 ≤ (ji13)) = true := decide_eq_true c14; clear c14
        by_cases c15 : (ji13) < (t195.length : Int)
        rotate_left
        · rw [if_neg c15] at H
          exact absurd H (by simp)
        rw [if_pos c15] at H
        have c15b0 : decide ((ji13) < (t195.length : Int)) = true := decide_eq_true c15
        clear c15
        by_cases c16 : (rd t195 (ji13)) = a2
        · rw [if_pos c16] at H
          have c16b0 : ((rd t195 (ji13)) == a2) = true := beq_iff_eq.mpr c16
          have c16b1 : ((rd t195 (ji13)) != a2) = false := bne_eq_false_iff_eq.mpr c16
          clear c16
          have H' := YF H
          clear H
          obtain ⟨Ao17, co17, eo17⟩ := Kd.R_slice HO198.out
          subst eo17
          have p199 : 0 ≤ (0 : Int) := (by omega)
          have q199 : 0 < (t195.length : Int) := of_decide_eq_true (by first | (with_reducible assumption) | assumption)
          obtain ⟨ad199, e199, hx199_0⟩ := Kd.at_int (Kd.R_reads' HO198.out).2.2 0 p199 q199
          cases e199
          have qi199 : (0 < t195.length) = True := eq_true (by omega)
          (try rw [show ((0 : Int)).toNat = 0 from rfl] at hx199_0)
          (try rw [Addr.add_zero'] at hx199_0)
          replace p199 := eq_true p199
          replace q199 := eq_true q199
          have p200 : 0 ≤ ((ji13) : Int) := of_decide_eq_true (by first | (with_reducible assumption) | assumption)
          have q200 : (ji13) < (t195.length : Int) := of_decide_eq_true (by first | (with_reducible assumption) | assumption)
          obtain ⟨ad200, e200, hx200_0⟩ := Kd.at_int (Kd.R_reads' HO198.out).2.2 (ji13) p200 q200
          obtain rfl : ad199 = ad200 := (by injection e200)
          replace p200 := eq_true p200
          replace q200 := eq_true q200
          go_wp2
          repeat (go_quiet (fail); try go_wp2)
          go_meet
          case rel => exact ⟨_, (decide ((t195.length : Int) > (l0.length : Int))), (by first | rfl | (simp; done) | (simp [*]; done)), H', ⟨by first | omega | exact Nat.le_refl _⟩, ⟨by (with_reducible repeat (first | apply YG | apply YH | apply YI)); exact HO198.out⟩, ⟨by repeat (first | (with_reducible first | exact HB.out | apply YA | apply YB | apply YC) | exact HB.out)⟩⟩
        rw [if_neg c16] at H
        have c16b0 : ((rd t195 (ji13)) == a2) = false := beq_eq_false_iff_ne.mpr c16
        have c16b1 : ((rd t195 (ji13)) != a2) = true := bne_iff_ne.mpr c16
        have H' := YF H
        clear H
        obtain ⟨Ao18, co18, eo18⟩ := Kd.R_slice HO198.out
        subst eo18
        have p199 : 0 ≤ (0 : Int) := (by omega)
        have q199 : 0 < (t195.length : Int) := of_decide_eq_true (by first | (with_reducible assumption) | assumption)
        obtain ⟨ad199, e199, hx199_0⟩ := Kd.at_int (Kd.R_reads' HO198.out).2.2 0 p199 q199
        cases e199
        have qi199 : (0 < t195.length) = True := eq_true (by omega)
        (try rw [show ((0 : Int)).toNat = 0 from rfl] at hx199_0)
        (try rw [Addr.add_zero'] at hx199_0)
        replace p199 := eq_true p199
        replace q199 := eq_true q199
        have p200 : 0 ≤ ((ji13) : Int) := of_decide_eq_true (by first | (with_reducible assumption) | assumption)
        have q200 : (ji13) < (t195.length : Int) := of_decide_eq_true (by first | (with_reducible assumption) | assumption)
        obtain ⟨ad200, e200, hx200_0⟩ := Kd.at_int (Kd.R_reads' HO198.out).2.2 (ji13) p200 q200
        obtain rfl : ad199 = ad200 := (by injection e200)
        replace p200 := eq_true p200
        replace q200 := eq_true q200
        go_wp2
        repeat (go_quiet (fail); try go_wp2)
        go_meet
        case rel => exact ⟨_, (true), (by first | rfl | (simp; done) | (simp [*]; done)), H', ⟨by first | omega | exact Nat.le_refl _⟩, ⟨by (with_reducible repeat (first | apply YG | apply YH | apply YI)); exact HO198.out⟩, ⟨by repeat (first | (with_reducible first | exact HB.out | apply YA | apply YB | apply YC) | exact HB.out)⟩⟩
      rw [if_neg c12] at H
      have c12b0 : ((rd t195 0) == a1) = false := beq_eq_false_iff_ne.mpr c12
      have c12b1 : ((rd t195 0) != a1) = true := bne_iff_ne.mpr c12
      have H' := YF H
      clear H
      obtain ⟨Ao19, co19, eo19⟩ := Kd.R_slice HO198.out
      subst eo19
      have p199 : 0 ≤ (0 : Int) := (by omega)
      have q199 : 0 < (t195.length : Int) := of_decide_eq_true (by first | (with_reducible assumption) | assumption)
      obtain ⟨ad199, e199, hx199_0⟩ := Kd.at_int (Kd.R_reads' HO198.out).2.2 0 p199 q199
      cases e199
      have qi199 : (0 < t195.length) = True := eq_true (by omega)
      (try rw [show ((0 : Int)).toNat = 0 from rfl] at hx199_0)
      (try rw [Addr.add_zero'] at hx199_0)
      replace p199 := eq_true p199
      replace q199 := eq_true q199
      go_wp2
      repeat (go_quiet (fail); try go_wp2)
      go_meet
      case rel => exact ⟨_, (true), (by first | rfl | (simp; done) | (simp [*]; done)), H', ⟨by first | omega | exact Nat.le_refl _⟩, ⟨by (with_reducible repeat (first | apply YG | apply YH | apply YI)); exact HO198.out⟩, ⟨by repeat (first | (with_reducible first | exact HB.out | apply YA | apply YB | apply YC) | exact HB.out)⟩⟩
    replace c10 := Bool.eq_false_iff.mpr c10
    subst c10
    have H1 : (thalweglaw25_GraphWays.j0 k l0 a1 t195 false) = some r := by rw [if_neg (show ¬ (false = true) by decide)] at H; exact H
    clear H
    have H := H1
    clear H1
    have H' := YF H
    clear H
    have hz : t195 = [] := List.eq_nil_of_length_eq_zero (by
      rcases Nat.eq_zero_or_pos t195.length with h | h
      · exact h
      · rw [decide_eq_true (show (t195.length : Int) > 0 by omega)] at c8b0
        cases c8b0)
    subst hz
    obtain ⟨Ao20, co20, eo20⟩ := Kd.R_slice HO198.out
    subst eo20
    go_wp2
    repeat (go_quiet (fail); try go_wp2)
    go_meet
    case rel => exact ⟨_, (false), (by first | rfl | (simp; done) | (simp [*]; done)), H', ⟨by first | omega | exact Nat.le_refl _⟩, ⟨by (with_reducible repeat (first | apply YG | apply YH | apply YI)); exact HO198.out⟩, ⟨by repeat (first | (with_reducible first | exact HB.out | apply YA | apply YB | apply YC) | exact HB.out)⟩⟩
  case rest =>
    clear HC6
    try clear c1
    try clear p1
    try clear q1
    try clear hx1
    try clear qi1
    try clear p2
    try clear q2
    try clear hx2
    try clear c3
    try clear c4
    try clear c4b0
    try clear c4b1
    try clear p6
    try clear c8
    try clear c8b0
    try clear c8b1
    try clear c8b2
    try clear c10
    try clear c11
    try clear c11b0
    try clear c11b1
    try clear c12
    try clear c12b0
    try clear c12b1
    try clear c14
    try clear c14b0
    try clear c15
    try clear c15b0
    try clear c16
    try clear c16b0
    try clear c16b1
    try clear p19
    try clear q19
    try clear hx19
    try clear qi19
    try clear p20
    try clear q20
    try clear hx20
    try clear hx199_0
    try clear hx200_0
    try clear p199
    try clear p200
    try clear q199
    try clear q200
    obtain ⟨kq, x58_5, rfl, HA, HJ5, HO_7, HB⟩ := hcut
    cases kq with
    | zero => exact absurd HA.out (by simp [thalweglaw25_GraphWays.j0])
    | succ kj5 =>
      have H := HA.out
      clear HA
      simp only [thalweglaw25_GraphWays.j0] at H
      by_cases c21 : x58_5 = true
      · subst c21
        have H1 : (none) = some r := by rw [if_pos rfl] at H; exact H
        clear H
        have H := H1
        clear H1
        exact absurd H (by simp)
      replace c21 := Bool.eq_false_iff.mpr c21
      subst c21
      have H1 : (thalweglaw25_GraphWays.l0 kj5 l0 a1 t195 0) = some r := by rw [if_neg (show ¬ (false = true) by decide)] at H; exact H
      clear H
      have H := H1
      clear H1
      have H' := YF H
      clear H
      go_wp2
      repeat (go_quiet (fail); try go_wp2)
      go_loopg [9] kj5 (fun kq v9 w' => ∃ (x9_2 : Int), v9 = .int .i64 x9_2 ∧ Aside0 (thalweglaw25_GraphWays.l0 kq l0 a1 t195 x9_2 = some r) ∧ Aside0 (kq ≤ kj5) ∧ Aside0 (Kd.R (Kd.int .i64) 3 w' w.heap.size (fun _ => True) v197 t195) ∧ Aside0 (Below w.heap.size w w'))
      case atStart => exact ⟨(0), (by first | rfl | (simp; done) | (simp [*]; done)), H', ⟨Nat.le_refl _⟩, ⟨by (with_reducible repeat (first | apply YG | apply YH | apply YI)); exact HO_7.out⟩, ⟨by repeat (first | (with_reducible first | exact HB.out | apply YA | apply YB | apply YC) | exact HB.out)⟩⟩
      case round =>
        clear H'
        try clear c1
        try clear p1
        try clear q1
        try clear hx1
        try clear qi1
        try clear c2
        try clear p2
        try clear q2
        try clear hx2
        try clear c3
        try clear c4
        try clear c4b0
        try clear c4b1
        try clear p6
        try clear c8
        try clear c8b0
        try clear c8b1
        try clear c8b2
        try clear c10
        try clear c11
        try clear c11b0
        try clear c11b1
        try clear c12
        try clear c12b0
        try clear c12b1
        try clear c14
        try clear c14b0
        try clear c15
        try clear c15b0
        try clear c16
        try clear c16b0
        try clear c16b1
        try clear p19
        try clear q19
        try clear hx19
        try clear qi19
        try clear p20
        try clear q20
        try clear hx20
        try clear c21
        try clear hx199_0
        try clear hx200_0
        try clear p1
        try clear p19
        try clear p199
        try clear p2
        try clear p20
        try clear p200
        try clear p6
        try clear q1
        try clear q19
        try clear q199
        try clear q2
        try clear q20
        try clear q200
        obtain ⟨x9_2, rfl, HA, HK2, HO_7, HB⟩ := hrel
        cases gk with
        | zero => exact absurd HA.out (by simp [thalweglaw25_GraphWays.l0])
        | succ k2 =>
          have H := HA.out
          clear HA
          simp only [thalweglaw25_GraphWays.l0] at H
          by_cases c22 : (wrap64 (x9_2 + 1)) < (t195.length : Int)
          · rw [if_pos c22] at H
            have c22b0 : decide ((wrap64 (x9_2 + 1)) < (t195.length : Int)) = true := decide_eq_true c22
            clear c22
            by_cases c23 : 0 ≤ x9_2
            rotate_left
            · rw [if_neg c23] at H
              exact absurd H (by simp)
            rw [if_pos c23] at H; have c23b0 : decide (0 ≤ x9_2) = true := decide_eq_true c23; clear c23
            by_cases c24 : x9_2 < (t195.length : Int)
            rotate_left
            · rw [if_neg c24] at H
              exact absurd H (by simp)
            rw [if_pos c24] at H
            have c24b0 : decide (x9_2 < (t195.length : Int)) = true := decide_eq_true c24
            clear c24
            by_cases c25 : (rd t195 x9_2) < 0
            · rw [if_pos c25] at H
              exact absurd H (by simp)
            rw [if_neg c25] at H; have c25b0 : decide ((rd t195 x9_2) < 0) = false := decide_eq_false c25; clear c25
            by_cases c26 : (rd t195 x9_2) ≥ (l0.length : Int)
            · rw [if_pos c26] at H
              exact absurd H (by simp)
            rw [if_neg c26] at H
            have c26b0 : decide ((l0.length : Int) ≤ (rd t195 x9_2)) = false := decide_eq_false c26
            clear c26
            by_cases c27 : 0 ≤ (rd t195 x9_2)
            rotate_left
            · rw [if_neg c27] at H
              exact absurd H (by simp)
            rw [if_pos c27] at H; have c27b0 : decide (0 ≤ (rd t195 x9_2)) = true := decide_eq_true c27; clear c27
            by_cases c28 : (rd t195 x9_2) < (l0.length : Int)
            rotate_left
            · rw [if_neg c28] at H
              exact absurd H (by simp)
            rw [if_pos c28] at H
            have c28b0 : decide ((rd t195 x9_2) < (l0.length : Int)) = true := decide_eq_true c28
            clear c28
            obtain ⟨ji29, hji29⟩ : ∃ j_ : Int, (wrap64 (x9_2 + 1)) = j_ := ⟨_, rfl⟩
            replace H : (if 0 ≤ (ji29) then (if (rd l0 (rd t195 x9_2)) = (rd t195 (ji29)) then (thalweglaw25_GraphWays.l0 k2 l0 a1 t195 ji29) else (none)) else (none)) = some r := by first | (rw [hji29] at H; exact H) | (simp only [hji29] at H ⊢; exact H)
            (try rw [hji29] at c22b0)
            have hji29w : (IntKind.i64.wrap (x9_2 + 1)) = ji29 := (i64_w _).trans hji29
            by_cases c30 : 0 ≤ (ji29)
            rotate_left
            · rw [if_neg c30] at H
              exact absurd H (by simp)
            rw [if_pos c30] at H; have c30b0 : decide (0 ≤ (ji29)) = true := decide_eq_true c30; clear c30
            by_cases c31 : (rd l0 (rd t195 x9_2)) = (rd t195 (ji29))
            rotate_left
            · rw [if_neg c31] at H
              exact absurd H (by simp)
            rw [if_pos c31] at H
            have c31b0 : ((rd l0 (rd t195 x9_2)) == (rd t195 (ji29))) = true := beq_iff_eq.mpr c31
            have c31b1 : ((rd l0 (rd t195 x9_2)) != (rd t195 (ji29))) = false := bne_eq_false_iff_eq.mpr c31
            clear c31
            have H' := YF H
            clear H
            obtain ⟨Ao32, co32, eo32⟩ := Kd.R_slice HO_7.out
            subst eo32
            have p201 : 0 ≤ (x9_2 : Int) := of_decide_eq_true (by first | (with_reducible assumption) | assumption)
            have q201 : x9_2 < (t195.length : Int) := of_decide_eq_true (by first | (with_reducible assumption) | assumption)
            obtain ⟨ad201, e201, hx201_0⟩ := Kd.at_int (Kd.R_reads' HO_7.out).2.2 x9_2 p201 q201
            cases e201
            replace p201 := eq_true p201
            replace q201 := eq_true q201
            have p202 : 0 ≤ (x9_2 : Int) := of_decide_eq_true (by first | (with_reducible assumption) | assumption)
            have q202 : x9_2 < (t195.length : Int) := of_decide_eq_true (by first | (with_reducible assumption) | assumption)
            obtain ⟨ad202, e202, hx202_0⟩ := Kd.at_int (Kd.R_reads' HO_7.out).2.2 x9_2 p202 q202
            obtain rfl : ad201 = ad202 := (by injection e202)
            replace p202 := eq_true p202
            replace q202 := eq_true q202
            have p203 : 0 ≤ (x9_2 : Int) := of_decide_eq_true (by first | (with_reducible assumption) | assumption)
            have q203 : x9_2 < (t195.length : Int) := of_decide_eq_true (by first | (with_reducible assumption) | assumption)
            obtain ⟨ad203, e203, hx203_0⟩ := Kd.at_int (Kd.R_reads' HO_7.out).2.2 x9_2 p203 q203
            obtain rfl : ad201 = ad203 := (by injection e203)
            replace p203 := eq_true p203
            replace q203 := eq_true q203
            have p204 : 0 ≤ ((rd t195 x9_2) : Int) := of_decide_eq_true (by first | (with_reducible assumption) | assumption)
            have q204 : (rd t195 x9_2) < (l0.length : Int) := of_decide_eq_true (by first | (with_reducible assumption) | assumption)
            obtain ⟨ad204, e204, hx204_0⟩ := Kd.at_int HR0.out (rd t195 x9_2) p204 q204
            cases e204
            replace hx204_0 := (HB.out.cell (World.block_lt_of_cell? w _ hx204_0)).trans hx204_0
            replace p204 := eq_true p204
            replace q204 := eq_true q204
            have p205 : 0 ≤ ((ji29) : Int) := of_decide_eq_true (by first | (with_reducible assumption) | assumption)
            have q205 : (ji29) < (t195.length : Int) := of_decide_eq_true (by first | (with_reducible assumption) | assumption)
            obtain ⟨ad205, e205, hx205_0⟩ := Kd.at_int (Kd.R_reads' HO_7.out).2.2 (ji29) p205 q205
            obtain rfl : ad201 = ad205 := (by injection e205)
            replace p205 := eq_true p205
            replace q205 := eq_true q205
            go_wp2
            repeat (go_quiet (fail); try go_wp2)
            go_roundg k2
            case measure => have := HJ5.out; have := HK2.out; omega
            case rel => exact ⟨(ji29), (by first | rfl | (simp; done) | (simp only [← hji29] <;> (first | rfl | simp)) | (simp [*]; done)), H', ⟨by have := HJ5.out; have := HK2.out; omega⟩, ⟨by (with_reducible repeat (first | apply YG | apply YH | apply YI)); exact HO_7.out⟩, ⟨by repeat (first | (with_reducible first | exact HB.out | apply YA | apply YB | apply YC) | exact HB.out)⟩⟩
          rw [if_neg c22] at H
          have c22b0 : decide ((wrap64 (x9_2 + 1)) < (t195.length : Int)) = false := decide_eq_false c22
          clear c22; replace H := Option.bind_eq_some_iff.mp H
          obtain ⟨⟨t206, t207⟩, A330, H⟩ := H
          replace H : (thalweglaw25_GraphWays.l1 k2 l0 a1 t206 t207 0) = some r := H
          have A33 := YF A330; clear A330
          have H' := YF H
          clear H
          obtain ⟨Ao34, co34, eo34⟩ := Kd.R_slice HO_7.out
          subst eo34
          go_wp2_with (first | (go_at_call 9; (with_reducible refine (graph_Cycle.calls k2 _ _ l0 t206 t207 _ ?side1 ?side2 A33.out).mono ?_); (case side1 => repeat (first | exact (Kd.C_below HR0.out HB.out) | (with_reducible refine Kd.C_alloc ?_ _) | (with_reducible refine Kd.C_drewN ?_ _) | (with_reducible refine Kd.C_drew ?_))); (case side2 => exact HC0.out); rintro e w35 ⟨v208, rfl, ho0, hb⟩; have n0_ := YF (Kd.R_elder' (by (with_reducible repeat (first | apply YG | apply YH | apply YI)); exact HO_7.out) (Kd.R_base ho0) hb); have n1_ := YF (Kd.R_lower (Kd.R_new' ho0 (Kd.R_lt (by (with_reducible repeat (first | apply YG | apply YH | apply YI)); exact HO_7.out))) (YE (by repeat (first | (with_reducible first | exact HB.out | apply YA | apply YB | apply YC) | exact HB.out)))); have n2_ := YF (YD (by repeat (first | (with_reducible first | exact HB.out | apply YA | apply YB | apply YC) | exact HB.out)) hb); clear HO_7; clear HB; have HO_7 := n0_; have HO209 := n1_; have HB := n2_; clear n0_ n1_ n2_; (try clear hb); (try clear hb2); (try clear hk); (try clear hi); (try clear ho0)))
          repeat (go_quiet (first | (go_at_call 9; (with_reducible refine (graph_Cycle.calls k2 _ _ l0 t206 t207 _ ?side1 ?side2 A33.out).mono ?_); (case side1 => repeat (first | exact (Kd.C_below HR0.out HB.out) | (with_reducible refine Kd.C_alloc ?_ _) | (with_reducible refine Kd.C_drewN ?_ _) | (with_reducible refine Kd.C_drew ?_))); (case side2 => exact HC0.out); rintro e w35 ⟨v208, rfl, ho0, hb⟩; have n0_ := YF (Kd.R_elder' (by (with_reducible repeat (first | apply YG | apply YH | apply YI)); exact HO_7.out) (Kd.R_base ho0) hb); have n1_ := YF (Kd.R_lower (Kd.R_new' ho0 (Kd.R_lt (by (with_reducible repeat (first | apply YG | apply YH | apply YI)); exact HO_7.out))) (YE (by repeat (first | (with_reducible first | exact HB.out | apply YA | apply YB | apply YC) | exact HB.out)))); have n2_ := YF (YD (by repeat (first | (with_reducible first | exact HB.out | apply YA | apply YB | apply YC) | exact HB.out)) hb); clear HO_7; clear HB; have HO_7 := n0_; have HO209 := n1_; have HB := n2_; clear n0_ n1_ n2_; (try clear hb); (try clear hb2); (try clear hk); (try clear hi); (try clear ho0))); try go_wp2_with (first | (go_at_call 9; (with_reducible refine (graph_Cycle.calls k2 _ _ l0 t206 t207 _ ?side1 ?side2 A33.out).mono ?_); (case side1 => repeat (first | exact (Kd.C_below HR0.out HB.out) | (with_reducible refine Kd.C_alloc ?_ _) | (with_reducible refine Kd.C_drewN ?_ _) | (with_reducible refine Kd.C_drew ?_))); (case side2 => exact HC0.out); rintro e w35 ⟨v208, rfl, ho0, hb⟩; have n0_ := YF (Kd.R_elder' (by (with_reducible repeat (first | apply YG | apply YH | apply YI)); exact HO_7.out) (Kd.R_base ho0) hb); have n1_ := YF (Kd.R_lower (Kd.R_new' ho0 (Kd.R_lt (by (with_reducible repeat (first | apply YG | apply YH | apply YI)); exact HO_7.out))) (YE (by repeat (first | (with_reducible first | exact HB.out | apply YA | apply YB | apply YC) | exact HB.out)))); have n2_ := YF (YD (by repeat (first | (with_reducible first | exact HB.out | apply YA | apply YB | apply YC) | exact HB.out)) hb); clear HO_7; clear HB; have HO_7 := n0_; have HO209 := n1_; have HB := n2_; clear n0_ n1_ n2_; (try clear hb); (try clear hb2); (try clear hk); (try clear hi); (try clear ho0))))
          go_loopg [12] k2 (fun kq v12 w' => ∃ (x12_3 : Int), v12 = .int .i64 x12_3 ∧ Aside0 (thalweglaw25_GraphWays.l1 kq l0 a1 t206 t207 x12_3 = some r) ∧ Aside0 (kq ≤ k2) ∧ Aside0 (Kd.R (Kd.int .i64) 3 w' w.heap.size (fun _ => True) v208 t206) ∧ Aside0 (Below w.heap.size w w'))
          case atStart => exact ⟨(0), (by first | rfl | (simp; done) | (simp [*]; done)), H', ⟨Nat.le_refl _⟩, ⟨by (with_reducible repeat (first | apply YG | apply YH | apply YI)); exact Kd.R_mono HO209.out (fun _ hk => trivial)⟩, ⟨by repeat (first | (with_reducible first | exact HB.out | apply YA | apply YB | apply YC) | exact HB.out)⟩⟩
          case round =>
            clear H'
            try clear c1
            try clear p1
            try clear q1
            try clear hx1
            try clear qi1
            try clear c2
            try clear p2
            try clear q2
            try clear hx2
            try clear c3
            try clear c4
            try clear c4b0
            try clear c4b1
            try clear p6
            try clear c8
            try clear c8b0
            try clear c8b1
            try clear c8b2
            try clear c10
            try clear c11
            try clear c11b0
            try clear c11b1
            try clear c12
            try clear c12b0
            try clear c12b1
            try clear c14
            try clear c14b0
            try clear c15
            try clear c15b0
            try clear c16
            try clear c16b0
            try clear c16b1
            try clear p19
            try clear q19
            try clear hx19
            try clear qi19
            try clear p20
            try clear q20
            try clear hx20
            try clear c21
            try clear c22
            try clear c22b0
            try clear c23
            try clear c23b0
            try clear c24
            try clear c24b0
            try clear c25
            try clear c25b0
            try clear c26
            try clear c26b0
            try clear c27
            try clear c27b0
            try clear c28
            try clear c28b0
            try clear c30
            try clear c30b0
            try clear c31
            try clear c31b0
            try clear c31b1
            try clear hx199_0
            try clear hx200_0
            try clear hx201_0
            try clear hx202_0
            try clear hx203_0
            try clear hx204_0
            try clear hx205_0
            try clear p1
            try clear p19
            try clear p199
            try clear p2
            try clear p20
            try clear p200
            try clear p201
            try clear p202
            try clear p203
            try clear p204
            try clear p205
            try clear p6
            try clear q1
            try clear q19
            try clear q199
            try clear q2
            try clear q20
            try clear q200
            try clear q201
            try clear q202
            try clear q203
            try clear q204
            try clear q205
            obtain ⟨x12_3, rfl, HA, HK3, HO_10, HB⟩ := hrel
            cases gk with
            | zero => exact absurd HA.out (by simp [thalweglaw25_GraphWays.l1])
            | succ k3 =>
              have H := HA.out
              clear HA
              simp only [thalweglaw25_GraphWays.l1] at H
              by_cases c36 : x12_3 < (t206.length : Int)
              · rw [if_pos c36] at H
                have c36b0 : decide (x12_3 < (t206.length : Int)) = true := decide_eq_true c36
                clear c36
                by_cases c37 : 0 ≤ x12_3
                rotate_left
                · rw [if_neg c37] at H
                  exact absurd H (by simp)
                rw [if_pos c37] at H; have c37b0 : decide (0 ≤ x12_3) = true := decide_eq_true c37; clear c37
                by_cases c38 : (rd t206 x12_3) < 0
                · rw [if_pos c38] at H
                  exact absurd H (by simp)
                rw [if_neg c38] at H; have c38b0 : decide ((rd t206 x12_3) < 0) = false := decide_eq_false c38; clear c38
                by_cases c39 : (rd t206 x12_3) ≥ (l0.length : Int)
                · rw [if_pos c39] at H
                  exact absurd H (by simp)
                rw [if_neg c39] at H
                have c39b0 : decide ((l0.length : Int) ≤ (rd t206 x12_3)) = false := decide_eq_false c39
                clear c39
                by_cases c40 : 0 ≤ (rd t206 x12_3)
                rotate_left
                · rw [if_neg c40] at H
                  exact absurd H (by simp)
                rw [if_pos c40] at H; have c40b0 : decide (0 ≤ (rd t206 x12_3)) = true := decide_eq_true c40; clear c40
                by_cases c41 : (rd t206 x12_3) < (l0.length : Int)
                rotate_left
                · rw [if_neg c41] at H
                  exact absurd H (by simp)
                rw [if_pos c41] at H
                have c41b0 : decide ((rd t206 x12_3) < (l0.length : Int)) = true := decide_eq_true c41
                clear c41
                by_cases c42 : (t206.length : Int) = 0
                · rw [if_pos c42] at H
                  exact absurd H (by simp)
                rw [if_neg c42] at H
                have c42b0 : ((t206.length : Int) == 0) = false := beq_eq_false_iff_ne.mpr c42
                have c42b1 : ((t206.length : Int) != 0) = true := bne_iff_ne.mpr c42
                have c42b2 : ¬ (t206 = []) := fun h_ => c42 (by rw [h_]; rfl)
                obtain ⟨ji43, hji43⟩ : ∃ j_ : Int, (Int.tmod (wrap64 (x12_3 + 1)) (t206.length : Int)) = j_ := ⟨_, rfl⟩
                replace H : (if 0 ≤ (ji43) then (if (ji43) < (t206.length : Int) then (if (rd l0 (rd t206 x12_3)) = (rd t206 (ji43)) then (if 0 < (t206.length : Int) then (if (rd t206 x12_3) < (rd t206 0) then (none) else (thalweglaw25_GraphWays.l1 k3 l0 a1 t206 t207 (wrap64 (x12_3 + 1)))) else (none)) else (none)) else (none)) else (none)) = some r := by first | (rw [hji43] at H; exact H) | (simp only [hji43] at H ⊢; exact H)
                by_cases c44 : 0 ≤ (ji43)
                rotate_left
                · rw [if_neg c44] at H
                  exact absurd H (by simp)
                rw [if_pos c44] at H; have c44b0 : decide (0 ≤ (ji43)) = true := decide_eq_true c44; clear c44
                by_cases c45 : (ji43) < (t206.length : Int)
                rotate_left
                · rw [if_neg c45] at H
                  exact absurd H (by simp)
                rw [if_pos c45] at H
                have c45b0 : decide ((ji43) < (t206.length : Int)) = true := decide_eq_true c45
                clear c45
                by_cases c46 : (rd l0 (rd t206 x12_3)) = (rd t206 (ji43))
                rotate_left
                · rw [if_neg c46] at H
                  exact absurd H (by simp)
                rw [if_pos c46] at H
                have c46b0 : ((rd l0 (rd t206 x12_3)) == (rd t206 (ji43))) = true := beq_iff_eq.mpr c46
                have c46b1 : ((rd l0 (rd t206 x12_3)) != (rd t206 (ji43))) = false := bne_eq_false_iff_eq.mpr c46
                clear c46
                by_cases c47 : 0 < (t206.length : Int)
                rotate_left
                · rw [if_neg c47] at H
                  exact absurd H (by simp)
                rw [if_pos c47] at H
                have c47b0 : decide (0 < (t206.length : Int)) = true := decide_eq_true c47
                have c47b1 : decide (0 < t206.length) = true := decide_eq_true (by omega)
                clear c47
                by_cases c48 : (rd t206 x12_3) < (rd t206 0)
                · rw [if_pos c48] at H
                  exact absurd H (by simp)
                rw [if_neg c48] at H; have c48b0 : decide ((rd t206 x12_3) < (rd t206 0)) = false := decide_eq_false c48; clear c48
                have H' := YF H
                clear H
                obtain ⟨Ao49, co49, eo49⟩ := Kd.R_slice HO_10.out
                subst eo49
                have p210 : 0 ≤ (x12_3 : Int) := of_decide_eq_true (by first | (with_reducible assumption) | assumption)
                have q210 : x12_3 < (t206.length : Int) := of_decide_eq_true (by first | (with_reducible assumption) | assumption)
                obtain ⟨ad210, e210, hx210_0⟩ := Kd.at_int (Kd.R_reads' HO_10.out).2.2 x12_3 p210 q210
                cases e210
                replace p210 := eq_true p210
                replace q210 := eq_true q210
                have p211 : 0 ≤ (x12_3 : Int) := of_decide_eq_true (by first | (with_reducible assumption) | assumption)
                have q211 : x12_3 < (t206.length : Int) := of_decide_eq_true (by first | (with_reducible assumption) | assumption)
                obtain ⟨ad211, e211, hx211_0⟩ := Kd.at_int (Kd.R_reads' HO_10.out).2.2 x12_3 p211 q211
                obtain rfl : ad210 = ad211 := (by injection e211)
                replace p211 := eq_true p211
                replace q211 := eq_true q211
                have p212 : 0 ≤ (x12_3 : Int) := of_decide_eq_true (by first | (with_reducible assumption) | assumption)
                have q212 : x12_3 < (t206.length : Int) := of_decide_eq_true (by first | (with_reducible assumption) | assumption)
                obtain ⟨ad212, e212, hx212_0⟩ := Kd.at_int (Kd.R_reads' HO_10.out).2.2 x12_3 p212 q212
                obtain rfl : ad210 = ad212 := (by injection e212)
                replace p212 := eq_true p212
                replace q212 := eq_true q212
                have p213 : 0 ≤ ((rd t206 x12_3) : Int) := of_decide_eq_true (by first | (with_reducible assumption) | assumption)
                have q213 : (rd t206 x12_3) < (l0.length : Int) := of_decide_eq_true (by first | (with_reducible assumption) | assumption)
                obtain ⟨ad213, e213, hx213_0⟩ := Kd.at_int HR0.out (rd t206 x12_3) p213 q213
                cases e213
                replace hx213_0 := (HB.out.cell (World.block_lt_of_cell? w _ hx213_0)).trans hx213_0
                replace p213 := eq_true p213
                replace q213 := eq_true q213
                have p214 : 0 ≤ ((ji43) : Int) := of_decide_eq_true (by first | (with_reducible assumption) | assumption)
                have q214 : (ji43) < (t206.length : Int) := of_decide_eq_true (by first | (with_reducible assumption) | assumption)
                obtain ⟨ad214, e214, hx214_0⟩ := Kd.at_int (Kd.R_reads' HO_10.out).2.2 (ji43) p214 q214
                obtain rfl : ad210 = ad214 := (by injection e214)
                replace p214 := eq_true p214
                replace q214 := eq_true q214
                have p215 : 0 ≤ (x12_3 : Int) := of_decide_eq_true (by first | (with_reducible assumption) | assumption)
                have q215 : x12_3 < (t206.length : Int) := of_decide_eq_true (by first | (with_reducible assumption) | assumption)
                obtain ⟨ad215, e215, hx215_0⟩ := Kd.at_int (Kd.R_reads' HO_10.out).2.2 x12_3 p215 q215
                obtain rfl : ad210 = ad215 := (by injection e215)
                replace p215 := eq_true p215
                replace q215 := eq_true q215
                have p216 : 0 ≤ (0 : Int) := (by omega)
                have q216 : 0 < (t206.length : Int) := of_decide_eq_true (by first | (with_reducible assumption) | assumption)
                obtain ⟨ad216, e216, hx216_0⟩ := Kd.at_int (Kd.R_reads' HO_10.out).2.2 0 p216 q216
                obtain rfl : ad210 = ad216 := (by injection e216)
                have qi216 : (0 < t206.length) = True := eq_true (by omega)
                (try rw [show ((0 : Int)).toNat = 0 from rfl] at hx216_0)
                (try rw [Addr.add_zero'] at hx216_0)
                replace p216 := eq_true p216
                replace q216 := eq_true q216
                go_wp2
                repeat (go_quiet (fail); try go_wp2)
                go_roundg k3
                case measure => have := HJ5.out; have := HK2.out; have := HK3.out; omega
                case rel => exact ⟨(wrap64 (x12_3 + 1)), (by first | rfl | (simp; done) | (simp [*]; done)), H', ⟨by have := HJ5.out; have := HK2.out; have := HK3.out; omega⟩, ⟨by (with_reducible repeat (first | apply YG | apply YH | apply YI)); exact HO_10.out⟩, ⟨by repeat (first | (with_reducible first | exact HB.out | apply YA | apply YB | apply YC) | exact HB.out)⟩⟩
              rw [if_neg c36] at H
              have c36b0 : decide (x12_3 < (t206.length : Int)) = false := decide_eq_false c36
              clear c36; have HC50 := YF H; clear H
              obtain ⟨Ao51, co51, eo51⟩ := Kd.R_slice HO_10.out
              subst eo51
              go_upto_region 17 with (fail)
              repeat (go_quiet (fail); go_upto_region 17 with (fail))
              go_cut [158] (fun v158 wc => ∃ (kq : Nat) (x158_49 : Bool), v158 = .bool x158_49 ∧ Aside0 (thalweglaw25_GraphWays.j3 kq l0 a1 t206 t207 x158_49 = some r) ∧ Aside0 (kq ≤ k3) ∧ Aside0 (Kd.R (Kd.int .i64) 3 wc w.heap.size (fun _ => True) (.slice Ao51 t206.length co51) t206) ∧ Aside0 (Below w.heap.size w wc))
              case first =>
                have H := HC50.out
                clear HC50
                by_cases c52 : t207 = true
                · subst c52
                  have H1 : (thalweglaw25_GraphWays.j3 k3 l0 a1 t206 true true) = some r := by rw [if_pos rfl] at H; exact H
                  clear H
                  have H := H1
                  clear H1
                  have H' := YF H
                  clear H
                  go_wp2
                  repeat (go_quiet (fail); try go_wp2)
                  go_meet
                  case rel => exact ⟨_, (true), (by first | rfl | (simp; done) | (simp [*]; done)), H', ⟨by have := HJ5.out; have := HK2.out; have := HK3.out; first | omega | exact Nat.le_refl _⟩, ⟨by (with_reducible repeat (first | apply YG | apply YH | apply YI)); exact HO_10.out⟩, ⟨by repeat (first | (with_reducible first | exact HB.out | apply YA | apply YB | apply YC) | exact HB.out)⟩⟩
                replace c52 := Bool.eq_false_iff.mpr c52
                subst c52
                have H1 : (if a1 < 0 then (thalweglaw25_GraphWays.j3 k3 l0 a1 t206 false true) else (thalweglaw25_GraphWays.j3 k3 l0 a1 t206 false (decide (a1 ≥ (l0.length : Int))))) = some r := by rw [if_neg (show ¬ (false = true) by decide)] at H; exact H
                clear H
                have H := H1
                clear H1
                by_cases c53 : a1 < 0
                · rw [if_pos c53] at H
                  have c53b0 : decide (a1 < 0) = true := decide_eq_true c53; clear c53
                  (first | rw [c53b0] | (simp only [i64_w, i32_w]; rw [c53b0]) | rw [c53b1] | skip)
                  have H' := YF H
                  clear H
                  go_wp2
                  repeat (go_quiet (fail); try go_wp2)
                  go_meet
                  case rel => exact ⟨_, (true), (by first | rfl | (simp; done) | (simp [*]; done)), H', ⟨by have := HJ5.out; have := HK2.out; have := HK3.out; first | omega | exact Nat.le_refl _⟩, ⟨by (with_reducible repeat (first | apply YG | apply YH | apply YI)); exact HO_10.out⟩, ⟨by repeat (first | (with_reducible first | exact HB.out | apply YA | apply YB | apply YC) | exact HB.out)⟩⟩
                rw [if_neg c53] at H; have c53b0 : decide (a1 < 0) = false := decide_eq_false c53; clear c53
                (first | rw [c53b0] | (simp only [i64_w, i32_w]; rw [c53b0]) | rw [c53b1] | skip)
                have H' := YF H
                clear H
                go_wp2
                repeat (go_quiet (fail); try go_wp2)
                go_meet
                case rel => exact ⟨_, (decide (a1 ≥ (l0.length : Int))), (by first | rfl | (simp; done) | (simp [*]; done)), H', ⟨by have := HJ5.out; have := HK2.out; have := HK3.out; first | omega | exact Nat.le_refl _⟩, ⟨by (with_reducible repeat (first | apply YG | apply YH | apply YI)); exact HO_10.out⟩, ⟨by repeat (first | (with_reducible first | exact HB.out | apply YA | apply YB | apply YC) | exact HB.out)⟩⟩
              case rest =>
                clear HC50
                try clear c1
                try clear p1
                try clear q1
                try clear hx1
                try clear qi1
                try clear c2
                try clear p2
                try clear q2
                try clear hx2
                try clear qi2
                try clear c3
                try clear c4
                try clear c4b0
                try clear c4b1
                try clear c5
                try clear p6
                try clear c8
                try clear c8b0
                try clear c8b1
                try clear c8b2
                try clear c10
                try clear c11
                try clear c11b0
                try clear c11b1
                try clear c12
                try clear c12b0
                try clear c12b1
                try clear c14
                try clear c14b0
                try clear c15
                try clear c15b0
                try clear c16
                try clear c16b0
                try clear c16b1
                try clear p19
                try clear q19
                try clear hx19
                try clear qi19
                try clear p20
                try clear q20
                try clear hx20
                try clear c21
                try clear p21
                try clear q21
                try clear hx21
                try clear qi21
                try clear c22
                try clear c22b0
                try clear c23
                try clear c23b0
                try clear c24
                try clear c24b0
                try clear c25
                try clear c25b0
                try clear c26
                try clear c26b0
                try clear c27
                try clear c27b0
                try clear c28
                try clear c28b0
                try clear c30
                try clear c30b0
                try clear c31
                try clear c31b0
                try clear c31b1
                try clear c36
                try clear c36b0
                try clear c37
                try clear c37b0
                try clear c38
                try clear c38b0
                try clear c39
                try clear c39b0
                try clear c40
                try clear c40b0
                try clear c41
                try clear c41b0
                try clear c42
                try clear c42b0
                try clear c42b1
                try clear c42b2
                try clear c44
                try clear c44b0
                try clear c45
                try clear c45b0
                try clear c46
                try clear c46b0
                try clear c46b1
                try clear c47
                try clear c47b0
                try clear c47b1
                try clear c48
                try clear c48b0
                try clear c52
                try clear c53
                try clear c53b0
                try clear hx199_0
                try clear hx200_0
                try clear hx201_0
                try clear hx202_0
                try clear hx203_0
                try clear hx204_0
                try clear hx205_0
                try clear hx210_0
                try clear hx211_0
                try clear hx212_0
                try clear hx213_0
                try clear hx214_0
                try clear hx215_0
                try clear hx216_0
                try clear p1
                try clear p19
                try clear p199
                try clear p2
                try clear p20
                try clear p200
                try clear p201
                try clear p202
                try clear p203
                try clear p204
                try clear p205
                try clear p210
                try clear p211
                try clear p212
                try clear p213
                try clear p214
                try clear p215
                try clear p216
                try clear p6
                try clear q1
                try clear q19
                try clear q199
                try clear q2
                try clear q20
                try clear q200
                try clear q201
                try clear q202
                try clear q203
                try clear q204
                try clear q205
                try clear q210
                try clear q211
                try clear q212
                try clear q213
                try clear q214
                try clear q215
                try clear q216
                obtain ⟨kq, x158_49, rfl, HA, HJ49, HO_10, HB⟩ := hcut
                cases kq with
                | zero => exact absurd HA.out (by simp [thalweglaw25_GraphWays.j3])
                | succ kj49 =>
                  have H := HA.out
                  clear HA
                  simp only [thalweglaw25_GraphWays.j3] at H
                  by_cases c54 : x158_49 = true
                  · subst c54
                    have H1 : ((thalweglaw25_awake.f kj49).bind fun t217 => (if t217 = true then (some (t207 == (decide ((t206.length : Int) > 0)))) else (none))) = some r := by rw [if_pos rfl] at H; exact H
                    clear H
                    have H := H1
                    clear H1; replace H := Option.bind_eq_some_iff.mp H; obtain ⟨t217, A550, H⟩ := H
                    replace H : (if t217 = true then (some (t207 == (decide ((t206.length : Int) > 0)))) else (none)) = some r := H
                    have A55 := YF A550; clear A550
                    by_cases c56 : t217 = true
                    · subst c56
                      have H1 : (some (t207 == (decide ((t206.length : Int) > 0)))) = some r := by rw [if_pos rfl] at H; exact H
                      clear H
                      have H := H1
                      clear H1
                      obtain rfl := Option.some.inj H
                      go_wp2_with (first | (go_at_call 10; (with_reducible refine (thalweglaw25_awake.calls kj49  true _ A55.out).mono ?_); rintro e w57 ⟨rfl, hb⟩; have n0_ := YF (Kd.R_below (by (with_reducible repeat (first | apply YG | apply YH | apply YI)); exact HO_10.out) hb); have n1_ := YF (YD (by repeat (first | (with_reducible first | exact HB.out | apply YA | apply YB | apply YC) | exact HB.out)) hb); clear HO_10; clear HB; have HO_10 := n0_; have HB := n1_; clear n0_ n1_; (try clear hb); (try clear hb2); (try clear hk); (try clear hi)))
                      repeat (go_quiet (first | (go_at_call 10; (with_reducible refine (thalweglaw25_awake.calls kj49  true _ A55.out).mono ?_); rintro e w57 ⟨rfl, hb⟩; have n0_ := YF (Kd.R_below (by (with_reducible repeat (first | apply YG | apply YH | apply YI)); exact HO_10.out) hb); have n1_ := YF (YD (by repeat (first | (with_reducible first | exact HB.out | apply YA | apply YB | apply YC) | exact HB.out)) hb); clear HO_10; clear HB; have HO_10 := n0_; have HB := n1_; clear n0_ n1_; (try clear hb); (try clear hb2); (try clear hk); (try clear hi))); try go_wp2_with (first | (go_at_call 10; (with_reducible refine (thalweglaw25_awake.calls kj49  true _ A55.out).mono ?_); rintro e w57 ⟨rfl, hb⟩; have n0_ := YF (Kd.R_below (by (with_reducible repeat (first | apply YG | apply YH | apply YI)); exact HO_10.out) hb); have n1_ := YF (YD (by repeat (first | (with_reducible first | exact HB.out | apply YA | apply YB | apply YC) | exact HB.out)) hb); clear HO_10; clear HB; have HO_10 := n0_; have HB := n1_; clear n0_ n1_; (try clear hb); (try clear hb2); (try clear hk); (try clear hi))))
                      go_ret
                      exact ⟨by first | rfl | (simp [errW_none, errW_some] <;> rfl) | (simp [*, errW_none, errW_some] <;> rfl), by repeat (first | (with_reducible first | exact HB.out | apply YA | apply YB | apply YC) | exact HB.out)⟩
                    replace c56 := Bool.eq_false_iff.mpr c56
                    subst c56
                    have H1 : (none) = some r := by rw [if_neg (show ¬ (false = true) by decide)] at H; exact H
                    clear H
                    have H := H1
                    clear H1
                    exact absurd H (by simp)
                  replace c54 := Bool.eq_false_iff.mpr c54
                  subst c54
                  have H1 : (thalweglaw25_GraphWays.l2 kj49 l0 a1 0 0) = some r := by rw [if_neg (show ¬ (false = true) by decide)] at H; exact H
                  clear H
                  have H := H1
                  clear H1
                  have H' := YF H
                  clear H
                  go_wp2
                  repeat (go_quiet (fail); try go_wp2)
                  go_loopg [13, 14] kj49 (fun kq v13 v14 w' => ∃ (x13_5 : Int) (x14_5 : Int), v13 = .int .i64 x13_5 ∧ v14 = .int .i64 x14_5 ∧ Aside0 (thalweglaw25_GraphWays.l2 kq l0 a1 x13_5 x14_5 = some r) ∧ Aside0 (kq ≤ kj49) ∧ Aside0 (Below w.heap.size w w'))
                  case atStart => exact ⟨(0), (0), (by first | rfl | (simp; done) | (simp [*]; done)), (by first | rfl | (simp; done) | (simp [*]; done)), H', ⟨Nat.le_refl _⟩, ⟨by repeat (first | (with_reducible first | exact HB.out | apply YA | apply YB | apply YC) | exact HB.out)⟩⟩
                  case round =>
                    clear H'
                    try clear c1
                    try clear p1
                    try clear q1
                    try clear hx1
                    try clear qi1
                    try clear c2
                    try clear p2
                    try clear q2
                    try clear hx2
                    try clear qi2
                    try clear c3
                    try clear c4
                    try clear c4b0
                    try clear c4b1
                    try clear c5
                    try clear p6
                    try clear c8
                    try clear c8b0
                    try clear c8b1
                    try clear c8b2
                    try clear c10
                    try clear c11
                    try clear c11b0
                    try clear c11b1
                    try clear c12
                    try clear c12b0
                    try clear c12b1
                    try clear c14
                    try clear c14b0
                    try clear c15
                    try clear c15b0
                    try clear c16
                    try clear c16b0
                    try clear c16b1
                    try clear p19
                    try clear q19
                    try clear hx19
                    try clear qi19
                    try clear p20
                    try clear q20
                    try clear hx20
                    try clear c21
                    try clear p21
                    try clear q21
                    try clear hx21
                    try clear qi21
                    try clear c22
                    try clear c22b0
                    try clear c23
                    try clear c23b0
                    try clear c24
                    try clear c24b0
                    try clear c25
                    try clear c25b0
                    try clear c26
                    try clear c26b0
                    try clear c27
                    try clear c27b0
                    try clear c28
                    try clear c28b0
                    try clear c30
                    try clear c30b0
                    try clear c31
                    try clear c31b0
                    try clear c31b1
                    try clear c36
                    try clear c36b0
                    try clear c37
                    try clear c37b0
                    try clear c38
                    try clear c38b0
                    try clear c39
                    try clear c39b0
                    try clear c40
                    try clear c40b0
                    try clear c41
                    try clear c41b0
                    try clear c42
                    try clear c42b0
                    try clear c42b1
                    try clear c42b2
                    try clear c44
                    try clear c44b0
                    try clear c45
                    try clear c45b0
                    try clear c46
                    try clear c46b0
                    try clear c46b1
                    try clear c47
                    try clear c47b0
                    try clear c47b1
                    try clear c48
                    try clear c48b0
                    try clear c52
                    try clear c53
                    try clear c53b0
                    try clear c54
                    try clear c56
                    try clear hx199_0
                    try clear hx200_0
                    try clear hx201_0
                    try clear hx202_0
                    try clear hx203_0
                    try clear hx204_0
                    try clear hx205_0
                    try clear hx210_0
                    try clear hx211_0
                    try clear hx212_0
                    try clear hx213_0
                    try clear hx214_0
                    try clear hx215_0
                    try clear hx216_0
                    try clear p1
                    try clear p19
                    try clear p199
                    try clear p2
                    try clear p20
                    try clear p200
                    try clear p201
                    try clear p202
                    try clear p203
                    try clear p204
                    try clear p205
                    try clear p21
                    try clear p210
                    try clear p211
                    try clear p212
                    try clear p213
                    try clear p214
                    try clear p215
                    try clear p216
                    try clear p6
                    try clear q1
                    try clear q19
                    try clear q199
                    try clear q2
                    try clear q20
                    try clear q200
                    try clear q201
                    try clear q202
                    try clear q203
                    try clear q204
                    try clear q205
                    try clear q21
                    try clear q210
                    try clear q211
                    try clear q212
                    try clear q213
                    try clear q214
                    try clear q215
                    try clear q216
                    obtain ⟨x13_5, x14_5, rfl, rfl, HA, HK5, HB⟩ := hrel
                    cases gk with
                    | zero => exact absurd HA.out (by simp [thalweglaw25_GraphWays.l2])
                    | succ k5 =>
                      have H := HA.out
                      clear HA
                      simp only [thalweglaw25_GraphWays.l2] at H
                      by_cases c58 : x14_5 < (l0.length : Int)
                      · rw [if_pos c58] at H
                        have c58b0 : decide (x14_5 < (l0.length : Int)) = true := decide_eq_true c58
                        clear c58; replace H := Option.bind_eq_some_iff.mp H
                        obtain ⟨⟨t218, t219⟩, A590, H⟩ := H
                        replace H : (if t219 = true then (if 0 ≤ x14_5 then (if (rd l0 x14_5) < 0 then (thalweglaw25_GraphWays.l2 k5 l0 a1 (wrap64 (x13_5 + 1)) (wrap64 (x14_5 + 1))) else (if (rd l0 x14_5) ≥ (l0.length : Int) then (thalweglaw25_GraphWays.l2 k5 l0 a1 (wrap64 (x13_5 + 1)) (wrap64 (x14_5 + 1))) else (thalweglaw25_GraphWays.l2 k5 l0 a1 x13_5 (wrap64 (x14_5 + 1))))) else (none)) else (thalweglaw25_GraphWays.l2 k5 l0 a1 x13_5 (wrap64 (x14_5 + 1)))) = some r := H
                        have A59 := YF A590; clear A590
                        by_cases c60 : t219 = true
                        · subst c60
                          have H1 : (if 0 ≤ x14_5 then (if (rd l0 x14_5) < 0 then (thalweglaw25_GraphWays.l2 k5 l0 a1 (wrap64 (x13_5 + 1)) (wrap64 (x14_5 + 1))) else (if (rd l0 x14_5) ≥ (l0.length : Int) then (thalweglaw25_GraphWays.l2 k5 l0 a1 (wrap64 (x13_5 + 1)) (wrap64 (x14_5 + 1))) else (thalweglaw25_GraphWays.l2 k5 l0 a1 x13_5 (wrap64 (x14_5 + 1))))) else (none)) = some r := by rw [if_pos rfl] at H; exact H
                          clear H
                          have H := H1
                          clear H1
                          by_cases c61 : 0 ≤ x14_5
                          rotate_left
                          · rw [if_neg c61] at H
                            exact absurd H (by simp)
                          rw [if_pos c61] at H; have c61b0 : decide (0 ≤ x14_5) = true := decide_eq_true c61; clear c61
                          by_cases c62 : (rd l0 x14_5) < 0
                          · rw [if_pos c62] at H
                            have c62b0 : decide ((rd l0 x14_5) < 0) = true := decide_eq_true c62; clear c62
                            have H' := YF H
                            clear H
                            go_wp2_with (first | (go_at_call 8; (with_reducible refine (graph_Way.calls k5 _ _ l0 a1 x14_5 t218 true _ ?side1 ?side2 A59.out).mono ?_); (case side1 => repeat (first | exact (Kd.C_below HR0.out HB.out) | (with_reducible refine Kd.C_alloc ?_ _) | (with_reducible refine Kd.C_drewN ?_ _) | (with_reducible refine Kd.C_drew ?_))); (case side2 => exact HC0.out); rintro e w63 ⟨v220, rfl, ho0, hb⟩; have n0_ := YF (Kd.R_lower ho0 (YE (by repeat (first | (with_reducible first | exact HB.out | apply YA | apply YB | apply YC) | exact HB.out)))); have n1_ := YF (YD (by repeat (first | (with_reducible first | exact HB.out | apply YA | apply YB | apply YC) | exact HB.out)) hb); clear HB; have HO221 := n0_; have HB := n1_; clear n0_ n1_; (try clear hb); (try clear hb2); (try clear hk); (try clear hi); (try clear ho0); have p222 : 0 ≤ (x14_5 : Int) := of_decide_eq_true (by first | (with_reducible assumption) | assumption); have q222 : x14_5 < (l0.length : Int) := of_decide_eq_true (by first | (with_reducible assumption) | assumption); obtain ⟨ad222, e222, hx222_0⟩ := Kd.at_int HR0.out x14_5 p222 q222; cases e222; replace hx222_0 := (HB.out.cell (World.block_lt_of_cell? w _ hx222_0)).trans hx222_0; replace p222 := eq_true p222; replace q222 := eq_true q222))
                            repeat (go_quiet (first | (go_at_call 8; (with_reducible refine (graph_Way.calls k5 _ _ l0 a1 x14_5 t218 true _ ?side1 ?side2 A59.out).mono ?_); (case side1 => repeat (first | exact (Kd.C_below HR0.out HB.out) | (with_reducible refine Kd.C_alloc ?_ _) | (with_reducible refine Kd.C_drewN ?_ _) | (with_reducible refine Kd.C_drew ?_))); (case side2 => exact HC0.out); rintro e w63 ⟨v220, rfl, ho0, hb⟩; have n0_ := YF (Kd.R_lower ho0 (YE (by repeat (first | (with_reducible first | exact HB.out | apply YA | apply YB | apply YC) | exact HB.out)))); have n1_ := YF (YD (by repeat (first | (with_reducible first | exact HB.out | apply YA | apply YB | apply YC) | exact HB.out)) hb); clear HB; have HO221 := n0_; have HB := n1_; clear n0_ n1_; (try clear hb); (try clear hb2); (try clear hk); (try clear hi); (try clear ho0); have p222 : 0 ≤ (x14_5 : Int) := of_decide_eq_true (by first | (with_reducible assumption) | assumption); have q222 : x14_5 < (l0.length : Int) := of_decide_eq_true (by first | (with_reducible assumption) | assumption); obtain ⟨ad222, e222, hx222_0⟩ := Kd.at_int HR0.out x14_5 p222 q222; cases e222; replace hx222_0 := (HB.out.cell (World.block_lt_of_cell? w _ hx222_0)).trans hx222_0; replace p222 := eq_true p222; replace q222 := eq_true q222)); try go_wp2_with (first | (go_at_call 8; (with_reducible refine (graph_Way.calls k5 _ _ l0 a1 x14_5 t218 true _ ?side1 ?side2 A59.out).mono ?_); (case side1 => repeat (first | exact (Kd.C_below HR0.out HB.out) | (with_reducible refine Kd.C_alloc ?_ _) | (with_reducible refine Kd.C_drewN ?_ _) | (with_reducible refine Kd.C_drew ?_))); (case side2 => exact HC0.out); rintro e w63 ⟨v220, rfl, ho0, hb⟩; have n0_ := YF (Kd.R_lower ho0 (YE (by repeat (first | (with_reducible first | exact HB.out | apply YA | apply YB | apply YC) | exact HB.out)))); have n1_ := YF (YD (by repeat (first | (with_reducible first | exact HB.out | apply YA | apply YB | apply YC) | exact HB.out)) hb); clear HB; have HO221 := n0_; have HB := n1_; clear n0_ n1_; (try clear hb); (try clear hb2); (try clear hk); (try clear hi); (try clear ho0); have p222 : 0 ≤ (x14_5 : Int) := of_decide_eq_true (by first | (with_reducible assumption) | assumption); have q222 : x14_5 < (l0.length : Int) := of_decide_eq_true (by first | (with_reducible assumption) | assumption); obtain ⟨ad222, e222, hx222_0⟩ := Kd.at_int HR0.out x14_5 p222 q222; cases e222; replace hx222_0 := (HB.out.cell (World.block_lt_of_cell? w _ hx222_0)).trans hx222_0; replace p222 := eq_true p222; replace q222 := eq_true q222)))
                            go_roundg k5
                            case measure => have := HJ5.out; have := HK2.out; have := HK3.out; have := HJ49.out; have := HK5.out; omega
                            case rel => exact ⟨(wrap64 (x13_5 + 1)), (wrap64 (x14_5 + 1)), (by first | rfl | (simp; done) | (simp [*]; done)), (by first | rfl | (simp; done) | (simp [*]; done)), H', ⟨by have := HJ5.out; have := HK2.out; have := HK3.out; have := HJ49.out; have := HK5.out; omega⟩, ⟨by repeat (first | (with_reducible first | exact HB.out | apply YA | apply YB | apply YC) | exact HB.out)⟩⟩
                          rw [if_neg c62] at H; have c62b0 : decide ((rd l0 x14_5) < 0) = false := decide_eq_false c62; clear c62
                          by_cases c64 : (rd l0 x14_5) ≥ (l0.length : Int)
                          · rw [if_pos c64] at H
                            have c64b0 : decide ((l0.length : Int) ≤ (rd l0 x14_5)) = true := decide_eq_true c64
                            clear c64
                            have H' := YF H
                            clear H
                            go_wp2_with (first | (go_at_call 8; (with_reducible refine (graph_Way.calls k5 _ _ l0 a1 x14_5 t218 true _ ?side1 ?side2 A59.out).mono ?_); (case side1 => repeat (first | exact (Kd.C_below HR0.out HB.out) | (with_reducible refine Kd.C_alloc ?_ _) | (with_reducible refine Kd.C_drewN ?_ _) | (with_reducible refine Kd.C_drew ?_))); (case side2 => exact HC0.out); rintro e w65 ⟨v220, rfl, ho0, hb⟩; have n0_ := YF (Kd.R_lower ho0 (YE (by repeat (first | (with_reducible first | exact HB.out | apply YA | apply YB | apply YC) | exact HB.out)))); have n1_ := YF (YD (by repeat (first | (with_reducible first | exact HB.out | apply YA | apply YB | apply YC) | exact HB.out)) hb); clear HB; have HO221 := n0_; have HB := n1_; clear n0_ n1_; (try clear hb); (try clear hb2); (try clear hk); (try clear hi); (try clear ho0); have p222 : 0 ≤ (x14_5 : Int) := of_decide_eq_true (by first | (with_reducible assumption) | assumption); have q222 : x14_5 < (l0.length : Int) := of_decide_eq_true (by first | (with_reducible assumption) | assumption); obtain ⟨ad222, e222, hx222_0⟩ := Kd.at_int HR0.out x14_5 p222 q222; cases e222; replace hx222_0 := (HB.out.cell (World.block_lt_of_cell? w _ hx222_0)).trans hx222_0; replace p222 := eq_true p222; replace q222 := eq_true q222; have p223 : 0 ≤ (x14_5 : Int) := of_decide_eq_true (by first | (with_reducible assumption) | assumption); have q223 : x14_5 < (l0.length : Int) := of_decide_eq_true (by first | (with_reducible assumption) | assumption); obtain ⟨ad223, e223, hx223_0⟩ := Kd.at_int HR0.out x14_5 p223 q223; obtain rfl : ad222 = ad223 := (by injection e223); replace hx223_0 := (HB.out.cell (World.block_lt_of_cell? w _ hx223_0)).trans hx223_0; replace p223 := eq_true p223; replace q223 := eq_true q223))
                            repeat (go_quiet (first | (go_at_call 8; (with_reducible refine (graph_Way.calls k5 _ _ l0 a1 x14_5 t218 true _ ?side1 ?side2 A59.out).mono ?_); (case side1 => repeat (first | exact (Kd.C_below HR0.out HB.out) | (with_reducible refine Kd.C_alloc ?_ _) | (with_reducible refine Kd.C_drewN ?_ _) | (with_reducible refine Kd.C_drew ?_))); (case side2 => exact HC0.out); rintro e w65 ⟨v220, rfl, ho0, hb⟩; have n0_ := YF (Kd.R_lower ho0 (YE (by repeat (first | (with_reducible first | exact HB.out | apply YA | apply YB | apply YC) | exact HB.out)))); have n1_ := YF (YD (by repeat (first | (with_reducible first | exact HB.out | apply YA | apply YB | apply YC) | exact HB.out)) hb); clear HB; have HO221 := n0_; have HB := n1_; clear n0_ n1_; (try clear hb); (try clear hb2); (try clear hk); (try clear hi); (try clear ho0); have p222 : 0 ≤ (x14_5 : Int) := of_decide_eq_true (by first | (with_reducible assumption) | assumption); have q222 : x14_5 < (l0.length : Int) := of_decide_eq_true (by first | (with_reducible assumption) | assumption); obtain ⟨ad222, e222, hx222_0⟩ := Kd.at_int HR0.out x14_5 p222 q222; cases e222; replace hx222_0 := (HB.out.cell (World.block_lt_of_cell? w _ hx222_0)).trans hx222_0; replace p222 := eq_true p222; replace q222 := eq_true q222; have p223 : 0 ≤ (x14_5 : Int) := of_decide_eq_true (by first | (with_reducible assumption) | assumption); have q223 : x14_5 < (l0.length : Int) := of_decide_eq_true (by first | (with_reducible assumption) | assumption); obtain ⟨ad223, e223, hx223_0⟩ := Kd.at_int HR0.out x14_5 p223 q223; obtain rfl : ad222 = ad223 := (by injection e223); replace hx223_0 := (HB.out.cell (World.block_lt_of_cell? w _ hx223_0)).trans hx223_0; replace p223 := eq_true p223; replace q223 := eq_true q223)); try go_wp2_with (first | (go_at_call 8; (with_reducible refine (graph_Way.calls k5 _ _ l0 a1 x14_5 t218 true _ ?side1 ?side2 A59.out).mono ?_); (case side1 => repeat (first | exact (Kd.C_below HR0.out HB.out) | (with_reducible refine Kd.C_alloc ?_ _) | (with_reducible refine Kd.C_drewN ?_ _) | (with_reducible refine Kd.C_drew ?_))); (case side2 => exact HC0.out); rintro e w65 ⟨v220, rfl, ho0, hb⟩; have n0_ := YF (Kd.R_lower ho0 (YE (by repeat (first | (with_reducible first | exact HB.out | apply YA | apply YB | apply YC) | exact HB.out)))); have n1_ := YF (YD (by repeat (first | (with_reducible first | exact HB.out | apply YA | apply YB | apply YC) | exact HB.out)) hb); clear HB; have HO221 := n0_; have HB := n1_; clear n0_ n1_; (try clear hb); (try clear hb2); (try clear hk); (try clear hi); (try clear ho0); have p222 : 0 ≤ (x14_5 : Int) := of_decide_eq_true (by first | (with_reducible assumption) | assumption); have q222 : x14_5 < (l0.length : Int) := of_decide_eq_true (by first | (with_reducible assumption) | assumption); obtain ⟨ad222, e222, hx222_0⟩ := Kd.at_int HR0.out x14_5 p222 q222; cases e222; replace hx222_0 := (HB.out.cell (World.block_lt_of_cell? w _ hx222_0)).trans hx222_0; replace p222 := eq_true p222; replace q222 := eq_true q222; have p223 : 0 ≤ (x14_5 : Int) := of_decide_eq_true (by first | (with_reducible assumption) | assumption); have q223 : x14_5 < (l0.length : Int) := of_decide_eq_true (by first | (with_reducible assumption) | assumption); obtain ⟨ad223, e223, hx223_0⟩ := Kd.at_int HR0.out x14_5 p223 q223; obtain rfl : ad222 = ad223 := (by injection e223); replace hx223_0 := (HB.out.cell (World.block_lt_of_cell? w _ hx223_0)).trans hx223_0; replace p223 := eq_true p223; replace q223 := eq_true q223)))
                            go_roundg k5
                            case measure => have := HJ5.out; have := HK2.out; have := HK3.out; have := HJ49.out; have := HK5.out; omega
                            case rel => exact ⟨(wrap64 (x13_5 + 1)), (wrap64 (x14_5 + 1)), (by first | rfl | (simp; done) | (simp [*]; done)), (by first | rfl | (simp; done) | (simp [*]; done)), H', ⟨by have := HJ5.out; have := HK2.out; have := HK3.out; have := HJ49.out; have := HK5.out; omega⟩, ⟨by repeat (first | (with_reducible first | exact HB.out | apply YA | apply YB | apply YC) | exact HB.out)⟩⟩
                          rw [if_neg c64] at H
                          have c64b0 : decide ((l0.length : Int) ≤ (rd l0 x14_5)) = false := decide_eq_false c64
                          clear c64
                          have H' := YF H
                          clear H
                          go_wp2_with (first | (go_at_call 8; (with_reducible refine (graph_Way.calls k5 _ _ l0 a1 x14_5 t218 true _ ?side1 ?side2 A59.out).mono ?_); (case side1 => repeat (first | exact (Kd.C_below HR0.out HB.out) | (with_reducible refine Kd.C_alloc ?_ _) | (with_reducible refine Kd.C_drewN ?_ _) | (with_reducible refine Kd.C_drew ?_))); (case side2 => exact HC0.out); rintro e w66 ⟨v220, rfl, ho0, hb⟩; have n0_ := YF (Kd.R_lower ho0 (YE (by repeat (first | (with_reducible first | exact HB.out | apply YA | apply YB | apply YC) | exact HB.out)))); have n1_ := YF (YD (by repeat (first | (with_reducible first | exact HB.out | apply YA | apply YB | apply YC) | exact HB.out)) hb); clear HB; have HO221 := n0_; have HB := n1_; clear n0_ n1_; (try clear hb); (try clear hb2); (try clear hk); (try clear hi); (try clear ho0); have p222 : 0 ≤ (x14_5 : Int) := of_decide_eq_true (by first | (with_reducible assumption) | assumption); have q222 : x14_5 < (l0.length : Int) := of_decide_eq_true (by first | (with_reducible assumption) | assumption); obtain ⟨ad222, e222, hx222_0⟩ := Kd.at_int HR0.out x14_5 p222 q222; cases e222; replace hx222_0 := (HB.out.cell (World.block_lt_of_cell? w _ hx222_0)).trans hx222_0; replace p222 := eq_true p222; replace q222 := eq_true q222; have p223 : 0 ≤ (x14_5 : Int) := of_decide_eq_true (by first | (with_reducible assumption) | assumption); have q223 : x14_5 < (l0.length : Int) := of_decide_eq_true (by first | (with_reducible assumption) | assumption); obtain ⟨ad223, e223, hx223_0⟩ := Kd.at_int HR0.out x14_5 p223 q223; obtain rfl : ad222 = ad223 := (by injection e223); replace hx223_0 := (HB.out.cell (World.block_lt_of_cell? w _ hx223_0)).trans hx223_0; replace p223 := eq_true p223; replace q223 := eq_true q223))
                          repeat (go_quiet (first | (go_at_call 8; (with_reducible refine (graph_Way.calls k5 _ _ l0 a1 x14_5 t218 true _ ?side1 ?side2 A59.out).mono ?_); (case side1 => repeat (first | exact (Kd.C_below HR0.out HB.out) | (with_reducible refine Kd.C_alloc ?_ _) | (with_reducible refine Kd.C_drewN ?_ _) | (with_reducible refine Kd.C_drew ?_))); (case side2 => exact HC0.out); rintro e w66 ⟨v220, rfl, ho0, hb⟩; have n0_ := YF (Kd.R_lower ho0 (YE (by repeat (first | (with_reducible first | exact HB.out | apply YA | apply YB | apply YC) | exact HB.out)))); have n1_ := YF (YD (by repeat (first | (with_reducible first | exact HB.out | apply YA | apply YB | apply YC) | exact HB.out)) hb); clear HB; have HO221 := n0_; have HB := n1_; clear n0_ n1_; (try clear hb); (try clear hb2); (try clear hk); (try clear hi); (try clear ho0); have p222 : 0 ≤ (x14_5 : Int) := of_decide_eq_true (by first | (with_reducible assumption) | assumption); have q222 : x14_5 < (l0.length : Int) := of_decide_eq_true (by first | (with_reducible assumption) | assumption); obtain ⟨ad222, e222, hx222_0⟩ := Kd.at_int HR0.out x14_5 p222 q222; cases e222; replace hx222_0 := (HB.out.cell (World.block_lt_of_cell? w _ hx222_0)).trans hx222_0; replace p222 := eq_true p222; replace q222 := eq_true q222; have p223 : 0 ≤ (x14_5 : Int) := of_decide_eq_true (by first | (with_reducible assumption) | assumption); have q223 : x14_5 < (l0.length : Int) := of_decide_eq_true (by first | (with_reducible assumption) | assumption); obtain ⟨ad223, e223, hx223_0⟩ := Kd.at_int HR0.out x14_5 p223 q223; obtain rfl : ad222 = ad223 := (by injection e223); replace hx223_0 := (HB.out.cell (World.block_lt_of_cell? w _ hx223_0)).trans hx223_0; replace p223 := eq_true p223; replace q223 := eq_true q223)); try go_wp2_with (first | (go_at_call 8; (with_reducible refine (graph_Way.calls k5 _ _ l0 a1 x14_5 t218 true _ ?side1 ?side2 A59.out).mono ?_); (case side1 => repeat (first | exact (Kd.C_below HR0.out HB.out) | (with_reducible refine Kd.C_alloc ?_ _) | (with_reducible refine Kd.C_drewN ?_ _) | (with_reducible refine Kd.C_drew ?_))); (case side2 => exact HC0.out); rintro e w66 ⟨v220, rfl, ho0, hb⟩; have n0_ := YF (Kd.R_lower ho0 (YE (by repeat (first | (with_reducible first | exact HB.out | apply YA | apply YB | apply YC) | exact HB.out)))); have n1_ := YF (YD (by repeat (first | (with_reducible first | exact HB.out | apply YA | apply YB | apply YC) | exact HB.out)) hb); clear HB; have HO221 := n0_; have HB := n1_; clear n0_ n1_; (try clear hb); (try clear hb2); (try clear hk); (try clear hi); (try clear ho0); have p222 : 0 ≤ (x14_5 : Int) := of_decide_eq_true (by first | (with_reducible assumption) | assumption); have q222 : x14_5 < (l0.length : Int) := of_decide_eq_true (by first | (with_reducible assumption) | assumption); obtain ⟨ad222, e222, hx222_0⟩ := Kd.at_int HR0.out x14_5 p222 q222; cases e222; replace hx222_0 := (HB.out.cell (World.block_lt_of_cell? w _ hx222_0)).trans hx222_0; replace p222 := eq_true p222; replace q222 := eq_true q222; have p223 : 0 ≤ (x14_5 : Int) := of_decide_eq_true (by first | (with_reducible assumption) | assumption); have q223 : x14_5 < (l0.length : Int) := of_decide_eq_true (by first | (with_reducible assumption) | assumption); obtain ⟨ad223, e223, hx223_0⟩ := Kd.at_int HR0.out x14_5 p223 q223; obtain rfl : ad222 = ad223 := (by injection e223); replace hx223_0 := (HB.out.cell (World.block_lt_of_cell? w _ hx223_0)).trans hx223_0; replace p223 := eq_true p223; replace q223 := eq_true q223)))
                          go_roundg k5
                          case measure => have := HJ5.out; have := HK2.out; have := HK3.out; have := HJ49.out; have := HK5.out; omega
                          case rel => exact ⟨(x13_5), (wrap64 (x14_5 + 1)), (by first | rfl | (simp; done) | (simp [*]; done)), (by first | rfl | (simp; done) | (simp [*]; done)), H', ⟨by have := HJ5.out; have := HK2.out; have := HK3.out; have := HJ49.out; have := HK5.out; omega⟩, ⟨by repeat (first | (with_reducible first | exact HB.out | apply YA | apply YB | apply YC) | exact HB.out)⟩⟩
                        replace c60 := Bool.eq_false_iff.mpr c60
                        subst c60
                        have H1 : (thalweglaw25_GraphWays.l2 k5 l0 a1 x13_5 (wrap64 (x14_5 + 1))) = some r := by rw [if_neg (show ¬ (false = true) by decide)] at H; exact H
                        clear H
                        have H := H1
                        clear H1
                        have H' := YF H
                        clear H
                        go_wp2_with (first | (go_at_call 8; (with_reducible refine (graph_Way.calls k5 _ _ l0 a1 x14_5 t218 false _ ?side1 ?side2 A59.out).mono ?_); (case side1 => repeat (first | exact (Kd.C_below HR0.out HB.out) | (with_reducible refine Kd.C_alloc ?_ _) | (with_reducible refine Kd.C_drewN ?_ _) | (with_reducible refine Kd.C_drew ?_))); (case side2 => exact HC0.out); rintro e w67 ⟨v220, rfl, ho0, hb⟩; have n0_ := YF (Kd.R_lower ho0 (YE (by repeat (first | (with_reducible first | exact HB.out | apply YA | apply YB | apply YC) | exact HB.out)))); have n1_ := YF (YD (by repeat (first | (with_reducible first | exact HB.out | apply YA | apply YB | apply YC) | exact HB.out)) hb); clear HB; have HO221 := n0_; have HB := n1_; clear n0_ n1_; (try clear hb); (try clear hb2); (try clear hk); (try clear hi); (try clear ho0)))
                        repeat (go_quiet (first | (go_at_call 8; (with_reducible refine (graph_Way.calls k5 _ _ l0 a1 x14_5 t218 false _ ?side1 ?side2 A59.out).mono ?_); (case side1 => repeat (first | exact (Kd.C_below HR0.out HB.out) | (with_reducible refine Kd.C_alloc ?_ _) | (with_reducible refine Kd.C_drewN ?_ _) | (with_reducible refine Kd.C_drew ?_))); (case side2 => exact HC0.out); rintro e w67 ⟨v220, rfl, ho0, hb⟩; have n0_ := YF (Kd.R_lower ho0 (YE (by repeat (first | (with_reducible first | exact HB.out | apply YA | apply YB | apply YC) | exact HB.out)))); have n1_ := YF (YD (by repeat (first | (with_reducible first | exact HB.out | apply YA | apply YB | apply YC) | exact HB.out)) hb); clear HB; have HO221 := n0_; have HB := n1_; clear n0_ n1_; (try clear hb); (try clear hb2); (try clear hk); (try clear hi); (try clear ho0))); try go_wp2_with (first | (go_at_call 8; (with_reducible refine (graph_Way.calls k5 _ _ l0 a1 x14_5 t218 false _ ?side1 ?side2 A59.out).mono ?_); (case side1 => repeat (first | exact (Kd.C_below HR0.out HB.out) | (with_reducible refine Kd.C_alloc ?_ _) | (with_reducible refine Kd.C_drewN ?_ _) | (with_reducible refine Kd.C_drew ?_))); (case side2 => exact HC0.out); rintro e w67 ⟨v220, rfl, ho0, hb⟩; have n0_ := YF (Kd.R_lower ho0 (YE (by repeat (first | (with_reducible first | exact HB.out | apply YA | apply YB | apply YC) | exact HB.out)))); have n1_ := YF (YD (by repeat (first | (with_reducible first | exact HB.out | apply YA | apply YB | apply YC) | exact HB.out)) hb); clear HB; have HO221 := n0_; have HB := n1_; clear n0_ n1_; (try clear hb); (try clear hb2); (try clear hk); (try clear hi); (try clear ho0))))
                        go_roundg k5
                        case measure => have := HJ5.out; have := HK2.out; have := HK3.out; have := HJ49.out; have := HK5.out; omega
                        case rel => exact ⟨(x13_5), (wrap64 (x14_5 + 1)), (by first | rfl | (simp; done) | (simp [*]; done)), (by first | rfl | (simp; done) | (simp [*]; done)), H', ⟨by have := HJ5.out; have := HK2.out; have := HK3.out; have := HJ49.out; have := HK5.out; omega⟩, ⟨by repeat (first | (with_reducible first | exact HB.out | apply YA | apply YB | apply YC) | exact HB.out)⟩⟩
                      rw [if_neg c58] at H
                      have c58b0 : decide (x14_5 < (l0.length : Int)) = false := decide_eq_false c58
                      clear c58; replace H := Option.bind_eq_some_iff.mp H; obtain ⟨t224, A680, H⟩ := H
                      replace H : (if t224 = true then (some (x13_5 == 1)) else (none)) = some r := H
                      have A68 := YF A680; clear A680
                      by_cases c69 : t224 = true
                      · subst c69
                        have H1 : (some (x13_5 == 1)) = some r := by rw [if_pos rfl] at H; exact H
                        clear H
                        have H := H1
                        clear H1
                        obtain rfl := Option.some.inj H
                        go_wp2_with (first | (go_at_call 10; (with_reducible refine (thalweglaw25_awake.calls k5  true _ A68.out).mono ?_); rintro e w70 ⟨rfl, hb⟩; have n0_ := YF (YD (by repeat (first | (with_reducible first | exact HB.out | apply YA | apply YB | apply YC) | exact HB.out)) hb); clear HB; have HB := n0_; clear n0_; (try clear hb); (try clear hb2); (try clear hk); (try clear hi)))
                        repeat (go_quiet (first | (go_at_call 10; (with_reducible refine (thalweglaw25_awake.calls k5  true _ A68.out).mono ?_); rintro e w70 ⟨rfl, hb⟩; have n0_ := YF (YD (by repeat (first | (with_reducible first | exact HB.out | apply YA | apply YB | apply YC) | exact HB.out)) hb); clear HB; have HB := n0_; clear n0_; (try clear hb); (try clear hb2); (try clear hk); (try clear hi))); try go_wp2_with (first | (go_at_call 10; (with_reducible refine (thalweglaw25_awake.calls k5  true _ A68.out).mono ?_); rintro e w70 ⟨rfl, hb⟩; have n0_ := YF (YD (by repeat (first | (with_reducible first | exact HB.out | apply YA | apply YB | apply YC) | exact HB.out)) hb); clear HB; have HB := n0_; clear n0_; (try clear hb); (try clear hb2); (try clear hk); (try clear hi))))
                        go_ret
                        exact ⟨by first | rfl | (simp [errW_none, errW_some] <;> rfl) | (simp [*, errW_none, errW_some] <;> rfl), by repeat (first | (with_reducible first | exact HB.out | apply YA | apply YB | apply YC) | exact HB.out)⟩
                      replace c69 := Bool.eq_false_iff.mpr c69
                      subst c69
                      have H1 : (none) = some r := by rw [if_neg (show ¬ (false = true) by decide)] at H; exact H
                      clear H
                      have H := H1
                      clear H1
                      exact absurd H (by simp)

/-- THE ONE PURE STATEMENT of thalweglaw25_GraphWays: yours. -/
def thalweglaw25_GraphWays.Pure : Prop := ∀ (l0 : List Int) (a1 : Int) (a2 : Int), l0.length ≤ maxLen → l0.length * 8 ≤ 140737488351232 → (∀ x ∈ l0, (Lit.int .i64 x).wf = true) → (Lit.int .i64 a1).wf = true → (Lit.int .i64 a2).wf = true → ∃ k, thalweglaw25_GraphWays.f k l0 a1 a2 = some true
theorem thalweglaw25_GraphWays.walk (P : thalweglaw25_GraphWays.Pure) (a0 : Option Addr) (len0 cap0 : Nat) (z0 : List Int) (a1 : Int) (a2 : Int) (w : World) (w0 : (a0 = none ∧ len0 = 0 ∧ cap0 = 0 ∧ z0 = []) ∨ ∃ x, a0 = some x ∧ len0 ≤ cap0 ∧ cap0 ≤ maxLen ∧ z0.length = cap0 ∧ (∀ i, i < z0.length → w.cell? (x.add i) = some (.int .i64 (z0.getD i 0))) ∧ ∀ n ∈ z0, (Lit.int .i64 n).wf = true) (y0 : len0 * 8 ≤ 140737488351232) (w1 : (Lit.int .i64 a1).wf = true) (w2 : (Lit.int .i64 a2).wf = true) :
    Calls Try.prog 3 #[.slice a0 len0 cap0, .int .i64 a1, .int .i64 a2] w fun e w' => e = .returned (.bool true) ∧ Below w.heap.size w w' := by
  obtain ⟨l0, rfl, hr0, hm0, hw0, hc0⟩ := ReadsInt.ofRowC w0
  obtain ⟨k, h⟩ := P l0 a1 a2 hm0 y0 hw0 w1 w2
  refine (thalweglaw25_GraphWays.calls k _ _ l0 a1 a2 true w (Kd.C_of_reads (d := (0 : Int)) (h1 := fun _ => rfl) hr0) hc0 h).mono ?_
  rintro e w' ⟨rfl, hd⟩
  exact ⟨rfl, hd⟩

end Go.Proofs.Ytbejdbgcfgllhaa.P
