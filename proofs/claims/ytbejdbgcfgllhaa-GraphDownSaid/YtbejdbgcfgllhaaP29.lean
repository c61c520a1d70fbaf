-- WRITTEN BY xprint.py, a program of this session that drives the kit's printer.
import Derived.Test.YtbejdbgcfgllhaaP0
import Derived.Test.YtbejdbgcfgllhaaP2
import Derived.Test.YtbejdbgcfgllhaaP28
namespace Go.Proofs.Ytbejdbgcfgllhaa.P
open Go.RowKit Go.Proofs.YtbejdbgcfgllhaaW.PrintWords Go.Proofs.YtbejdbgcfgllhaaW.PrintLast Go.Proofs.YtbejdbgcfgllhaaW.PrintMore
open Go.Proofs.YtbejdbgcfgllhaaW.PrintWords renaming below_alloc → YA, pw_below_drewN → YB, below_drew1 → YC, below_step → YD, below_size → YE, blk_drewN → YF, blk_drew → YG, blk_alloc → YH, blk_cell → YI, blk_frozen → YJ
open Go.Proofs.YtbejdbgcfgllhaaW.PrintWords.Aside0 renaming mk → YK
open List renaming setIfInBounds_toArray → YL, set_cons_zero → YM, set_cons_succ → YN
open Go.Proofs.YtbejdbgcfgllhaaW.PrintWords.Kd renaming R_alloc → YO, R_drewN → YP, R_drew → YQ, R_below → YR
attribute [local go_sem] max2_int min2_int max_two min_two max_three min_three max_four min_four   -- for this text's walks alone
set_option linter.unusedVariables false
set_option linter.unusedSimpArgs false

attribute [local go_sem high] eqA45
/-! ### graph_Fresh: function 18 -/
mutual
def graph_Fresh.l0 : Nat → List (S45) → List (List (S55)) → List (S36) → Int → Int → Option ((List (S36)))
  | 0, _, _, _, _, _ => none
  | k + 1, x0, x1, x5, x13, x14 => if x14 < x13 then (if 0 ≤ x14 then (if x14 < (x1.length : Int) then (graph_Fresh.l1 k x0 x1 x5 x14 x13 x14 (rd_L8 x1 x14) ((rd_L8 x1 x14).length : Int) 0) else (none)) else (none)) else (some x5)
def graph_Fresh.l1 : Nat → List (S45) → List (List (S55)) → List (S36) → Int → Int → Int → List (S55) → Int → Int → Option ((List (S36)))
  | 0, _, _, _, _, _, _, _, _, _ => none
  | k + 1, x0, x1, x5, x6, x13, x14, x20, x21, x22 => if x22 < x21 then (if 0 ≤ x22 then (if x22 < (x20.length : Int) then (if ((rd_T55 x20 x22).f0) ≥ 0 then (if ((rd_T55 x20 x22).f0) < (x0.length : Int) then (if 0 ≤ ((rd_T55 x20 x22).f0) then (if (((rd_T45 x0 ((rd_T55 x20 x22).f0)).f0) == ((rd_T55 x20 x22).f1.f0) && (((rd_T45 x0 ((rd_T55 x20 x22).f0)).f1) == ((rd_T55 x20 x22).f1.f1) && (((rd_T45 x0 ((rd_T55 x20 x22).f0)).f2) == ((rd_T55 x20 x22).f1.f2) && (((rd_T45 x0 ((rd_T55 x20 x22).f0)).f3) == ((rd_T55 x20 x22).f1.f3) && (((rd_T45 x0 ((rd_T55 x20 x22).f0)).f4) == ((rd_T55 x20 x22).f1.f4) && (((rd_T45 x0 ((rd_T55 x20 x22).f0)).f5) == ((rd_T55 x20 x22).f1.f5))))))) = true then (if 0 ≤ x6 then (if x6 < (x0.length : Int) then ((height_Less.f k ((rd_T55 x20 x22).f1.f0) ((rd_T55 x20 x22).f1.f1) ((rd_T55 x20 x22).f1.f2) ((rd_T55 x20 x22).f1.f3) ((rd_T55 x20 x22).f1.f4) ((rd_T55 x20 x22).f1.f5) ((rd_T45 x0 x6).f0) ((rd_T45 x0 x6).f1) ((rd_T45 x0 x6).f2) ((rd_T45 x0 x6).f3) ((rd_T45 x0 x6).f4) ((rd_T45 x0 x6).f5)).bind fun t410 => (if t410 = true then (if x5.length < 8796093022208 then (graph_Fresh.l1 k x0 x1 (x5 ++ [(⟨x6, (rd_T55 x20 x22).f0⟩ : S36)]) x6 x13 x14 x20 x21 (wrap64 (x22 + 1))) else (none)) else (graph_Fresh.l1 k x0 x1 x5 x6 x13 x14 x20 x21 (wrap64 (x22 + 1))))) else (none)) else (none)) else (graph_Fresh.l1 k x0 x1 x5 x6 x13 x14 x20 x21 (wrap64 (x22 + 1)))) else (none)) else (graph_Fresh.l1 k x0 x1 x5 x6 x13 x14 x20 x21 (wrap64 (x22 + 1)))) else (graph_Fresh.l1 k x0 x1 x5 x6 x13 x14 x20 x21 (wrap64 (x22 + 1)))) else (none)) else (none)) else (graph_Fresh.l0 k x0 x1 x5 x13 (wrap64 (x14 + 1)))
end
def graph_Fresh.f (k : Nat) (l0 : List (S45)) (l1 : List (List (S55))) : Option ((List (S36))) := graph_Fresh.l0 k l0 l1 ([] : List (S36)) (mn (l0.length : Int) (l1.length : Int)) 0
theorem graph_Fresh.mono_l : ∀ k, (∀ y0 y1 y2 y3 y4, LeO (graph_Fresh.l0 k y0 y1 y2 y3 y4) (graph_Fresh.l0 (k + 1) y0 y1 y2 y3 y4)) ∧ (∀ y0 y1 y2 y3 y4 y5 y6 y7 y8, LeO (graph_Fresh.l1 k y0 y1 y2 y3 y4 y5 y6 y7 y8) (graph_Fresh.l1 (k + 1) y0 y1 y2 y3 y4 y5 y6 y7 y8))
  | 0 => ⟨fun _ _ _ _ _ r h => by simp [graph_Fresh.l0] at h, fun _ _ _ _ _ _ _ _ _ r h => by simp [graph_Fresh.l1] at h⟩
  | k + 1 => by
    obtain ⟨ih0, ih1⟩ := graph_Fresh.mono_l k
    refine ⟨?_, ?_⟩
    · intro y0 y1 y2 y3 y4
      unfold graph_Fresh.l0
      repeat' first
      | (with_reducible exact ih0 _ _ _ _ _)
      | (with_reducible exact ih1 _ _ _ _ _ _ _ _ _)
      | (with_reducible exact height_Less.mono _ _ _ _ _ _ _ _ _ _ _ _ _)
      | (with_reducible exact LeO.refl _)
      | (with_reducible exact LeO.none _)
      | (with_reducible refine LeO.ite ?_ ?_)
      | (with_reducible refine LeO.bind ?_ (fun _ => ?_))
      | exact ih0 _ _ _ _ _
      | exact ih1 _ _ _ _ _ _ _ _ _
      | exact height_Less.mono _ _ _ _ _ _ _ _ _ _ _ _ _
      | exact LeO.none _
      | refine LeO.ite ?_ ?_
      | refine LeO.bind ?_ (fun _ => ?_)
    intro y0 y1 y2 y3 y4 y5 y6 y7 y8
    unfold graph_Fresh.l1
    repeat' first
    | (with_reducible exact ih0 _ _ _ _ _)
    | (with_reducible exact ih1 _ _ _ _ _ _ _ _ _)
    | (with_reducible exact height_Less.mono _ _ _ _ _ _ _ _ _ _ _ _ _)
    | (with_reducible exact LeO.refl _)
    | (with_reducible exact LeO.none _)
    | (with_reducible refine LeO.ite ?_ ?_)
    | (with_reducible refine LeO.bind ?_ (fun _ => ?_))
    | exact ih0 _ _ _ _ _
    | exact ih1 _ _ _ _ _ _ _ _ _
    | exact height_Less.mono _ _ _ _ _ _ _ _ _ _ _ _ _
    | exact LeO.none _
    | refine LeO.ite ?_ ?_
    | refine LeO.bind ?_ (fun _ => ?_)
theorem graph_Fresh.mono : ∀ a0 a1 k, LeO (graph_Fresh.f k a0 a1) (graph_Fresh.f (k + 1) a0 a1) := by
  intro a0 a1 k
  obtain ⟨ih0, ih1⟩ := graph_Fresh.mono_l k
  unfold graph_Fresh.f
  repeat' first
      | (with_reducible exact ih0 _ _ _ _ _)
      | (with_reducible exact ih1 _ _ _ _ _ _ _ _ _)
      | (with_reducible exact height_Less.mono _ _ _ _ _ _ _ _ _ _ _ _ _)
      | (with_reducible exact LeO.refl _)
      | (with_reducible exact LeO.none _)
      | (with_reducible refine LeO.ite ?_ ?_)
      | (with_reducible refine LeO.bind ?_ (fun _ => ?_))
      | exact ih0 _ _ _ _ _
      | exact ih1 _ _ _ _ _ _ _ _ _
      | exact height_Less.mono _ _ _ _ _ _ _ _ _ _ _ _ _
      | exact LeO.none _
      | refine LeO.ite ?_ ?_
      | refine LeO.bind ?_ (fun _ => ?_)
def graph_Fresh.T8 : Bool × List (List Nat × List Nat) := (true, [([], []), ([0], [0]), ([1], [1]), ([2], [2]), ([3], [3]), ([4, 3], [3, 4]), ([3], [3]), ([6, 3], [3, 6]), ([5, 7, 3], [3, 5, 7]), ([3, 8], [3, 8]), ([9, 3], [9]), ([10], [10]), ([10], [10]), ([12, 10], [10, 12]), ([11, 13, 10], [10, 11, 13]), ([14, 10], [10, 14]), ([10], [10]), ([16, 10], [10, 16]), ([15, 17, 10], [10, 15, 17]), ([10, 18], [10, 18]), ([19, 10], [19]), ([20], [20]), ([21, 20], [20, 21]), ([20], [20]), ([20], [20]), ([23, 24, 20], [20, 23, 24]), ([25, 20], [20, 25]), ([22, 26, 20, 20], [20, 22, 26]), ([20, 27], [20, 27])])
def graph_Fresh.B8 : List Nat := [0, 1, 3, 7, 15, 31, 15, 79, 255, 511, 1023, 2047, 2047, 6143, 16383, 32767, 2047, 67583, 262143, 524287, 1048575, 2097151, 4194303, 2097151, 2097151, 27262975, 60817407, 134217727, 268435455]
theorem graph_Fresh.tab8 : rtab .any (opsOf Try.f18 8) = graph_Fresh.T8 := by kernel_rfl
theorem graph_Fresh.bits8 : waitsOk graph_Fresh.T8.2 graph_Fresh.B8 = true := by kernel_rfl
set_option maxHeartbeats 8000000 in
set_option maxRecDepth 100000 in
theorem graph_Fresh.calls (k : Nat) (A0 : Option Addr) (c0 : Nat) (l0 : List (S45)) (A1 : Option Addr) (c1 : Nat) (l1 : List (List (S55))) (r : List (S36)) (w : World) (hr0 : Kd.C k45 w A0 l0.length l0) (hc0 : l0.length ≤ c0) (hr1 : Kd.C (Kd.slice 55 k55) w A1 l1.length l1) (hc1 : l1.length ≤ c1) (h : graph_Fresh.f k l0 l1 = some r) :
    Calls Try.prog 18 #[.slice A0 l0.length c0, .slice A1 l1.length c1] w fun e w' => ∃ v0_ : Value, e = .returned (v0_) ∧ Kd.R k36 36 w' w.heap.size (fun _ => True) v0_ r ∧ Below w.heap.size w w' := by
  have hu55 := Try.underlying55
  have hu45 := Try.underlying45
  have hu36 := Try.underlying36
  have HR0 := YK hr0; have HC0 := YK hc0; clear hr0 hc0; have HR1 := YK hr1; have HC1 := YK hc1; clear hr1 hc1
  have HB := YK (Below.refl w.heap.size w)
  have H : (graph_Fresh.l0 k l0 l1 ([] : List (S36)) (mn (l0.length : Int) (l1.length : Int)) 0) = some r := h
  clear h
  obtain ⟨ji3, hji3⟩ : ∃ j_ : Int, (mn (l0.length : Int) (l1.length : Int)) = j_ := ⟨_, rfl⟩
  replace H : (graph_Fresh.l0 k l0 l1 ([] : List (S36)) ji3 0) = some r := by first | (rw [hji3] at H; exact H) | (simp only [hji3] at H ⊢; exact H)
  (try (have hji3l : 0 ≤ ji3 := by (rw [← hji3]; unfold mn; (repeat' split) <;> omega)))
  (try (have hji3m : 0 ≤ ji3 := by omega))
  have hji3_ : (if (l1.length : Int) < (l0.length : Int) then (l1.length : Int) else (l0.length : Int)) = ji3 := hji3
  have hji3n_ : (if l1.length < l0.length then (l1.length : Int) else (l0.length : Int)) = ji3 := (by rw [← hji3]; simp only [mn]; split <;> split <;> omega)
  have H' := YK H
  clear H
  go_enter Try.func18, Try.ntmps18
  go_wp2
  go_loopg [5, 14] k (fun kq v5 v14 w' => ∃ (x5_1 : List (S36)) (x14_1 : Int), v14 = .int .i64 x14_1 ∧ Aside0 (graph_Fresh.l0 kq l0 l1 x5_1 ji3 x14_1 = some r) ∧ Aside0 (kq ≤ k) ∧ Aside0 (Kd.R k36 36 w' w.heap.size (fun _ => True) v5 x5_1) ∧ Aside0 (Below w.heap.size w w'))
  case atStart => exact ⟨(([] : List (S36))), (0), (by first | rfl | (simp; done) | (simp [*]; done)), H', ⟨Nat.le_refl _⟩, ⟨by first | exact Kd.R_nil _ _ _ _ _ | exact Kd.N_nil _ _ _ _ _ | exact Kd.V_nil _ _ _ _ _ | exact Kd.Q_nil _ _ _ _ _ | exact Kd.S_nil _ _ _ _ _⟩, ⟨by repeat (first | (with_reducible first | exact HB.out | apply YA | apply YB | apply YC) | exact HB.out)⟩⟩
  case round =>
    clear H'
    try clear c1
    try clear p2
    obtain ⟨x5_1, x14_1, rfl, HA, HK1, HO_5, HB⟩ := hrel
    cases gk with
    | zero => exact absurd HA.out (by simp [graph_Fresh.l0])
    | succ k1 =>
      have H := HA.out
      clear HA
      simp only [graph_Fresh.l0] at H
      by_cases c4 : x14_1 < ji3
      · rw [if_pos c4] at H
        have c4b0 : decide (x14_1 < ji3) = true := decide_eq_true c4; clear c4
        by_cases c5 : 0 ≤ x14_1
        rotate_left
        · rw [if_neg c5] at H
          exact absurd H (by simp)
        rw [if_pos c5] at H; have c5b0 : decide (0 ≤ x14_1) = true := decide_eq_true c5; clear c5
        by_cases c6 : x14_1 < (l1.length : Int)
        rotate_left
        · rw [if_neg c6] at H
          exact absurd H (by simp)
        rw [if_pos c6] at H
        have c6b0 : decide (x14_1 < (l1.length : Int)) = true := decide_eq_true c6
        clear c6
        have H' := YK H
        clear H
        have p405 : 0 ≤ (x14_1 : Int) := of_decide_eq_true (by first | (with_reducible assumption) | assumption)
        have q405 : x14_1 < (l1.length : Int) := of_decide_eq_true (by first | (with_reducible assumption) | assumption)
        obtain ⟨ad405, A405_0, c405_0, e405, hx405_0, hl405_0, hi405_0⟩ := at_L8 HR1.out x14_1 p405 q405
        cases e405
        replace hx405_0 := (HB.out.cell (World.block_lt_of_cell? w _ hx405_0)).trans hx405_0
        have HR405_0 := YK hi405_0; have HC405_0 := YK hl405_0; clear hi405_0 hl405_0
        replace p405 := eq_true p405
        replace q405 := eq_true q405
        go_wp2
        go_loopg [5, 22] k1 (fun kq v5 v22 w' => ∃ (x5_2 : List (S36)) (x22_2 : Int), v22 = .int .i64 x22_2 ∧ Aside0 (graph_Fresh.l1 kq l0 l1 x5_2 x14_1 ji3 x14_1 (rd_L8 l1 x14_1) ((rd_L8 l1 x14_1).length : Int) x22_2 = some r) ∧ Aside0 (kq ≤ k1) ∧ Aside0 (Kd.R k36 36 w' w.heap.size (fun _ => True) v5 x5_2) ∧ Aside0 (Below w.heap.size w w'))
        case atStart => exact ⟨(x5_1), (0), (by first | rfl | (simp; done) | (simp [*]; done)), H', ⟨Nat.le_refl _⟩, ⟨by (with_reducible repeat (first | apply YO | apply YP | apply YQ)); exact HO_5.out⟩, ⟨by repeat (first | (with_reducible first | exact HB.out | apply YA | apply YB | apply YC) | exact HB.out)⟩⟩
        case round =>
          clear H'
          try clear c1
          try clear p2
          try clear c4
          try clear c4b0
          try clear p4
          try clear q4
          try clear hx4
          try clear c5
          try clear c5b0
          try clear c6
          try clear c6b0
          try clear hx405_0
          try clear p2
          try clear p405
          try clear q405
          obtain ⟨x5_2, x22_2, rfl, HA, HK2, HO_5, HB⟩ := hrel
          cases gk with
          | zero => exact absurd HA.out (by simp [graph_Fresh.l1])
          | succ k2 =>
            have H := HA.out
            clear HA
            simp only [graph_Fresh.l1] at H
            by_cases c7 : x22_2 < ((rd_L8 l1 x14_1).length : Int)
            · rw [if_pos c7] at H
              have c7b0 : decide (x22_2 < ((rd_L8 l1 x14_1).length : Int)) = true := decide_eq_true c7
              clear c7
              by_cases c8 : 0 ≤ x22_2
              rotate_left
              · rw [if_neg c8] at H
                exact absurd H (by simp)
              rw [if_pos c8] at H; have c8b0 : decide (0 ≤ x22_2) = true := decide_eq_true c8; clear c8
              by_cases c9 : x22_2 < ((rd_L8 l1 x14_1).length : Int)
              rotate_left
              · rw [if_neg c9] at H
                exact absurd H (by simp)
              rw [if_pos c9] at H
              have c9b0 : decide (x22_2 < ((rd_L8 l1 x14_1).length : Int)) = true := decide_eq_true c9
              clear c9
              by_cases c10 : ((rd_T55 (rd_L8 l1 x14_1) x22_2).f0) ≥ 0
              · rw [if_pos c10] at H
                have c10b0 : decide (0 ≤ ((rd_T55 (rd_L8 l1 x14_1) x22_2).f0)) = true := decide_eq_true c10; clear c10
                by_cases c11 : ((rd_T55 (rd_L8 l1 x14_1) x22_2).f0) < (l0.length : Int)
                · rw [if_pos c11] at H
                  have c11b0 : decide (((rd_T55 (rd_L8 l1 x14_1) x22_2).f0) < (l0.length : Int)) = true := decide_eq_true c11
                  clear c11
                  by_cases c12 : 0 ≤ ((rd_T55 (rd_L8 l1 x14_1) x22_2).f0)
                  rotate_left
                  · rw [if_neg c12] at H
                    exact absurd H (by simp)
                  rw [if_pos c12] at H; have c12b0 : decide (0 ≤ ((rd_T55 (rd_L8 l1 x14_1) x22_2).f0)) = true := decide_eq_true c12; clear c12
                  by_cases c13 : (((rd_T45 l0 ((rd_T55 (rd_L8 l1 x14_1) x22_2).f0)).f0) == ((rd_T55 (rd_L8 l1 x14_1) x22_2).f1.f0) && (((rd_T45 l0 ((rd_T55 (rd_L8 l1 x14_1) x22_2).f0)).f1) == ((rd_T55 (rd_L8 l1 x14_1) x22_2).f1.f1) && (((rd_T45 l0 ((rd_T55 (rd_L8 l1 x14_1) x22_2).f0)).f2) == ((rd_T55 (rd_L8 l1 x14_1) x22_2).f1.f2) && (((rd_T45 l0 ((rd_T55 (rd_L8 l1 x14_1) x22_2).f0)).f3) == ((rd_T55 (rd_L8 l1 x14_1) x22_2).f1.f3) && (((rd_T45 l0 ((rd_T55 (rd_L8 l1 x14_1) x22_2).f0)).f4) == ((rd_T55 (rd_L8 l1 x14_1) x22_2).f1.f4) && (((rd_T45 l0 ((rd_T55 (rd_L8 l1 x14_1) x22_2).f0)).f5) == ((rd_T55 (rd_L8 l1 x14_1) x22_2).f1.f5))))))) = true
                  · rw [if_pos c13] at H
                    have c13b0 : (((rd_T45 l0 ((rd_T55 (rd_L8 l1 x14_1) x22_2).f0)).f0) == ((rd_T55 (rd_L8 l1 x14_1) x22_2).f1.f0) && (((rd_T45 l0 ((rd_T55 (rd_L8 l1 x14_1) x22_2).f0)).f1) == ((rd_T55 (rd_L8 l1 x14_1) x22_2).f1.f1) && (((rd_T45 l0 ((rd_T55 (rd_L8 l1 x14_1) x22_2).f0)).f2) == ((rd_T55 (rd_L8 l1 x14_1) x22_2).f1.f2) && (((rd_T45 l0 ((rd_T55 (rd_L8 l1 x14_1) x22_2).f0)).f3) == ((rd_T55 (rd_L8 l1 x14_1) x22_2).f1.f3) && (((rd_T45 l0 ((rd_T55 (rd_L8 l1 x14_1) x22_2).f0)).f4) == ((rd_T55 (rd_L8 l1 x14_1) x22_2).f1.f4) && (((rd_T45 l0 ((rd_T55 (rd_L8 l1 x14_1) x22_2).f0)).f5) == ((rd_T55 (rd_L8 l1 x14_1) x22_2).f1.f5))))))) = true := c13
                    (try (have c13b1 : decide (((rd_T45 l0 ((rd_T55 (rd_L8 l1 x14_1) x22_2).f0)).f0) = ((rd_T55 (rd_L8 l1 x14_1) x22_2).f1.f0) && (((rd_T45 l0 ((rd_T55 (rd_L8 l1 x14_1) x22_2).f0)).f1) == ((rd_T55 (rd_L8 l1 x14_1) x22_2).f1.f1) && (((rd_T45 l0 ((rd_T55 (rd_L8 l1 x14_1) x22_2).f0)).f2) == ((rd_T55 (rd_L8 l1 x14_1) x22_2).f1.f2) && (((rd_T45 l0 ((rd_T55 (rd_L8 l1 x14_1) x22_2).f0)).f3) == ((rd_T55 (rd_L8 l1 x14_1) x22_2).f1.f3) && (((rd_T45 l0 ((rd_T55 (rd_L8 l1 x14_1) x22_2).f0)).f4) == ((rd_T55 (rd_L8 l1 x14_1) x22_2).f1.f4) && (((rd_T45 l0 ((rd_T55 (rd_L8 l1 x14_1) x22_2).f0)).f5) == ((rd_T55 (rd_L8 l1 x14_1) x22_2).f1.f5))))))) = true := by simpa using c13))
                    (try (have c13b2 : (((rd_T45 l0 ((rd_T55 (rd_L8 l1 x14_1) x22_2).f0)).f0) == ((rd_T55 (rd_L8 l1 x14_1) x22_2).f1.f0) && (((rd_T45 l0 ((rd_T55 (rd_L8 l1 x14_1) x22_2).f0)).f1) == ((rd_T55 (rd_L8 l1 x14_1) x22_2).f1.f1) && (((rd_T45 l0 ((rd_T55 (rd_L8 l1 x14_1) x22_2).f0)).f2) == ((rd_T55 (rd_L8 l1 x14_1) x22_2).f1.f2) && (((rd_T45 l0 ((rd_T55 (rd_L8 l1 x14_1) x22_2).f0)).f3) == ((rd_T55 (rd_L8 l1 x14_1) x22_2).f1.f3) && (((rd_T45 l0 ((rd_T55 (rd_L8 l1 x14_1) x22_2).f0)).f4) == ((rd_T55 (rd_L8 l1 x14_1) x22_2).f1.f4) && (((rd_T45 l0 ((rd_T55 (rd_L8 l1 x14_1) x22_2).f0)).f5) == ((rd_T55 (rd_L8 l1 x14_1) x22_2).f1.f5))))))) = true := by simpa using c13))
                    clear c13
                    by_cases c14 : 0 ≤ x14_1
                    rotate_left
                    · rw [if_neg c14] at H
                      exact absurd H (by simp)
                    rw [if_pos c14] at H; have c14b0 : decide (0 ≤ x14_1) = true := decide_eq_true c14; clear c14
                    by_cases c15 : x14_1 < (l0.length : Int)
                    rotate_left
                    · rw [if_neg c15] at H
                      exact absurd H (by simp)
                    rw [if_pos c15] at H
                    have c15b0 : decide (x14_1 < (l0.length : Int)) = true := decide_eq_true c15
                    clear c15; replace H := Option.bind_eq_some_iff.mp H; obtain ⟨t410, A160, H⟩ := H
                    replace H : (if t410 = true then (if x5_2.length < 8796093022208 then (graph_Fresh.l1 k2 l0 l1 (x5_2 ++ [(⟨x14_1, (rd_T55 (rd_L8 l1 x14_1) x22_2).f0⟩ : S36)]) x14_1 ji3 x14_1 (rd_L8 l1 x14_1) ((rd_L8 l1 x14_1).length : Int) (wrap64 (x22_2 + 1))) else (none)) else (graph_Fresh.l1 k2 l0 l1 x5_2 x14_1 ji3 x14_1 (rd_L8 l1 x14_1) ((rd_L8 l1 x14_1).length : Int) (wrap64 (x22_2 + 1)))) = some r := H
                    have A16 := YK A160; clear A160
                    by_cases c17 : t410 = true
                    · subst c17
                      have H1 : (if x5_2.length < 8796093022208 then (graph_Fresh.l1 k2 l0 l1 (x5_2 ++ [(⟨x14_1, (rd_T55 (rd_L8 l1 x14_1) x22_2).f0⟩ : S36)]) x14_1 ji3 x14_1 (rd_L8 l1 x14_1) ((rd_L8 l1 x14_1).length : Int) (wrap64 (x22_2 + 1))) else (none)) = some r := by rw [if_pos rfl] at H; exact H
                      clear H
                      have H := H1
                      clear H1
                      by_cases c18 : x5_2.length < 8796093022208
                      rotate_left
                      · rw [if_neg c18] at H
                        exact absurd H (by simp)
                      rw [if_pos c18] at H; have LMc18 := YK c18; clear c18
                      obtain ⟨y411, hy411⟩ : ∃ y_ : List (S36), y_ = (x5_2 ++ [(⟨x14_1, (rd_T55 (rd_L8 l1 x14_1) x22_2).f0⟩ : S36)]) := ⟨_, rfl⟩
                      replace H : (graph_Fresh.l1 k2 l0 l1 y411 x14_1 ji3 x14_1 (rd_L8 l1 x14_1) ((rd_L8 l1 x14_1).length : Int) (wrap64 (x22_2 + 1))) = some r := by first | (rw [hy411]; with_reducible exact H) | (have H2_ := (Option.bind_some _ _).symm.trans H; rw [hy411]; with_reducible exact H2_) | (have H2_ := (Option.bind_some _ _).symm.trans H; with_reducible exact H2_) | with_reducible exact H | (rw [hy411]; exact H) | exact H
                      have Ny411 := YK hy411; clear hy411
                      have H' := YK H
                      clear H
                      have p406 : 0 ≤ (x22_2 : Int) := of_decide_eq_true (by first | (with_reducible assumption) | assumption)
                      have q406 : x22_2 < ((rd_L8 l1 x14_1).length : Int) := of_decide_eq_true (by first | (with_reducible assumption) | assumption)
                      obtain ⟨ad406, e406, hx406_0, hx406_1, hx406_2, hx406_3, hx406_4, hx406_5, hx406_6⟩ := at_T55 HR405_0.out x22_2 p406 q406
                      cases e406
                      replace hx406_0 := (HB.out.cell (World.block_lt_of_cell? w _ hx406_0)).trans hx406_0
                      replace hx406_1 := (HB.out.cell (World.block_lt_of_cell? w _ hx406_1)).trans hx406_1
                      replace hx406_2 := (HB.out.cell (World.block_lt_of_cell? w _ hx406_2)).trans hx406_2
                      replace hx406_3 := (HB.out.cell (World.block_lt_of_cell? w _ hx406_3)).trans hx406_3
                      replace hx406_4 := (HB.out.cell (World.block_lt_of_cell? w _ hx406_4)).trans hx406_4
                      replace hx406_5 := (HB.out.cell (World.block_lt_of_cell? w _ hx406_5)).trans hx406_5
                      replace hx406_6 := (HB.out.cell (World.block_lt_of_cell? w _ hx406_6)).trans hx406_6
                      replace p406 := eq_true p406
                      replace q406 := eq_true q406
                      try go_wp2_with (first | ((with_reducible refine gate_dst (N := 8) rfl ?_); (try (refine gate_guard (by rfl) ?_; dsimp only)); refine box_event ?hg (N := 8) ?hd (cs := #[.int .i64 0, .bool false, .int .i64 0, .int .i64 0, .int .i64 0, .int .i64 0, .int .i64 0]) (t := 55) ?hr ?_; (case hd => rfl); (case hg => rfl); (case hr => first | (go_simp; done) | (go_simp; rfl)); intro gb407 hg w19 hbox hb; have n0_ := YK (YR (by (with_reducible repeat (first | apply YO | apply YP | apply YQ)); exact HO_5.out) hb); have n1_ := YK (YD (by repeat (first | (with_reducible first | exact HB.out | apply YA | apply YB | apply YC) | exact HB.out)) hb); have n2_ := YK (hbox); have n3_ := YK ((by rw [hg]; exact (YE (by repeat (first | (with_reducible first | exact HB.out | apply YA | apply YB | apply YC) | exact HB.out))) : w.heap.size ≤ gb407)); have n4_ := YK ((by rw [hg]; exact (YE (by repeat (first | (with_reducible first | exact HB.out | apply YA | apply YB | apply YC) | exact HB.out))) : w.heap.size ≤ gb407)); clear HO_5; clear HB; have HO_5 := n0_; have HB := n1_; have BK407 := n2_; have GW407 := n3_; have GE407 := n4_; clear n0_ n1_ n2_ n3_ n4_; clear hb hbox hg; have hcz20_0 : w19.cell? ⟨gb407, 0, none⟩ = some (.int .i64 0) := (YI BK407.out 0).trans rfl; have hcz20_1 : w19.cell? ⟨gb407, 1, none⟩ = some (.bool false) := (YI BK407.out 1).trans rfl; have hcz20_2 : w19.cell? ⟨gb407, 2, none⟩ = some (.int .i64 0) := (YI BK407.out 2).trans rfl; have hcz20_3 : w19.cell? ⟨gb407, 3, none⟩ = some (.int .i64 0) := (YI BK407.out 3).trans rfl; have hcz20_4 : w19.cell? ⟨gb407, 4, none⟩ = some (.int .i64 0) := (YI BK407.out 4).trans rfl; have hcz20_5 : w19.cell? ⟨gb407, 5, none⟩ = some (.int .i64 0) := (YI BK407.out 5).trans rfl; have hcz20_6 : w19.cell? ⟨gb407, 6, none⟩ = some (.int .i64 0) := (YI BK407.out 6).trans rfl; have hfz20_0 := YJ BK407.out 0; have hfz20_1 := YJ BK407.out 1; have hfz20_2 := YJ BK407.out 2; have hfz20_3 := YJ BK407.out 3; have hfz20_4 := YJ BK407.out 4; have hfz20_5 := YJ BK407.out 5; have hfz20_6 := YJ BK407.out 6))
                      have n0_ : Aside0 (Kd.R k36 36 (((((((w19.setCell ⟨gb407, 0, none⟩ (.int .i64 ((rd_T55 (rd_L8 l1 x14_1) x22_2).f0))).setCell ⟨gb407, 1, none⟩ (.bool ((rd_T55 (rd_L8 l1 x14_1) x22_2).f1.f0))).setCell ⟨gb407, 2, none⟩ (.int .i64 ((rd_T55 (rd_L8 l1 x14_1) x22_2).f1.f1))).setCell ⟨gb407, 3, none⟩ (.int .i64 ((rd_T55 (rd_L8 l1 x14_1) x22_2).f1.f2))).setCell ⟨gb407, 4, none⟩ (.int .i64 ((rd_T55 (rd_L8 l1 x14_1) x22_2).f1.f3))).setCell ⟨gb407, 5, none⟩ (.int .i64 ((rd_T55 (rd_L8 l1 x14_1) x22_2).f1.f4))).setCell ⟨gb407, 6, none⟩ (.int .i64 ((rd_T55 (rd_L8 l1 x14_1) x22_2).f1.f5))) w.heap.size (fun _ => True) u5 x5_2) := ⟨by (with_reducible repeat (first | apply YO | apply YP | apply YQ)); exact Kd.R_mono (Kd.R_far (p := ⟨gb407, 6, none⟩) (Kd.R_far (p := ⟨gb407, 5, none⟩) (Kd.R_far (p := ⟨gb407, 4, none⟩) (Kd.R_far (p := ⟨gb407, 3, none⟩) (Kd.R_far (p := ⟨gb407, 2, none⟩) (Kd.R_far (p := ⟨gb407, 1, none⟩) (Kd.R_far (p := ⟨gb407, 0, none⟩) (Kd.R_types HO_5.out BK407.out (by decide)) (fun _ hk => hk.2) (.int .i64 ((rd_T55 (rd_L8 l1 x14_1) x22_2).f0))) (fun _ hk => hk.2) (.bool ((rd_T55 (rd_L8 l1 x14_1) x22_2).f1.f0))) (fun _ hk => hk.2) (.int .i64 ((rd_T55 (rd_L8 l1 x14_1) x22_2).f1.f1))) (fun _ hk => hk.2) (.int .i64 ((rd_T55 (rd_L8 l1 x14_1) x22_2).f1.f2))) (fun _ hk => hk.2) (.int .i64 ((rd_T55 (rd_L8 l1 x14_1) x22_2).f1.f3))) (fun _ hk => hk.2) (.int .i64 ((rd_T55 (rd_L8 l1 x14_1) x22_2).f1.f4))) (fun _ hk => hk.2) (.int .i64 ((rd_T55 (rd_L8 l1 x14_1) x22_2).f1.f5))) (fun _ hk => trivial)⟩
                      have n1_ : Aside0 ((((((((w19.setCell ⟨gb407, 0, none⟩ (.int .i64 ((rd_T55 (rd_L8 l1 x14_1) x22_2).f0))).setCell ⟨gb407, 1, none⟩ (.bool ((rd_T55 (rd_L8 l1 x14_1) x22_2).f1.f0))).setCell ⟨gb407, 2, none⟩ (.int .i64 ((rd_T55 (rd_L8 l1 x14_1) x22_2).f1.f1))).setCell ⟨gb407, 3, none⟩ (.int .i64 ((rd_T55 (rd_L8 l1 x14_1) x22_2).f1.f2))).setCell ⟨gb407, 4, none⟩ (.int .i64 ((rd_T55 (rd_L8 l1 x14_1) x22_2).f1.f3))).setCell ⟨gb407, 5, none⟩ (.int .i64 ((rd_T55 (rd_L8 l1 x14_1) x22_2).f1.f4))).setCell ⟨gb407, 6, none⟩ (.int .i64 ((rd_T55 (rd_L8 l1 x14_1) x22_2).f1.f5))).heap[gb407]? = some (.cells #[.int .i64 ((rd_T55 (rd_L8 l1 x14_1) x22_2).f0), .bool ((rd_T55 (rd_L8 l1 x14_1) x22_2).f1.f0), .int .i64 ((rd_T55 (rd_L8 l1 x14_1) x22_2).f1.f1), .int .i64 ((rd_T55 (rd_L8 l1 x14_1) x22_2).f1.f2), .int .i64 ((rd_T55 (rd_L8 l1 x14_1) x22_2).f1.f3), .int .i64 ((rd_T55 (rd_L8 l1 x14_1) x22_2).f1.f4), .int .i64 ((rd_T55 (rd_L8 l1 x14_1) x22_2).f1.f5)] 55 (0, 0))) := ⟨by (with_reducible repeat (first | refine YF ?_ _ | refine YG ?_ | refine YH ?_ _)); refine blk_put (cs := #[.int .i64 ((rd_T55 (rd_L8 l1 x14_1) x22_2).f0), .bool ((rd_T55 (rd_L8 l1 x14_1) x22_2).f1.f0), .int .i64 ((rd_T55 (rd_L8 l1 x14_1) x22_2).f1.f1), .int .i64 ((rd_T55 (rd_L8 l1 x14_1) x22_2).f1.f2), .int .i64 ((rd_T55 (rd_L8 l1 x14_1) x22_2).f1.f3), .int .i64 ((rd_T55 (rd_L8 l1 x14_1) x22_2).f1.f4), .int .i64 0]) ?_ 6 _ rfl; (with_reducible repeat (first | refine YF ?_ _ | refine YG ?_ | refine YH ?_ _)); refine blk_put (cs := #[.int .i64 ((rd_T55 (rd_L8 l1 x14_1) x22_2).f0), .bool ((rd_T55 (rd_L8 l1 x14_1) x22_2).f1.f0), .int .i64 ((rd_T55 (rd_L8 l1 x14_1) x22_2).f1.f1), .int .i64 ((rd_T55 (rd_L8 l1 x14_1) x22_2).f1.f2), .int .i64 ((rd_T55 (rd_L8 l1 x14_1) x22_2).f1.f3), .int .i64 0, .int .i64 0]) ?_ 5 _ rfl; (with_reducible repeat (first | refine YF ?_ _ | refine YG ?_ | refine YH ?_ _)); refine blk_put (cs := #[.int .i64 ((rd_T55 (rd_L8 l1 x14_1) x22_2).f0), .bool ((rd_T55 (rd_L8 l1 x14_1) x22_2).f1.f0), .int .i64 ((rd_T55 (rd_L8 l1 x14_1) x22_2).f1.f1), .int .i64 ((rd_T55 (rd_L8 l1 x14_1) x22_2).f1.f2), .int .i64 0, .int .i64 0, .int .i64 0]) ?_ 4 _ rfl; (with_reducible repeat (first | refine YF ?_ _ | refine YG ?_ | refine YH ?_ _)); refine blk_put (cs := #[.int .i64 ((rd_T55 (rd_L8 l1 x14_1) x22_2).f0), .bool ((rd_T55 (rd_L8 l1 x14_1) x22_2).f1.f0), .int .i64 ((rd_T55 (rd_L8 l1 x14_1) x22_2).f1.f1), .int .i64 0, .int .i64 0, .int .i64 0, .int .i64 0]) ?_ 3 _ rfl; (with_reducible repeat (first | refine YF ?_ _ | refine YG ?_ | refine YH ?_ _)); refine blk_put (cs := #[.int .i64 ((rd_T55 (rd_L8 l1 x14_1) x22_2).f0), .bool ((rd_T55 (rd_L8 l1 x14_1) x22_2).f1.f0), .int .i64 0, .int .i64 0, .int .i64 0, .int .i64 0, .int .i64 0]) ?_ 2 _ rfl; (with_reducible repeat (first | refine YF ?_ _ | refine YG ?_ | refine YH ?_ _)); refine blk_put (cs := #[.int .i64 ((rd_T55 (rd_L8 l1 x14_1) x22_2).f0), .bool false, .int .i64 0, .int .i64 0, .int .i64 0, .int .i64 0, .int .i64 0]) ?_ 1 _ rfl; (with_reducible repeat (first | refine YF ?_ _ | refine YG ?_ | refine YH ?_ _)); refine blk_put (cs := #[.int .i64 0, .bool false, .int .i64 0, .int .i64 0, .int .i64 0, .int .i64 0, .int .i64 0]) ?_ 0 _ rfl; (with_reducible repeat (first | refine YF ?_ _ | refine YG ?_ | refine YH ?_ _)); exact BK407.out⟩
                      have n2_ : Aside0 (Below w.heap.size w (((((((w19.setCell ⟨gb407, 0, none⟩ (.int .i64 ((rd_T55 (rd_L8 l1 x14_1) x22_2).f0))).setCell ⟨gb407, 1, none⟩ (.bool ((rd_T55 (rd_L8 l1 x14_1) x22_2).f1.f0))).setCell ⟨gb407, 2, none⟩ (.int .i64 ((rd_T55 (rd_L8 l1 x14_1) x22_2).f1.f1))).setCell ⟨gb407, 3, none⟩ (.int .i64 ((rd_T55 (rd_L8 l1 x14_1) x22_2).f1.f2))).setCell ⟨gb407, 4, none⟩ (.int .i64 ((rd_T55 (rd_L8 l1 x14_1) x22_2).f1.f3))).setCell ⟨gb407, 5, none⟩ (.int .i64 ((rd_T55 (rd_L8 l1 x14_1) x22_2).f1.f4))).setCell ⟨gb407, 6, none⟩ (.int .i64 ((rd_T55 (rd_L8 l1 x14_1) x22_2).f1.f5)))) := ⟨by repeat (first | (with_reducible first | exact HB.out | apply YA | apply YB | apply YC | refine below_set ?_ GE407.out) | exact HB.out)⟩
                      (try clear HO_5); (try clear BK407); (try clear HB)
                      generalize (((((((w19.setCell ⟨gb407, 0, none⟩ (.int .i64 ((rd_T55 (rd_L8 l1 x14_1) x22_2).f0))).setCell ⟨gb407, 1, none⟩ (.bool ((rd_T55 (rd_L8 l1 x14_1) x22_2).f1.f0))).setCell ⟨gb407, 2, none⟩ (.int .i64 ((rd_T55 (rd_L8 l1 x14_1) x22_2).f1.f1))).setCell ⟨gb407, 3, none⟩ (.int .i64 ((rd_T55 (rd_L8 l1 x14_1) x22_2).f1.f2))).setCell ⟨gb407, 4, none⟩ (.int .i64 ((rd_T55 (rd_L8 l1 x14_1) x22_2).f1.f3))).setCell ⟨gb407, 5, none⟩ (.int .i64 ((rd_T55 (rd_L8 l1 x14_1) x22_2).f1.f4))).setCell ⟨gb407, 6, none⟩ (.int .i64 ((rd_T55 (rd_L8 l1 x14_1) x22_2).f1.f5))) = w21 at n0_ n1_ n2_ ⊢
                      have HO_5 := n0_; have BK407 := n1_; have HB := n2_; clear n0_ n1_ n2_
                      have n0_ := YK (YQ HO_5.out)
                      have n1_ := YK (YG BK407.out)
                      have n2_ := YK (YC HB.out)
                      clear HO_5; clear BK407; clear HB; have HO_5 := n0_; have BK407 := n1_; have HB := n2_; clear n0_ n1_ n2_
                      have p408 : 0 ≤ (((rd_T55 (rd_L8 l1 x14_1) x22_2).f0) : Int) := of_decide_eq_true (by first | (with_reducible assumption) | assumption)
                      have q408 : ((rd_T55 (rd_L8 l1 x14_1) x22_2).f0) < (l0.length : Int) := of_decide_eq_true (by first | (with_reducible assumption) | assumption)
                      obtain ⟨ad408, e408, hx408_0, hx408_1, hx408_2, hx408_3, hx408_4, hx408_5⟩ := at_T45 HR0.out ((rd_T55 (rd_L8 l1 x14_1) x22_2).f0) p408 q408
                      have hw408_5 := hx408_5
                      have hw408_4 := hx408_4
                      have hw408_3 := hx408_3
                      have hw408_2 := hx408_2
                      have hw408_1 := hx408_1
                      have hw408_0 := hx408_0
                      cases e408
                      replace hx408_0 := (HB.out.cell (World.block_lt_of_cell? w _ hx408_0)).trans hx408_0
                      replace hx408_1 := (HB.out.cell (World.block_lt_of_cell? w _ hx408_1)).trans hx408_1
                      replace hx408_2 := (HB.out.cell (World.block_lt_of_cell? w _ hx408_2)).trans hx408_2
                      replace hx408_3 := (HB.out.cell (World.block_lt_of_cell? w _ hx408_3)).trans hx408_3
                      replace hx408_4 := (HB.out.cell (World.block_lt_of_cell? w _ hx408_4)).trans hx408_4
                      replace hx408_5 := (HB.out.cell (World.block_lt_of_cell? w _ hx408_5)).trans hx408_5
                      replace p408 := eq_true p408
                      replace q408 := eq_true q408
                      have p409 : 0 ≤ (x14_1 : Int) := of_decide_eq_true (by first | (with_reducible assumption) | assumption)
                      have q409 : x14_1 < (l0.length : Int) := of_decide_eq_true (by first | (with_reducible assumption) | assumption)
                      obtain ⟨ad409, e409, hx409_0, hx409_1, hx409_2, hx409_3, hx409_4, hx409_5⟩ := at_T45 HR0.out x14_1 p409 q409
                      have hw409_5 := hx409_5
                      have hw409_4 := hx409_4
                      have hw409_3 := hx409_3
                      have hw409_2 := hx409_2
                      have hw409_1 := hx409_1
                      have hw409_0 := hx409_0
                      obtain rfl : ad408 = ad409 := (by injection e409)
                      replace hx409_0 := (HB.out.cell (World.block_lt_of_cell? w _ hx409_0)).trans hx409_0
                      replace hx409_1 := (HB.out.cell (World.block_lt_of_cell? w _ hx409_1)).trans hx409_1
                      replace hx409_2 := (HB.out.cell (World.block_lt_of_cell? w _ hx409_2)).trans hx409_2
                      replace hx409_3 := (HB.out.cell (World.block_lt_of_cell? w _ hx409_3)).trans hx409_3
                      replace hx409_4 := (HB.out.cell (World.block_lt_of_cell? w _ hx409_4)).trans hx409_4
                      replace hx409_5 := (HB.out.cell (World.block_lt_of_cell? w _ hx409_5)).trans hx409_5
                      replace p409 := eq_true p409
                      replace q409 := eq_true q409
                      refine start_ (n := 29) (S := fun w' => w'.cell? ⟨gb407, 0, none⟩ = some (.int .i64 ((rd_T55 (rd_L8 l1 x14_1) x22_2).f0)) ∧ w'.cell? ⟨gb407, 1, none⟩ = some (.bool ((rd_T55 (rd_L8 l1 x14_1) x22_2).f1.f0)) ∧ w'.cell? ⟨gb407, 2, none⟩ = some (.int .i64 ((rd_T55 (rd_L8 l1 x14_1) x22_2).f1.f1)) ∧ w'.cell? ⟨gb407, 3, none⟩ = some (.int .i64 ((rd_T55 (rd_L8 l1 x14_1) x22_2).f1.f2)) ∧ w'.cell? ⟨gb407, 4, none⟩ = some (.int .i64 ((rd_T55 (rd_L8 l1 x14_1) x22_2).f1.f3)) ∧ w'.cell? ⟨gb407, 5, none⟩ = some (.int .i64 ((rd_T55 (rd_L8 l1 x14_1) x22_2).f1.f4)) ∧ w'.cell? ⟨gb407, 6, none⟩ = some (.int .i64 ((rd_T55 (rd_L8 l1 x14_1) x22_2).f1.f5)) ∧ w'.cell? (ad408.add ((((rd_T55 (rd_L8 l1 x14_1) x22_2).f0)).toNat * 6)) = some (.bool ((rd_T45 l0 ((rd_T55 (rd_L8 l1 x14_1) x22_2).f0)).f0)) ∧ w'.cell? ⟨(ad408.add ((((rd_T55 (rd_L8 l1 x14_1) x22_2).f0)).toNat * 6)).block, (ad408.add ((((rd_T55 (rd_L8 l1 x14_1) x22_2).f0)).toNat * 6)).off + 1, none⟩ = some (.int .i64 ((rd_T45 l0 ((rd_T55 (rd_L8 l1 x14_1) x22_2).f0)).f1)) ∧ w'.cell? ⟨(ad408.add ((((rd_T55 (rd_L8 l1 x14_1) x22_2).f0)).toNat * 6)).block, (ad408.add ((((rd_T55 (rd_L8 l1 x14_1) x22_2).f0)).toNat * 6)).off + 2, none⟩ = some (.int .i64 ((rd_T45 l0 ((rd_T55 (rd_L8 l1 x14_1) x22_2).f0)).f2)) ∧ w'.cell? ⟨(ad408.add ((((rd_T55 (rd_L8 l1 x14_1) x22_2).f0)).toNat * 6)).block, (ad408.add ((((rd_T55 (rd_L8 l1 x14_1) x22_2).f0)).toNat * 6)).off + 3, none⟩ = some (.int .i64 ((rd_T45 l0 ((rd_T55 (rd_L8 l1 x14_1) x22_2).f0)).f3)) ∧ w'.cell? ⟨(ad408.add ((((rd_T55 (rd_L8 l1 x14_1) x22_2).f0)).toNat * 6)).block, (ad408.add ((((rd_T55 (rd_L8 l1 x14_1) x22_2).f0)).toNat * 6)).off + 4, none⟩ = some (.int .i64 ((rd_T45 l0 ((rd_T55 (rd_L8 l1 x14_1) x22_2).f0)).f4)) ∧ w'.cell? ⟨(ad408.add ((((rd_T55 (rd_L8 l1 x14_1) x22_2).f0)).toNat * 6)).block, (ad408.add ((((rd_T55 (rd_L8 l1 x14_1) x22_2).f0)).toNat * 6)).off + 5, none⟩ = some (.int .i64 ((rd_T45 l0 ((rd_T55 (rd_L8 l1 x14_1) x22_2).f0)).f5)) ∧ w'.cell? (ad408.add ((x14_1).toNat * 6)) = some (.bool ((rd_T45 l0 x14_1).f0)) ∧ w'.cell? ⟨(ad408.add ((x14_1).toNat * 6)).block, (ad408.add ((x14_1).toNat * 6)).off + 1, none⟩ = some (.int .i64 ((rd_T45 l0 x14_1).f1)) ∧ w'.cell? ⟨(ad408.add ((x14_1).toNat * 6)).block, (ad408.add ((x14_1).toNat * 6)).off + 2, none⟩ = some (.int .i64 ((rd_T45 l0 x14_1).f2)) ∧ w'.cell? ⟨(ad408.add ((x14_1).toNat * 6)).block, (ad408.add ((x14_1).toNat * 6)).off + 3, none⟩ = some (.int .i64 ((rd_T45 l0 x14_1).f3)) ∧ w'.cell? ⟨(ad408.add ((x14_1).toNat * 6)).block, (ad408.add ((x14_1).toNat * 6)).off + 4, none⟩ = some (.int .i64 ((rd_T45 l0 x14_1).f4)) ∧ w'.cell? ⟨(ad408.add ((x14_1).toNat * 6)).block, (ad408.add ((x14_1).toNat * 6)).off + 5, none⟩ = some (.int .i64 ((rd_T45 l0 x14_1).f5))) (ds := []) #[false, false, false, false, false, false, false, false, false, false, false, false, false, false, false, false, false, false, false, false, false, false, false, false, false, false, false, false, false] (by kernel_rfl) rfl rfl ⟨(YI BK407.out 0).trans rfl, (YI BK407.out 1).trans rfl, (YI BK407.out 2).trans rfl, (YI BK407.out 3).trans rfl, (YI BK407.out 4).trans rfl, (YI BK407.out 5).trans rfl, (YI BK407.out 6).trans rfl, ((HB.out.cell (World.block_lt_of_cell? w _ hw408_0)).trans hw408_0), ((HB.out.cell (World.block_lt_of_cell? w _ hw408_1)).trans hw408_1), ((HB.out.cell (World.block_lt_of_cell? w _ hw408_2)).trans hw408_2), ((HB.out.cell (World.block_lt_of_cell? w _ hw408_3)).trans hw408_3), ((HB.out.cell (World.block_lt_of_cell? w _ hw408_4)).trans hw408_4), ((HB.out.cell (World.block_lt_of_cell? w _ hw408_5)).trans hw408_5), ((HB.out.cell (World.block_lt_of_cell? w _ hw409_0)).trans hw409_0), ((HB.out.cell (World.block_lt_of_cell? w _ hw409_1)).trans hw409_1), ((HB.out.cell (World.block_lt_of_cell? w _ hw409_2)).trans hw409_2), ((HB.out.cell (World.block_lt_of_cell? w _ hw409_3)).trans hw409_3), ((HB.out.cell (World.block_lt_of_cell? w _ hw409_4)).trans hw409_4), ((HB.out.cell (World.block_lt_of_cell? w _ hw409_5)).trans hw409_5)⟩ (fun hHeld => ?_); refine with_tabW graph_Fresh.tab8 graph_Fresh.bits8 (fun HT_ HW_ => ?_)
                      generalize w21.drew = w22 at HO_5 BK407 HB hx408_0 hx408_1 hx408_2 hx408_3 hx408_4 hx408_5 hx409_0 hx409_1 hx409_2 hx409_3 hx409_4 hx409_5 hHeld ⊢
                      refine pure_ (i := 0) (N := some 26) (v := ?_) (a' := ?_) #[true, false, false, false, false, false, false, false, false, false, false, false, false, false, false, false, false, false, false, false, false, false, false, false, false, false, false, false, false] rfl rfl (any_of HT_.out (by kernel_rfl)) (fun _ _ _ h => h) (Or.inl ⟨by rfl, ?_⟩) ?_ ?_
                      rotate_left
                      · intro w'
                        first | (go_simp; with_reducible rfl) | (have hj_ : (l1.length : Int) = ji3 := (by rw [← hji3]; simp only [mn]; split <;> omega); go_simp; with_reducible rfl) | (have hj_ : (l0.length : Int) = ji3 := (by rw [← hji3]; simp only [mn]; split <;> omega); go_simp; with_reducible rfl)
                      rotate_left
                      · simp only [Act.put, YL, YM, YN, i64_w, i32_w]
                        rfl
                      refine take_ (i := 1) (N := some 27) (v := ?_) (a' := ?_) #[true, true, false, false, false, false, false, false, false, false, false, false, false, false, false, false, false, false, false, false, false, false, false, false, false, false, false, false, false] rfl rfl (take_ofW HT_.out HW_.out (by kernel_rfl)) (fun _ _ _ h => h) (Or.inl ⟨by rfl, ?_⟩) hHeld ?_ ?_
                      rotate_left
                      · rintro w' ⟨s0, s1, s2, s3, s4, s5, s6, s7, s8, s9, s10, s11, s12, s13, s14, s15, s16, s17, s18⟩
                        go_simp; with_reducible rfl
                      rotate_left
                      · simp only [Act.put, YL, YM, YN, i64_w, i32_w]
                        rfl
                      refine pure_ (i := 2) (N := some 28) (v := ?_) (a' := ?_) #[true, true, true, false, false, false, false, false, false, false, false, false, false, false, false, false, false, false, false, false, false, false, false, false, false, false, false, false, false] rfl rfl (any_of HT_.out (by kernel_rfl)) (fun _ _ _ h => h) (Or.inl ⟨by rfl, ?_⟩) ?_ ?_
                      rotate_left
                      · intro w'
                        first | (go_simp; with_reducible rfl) | (have hj_ : (l1.length : Int) = ji3 := (by rw [← hji3]; simp only [mn]; split <;> omega); go_simp; with_reducible rfl) | (have hj_ : (l0.length : Int) = ji3 := (by rw [← hji3]; simp only [mn]; split <;> omega); go_simp; with_reducible rfl)
                      rotate_left
                      · simp only [Act.put, YL, YM, YN, i64_w, i32_w]
                        rfl
                      refine pure_ (i := 3) (N := some 29) (v := ?_) (a' := ?_) #[true, true, true, true, false, false, false, false, false, false, false, false, false, false, false, false, false, false, false, false, false, false, false, false, false, false, false, false, false] rfl rfl (any_of HT_.out (by kernel_rfl)) (fun _ _ _ h => h) (Or.inl ⟨by rfl, ?_⟩) ?_ ?_
                      rotate_left
                      · intro w'
                        first | (go_simp; with_reducible rfl) | (have hj_ : (l1.length : Int) = ji3 := (by rw [← hji3]; simp only [mn]; split <;> omega); go_simp; with_reducible rfl) | (have hj_ : (l0.length : Int) = ji3 := (by rw [← hji3]; simp only [mn]; split <;> omega); go_simp; with_reducible rfl)
                      rotate_left
                      · simp only [Act.put, YL, YM, YN, i64_w, i32_w]
                        rfl
                      refine pure_ (i := 4) (N := some 30) (v := ?_) (a' := ?_) #[true, true, true, true, true, false, false, false, false, false, false, false, false, false, false, false, false, false, false, false, false, false, false, false, false, false, false, false, false] rfl rfl (any_of HT_.out (by kernel_rfl)) (fun _ _ _ h => h) (Or.inl ⟨by rfl, ?_⟩) ?_ ?_
                      rotate_left
                      · intro w'
                        first | (go_simp; with_reducible rfl) | (have hj_ : (l1.length : Int) = ji3 := (by rw [← hji3]; simp only [mn]; split <;> omega); go_simp; with_reducible rfl) | (have hj_ : (l0.length : Int) = ji3 := (by rw [← hji3]; simp only [mn]; split <;> omega); go_simp; with_reducible rfl)
                      rotate_left
                      · simp only [Act.put, YL, YM, YN, i64_w, i32_w]
                        rfl
                      refine pure_ (i := 6) (N := some 32) (v := ?_) (a' := ?_) #[true, true, true, true, true, false, true, false, false, false, false, false, false, false, false, false, false, false, false, false, false, false, false, false, false, false, false, false, false] rfl rfl (any_of HT_.out (by kernel_rfl)) (fun _ _ _ h => h) (Or.inl ⟨by rfl, ?_⟩) ?_ ?_
                      rotate_left
                      · intro w'
                        first | (go_simp; with_reducible rfl) | (have hj_ : (l1.length : Int) = ji3 := (by rw [← hji3]; simp only [mn]; split <;> omega); go_simp; with_reducible rfl) | (have hj_ : (l0.length : Int) = ji3 := (by rw [← hji3]; simp only [mn]; split <;> omega); go_simp; with_reducible rfl)
                      rotate_left
                      · simp only [Act.put, YL, YM, YN, i64_w, i32_w]
                        rfl
                      refine pure_ (i := 7) (N := some 33) (v := ?_) (a' := ?_) #[true, true, true, true, true, false, true, true, false, false, false, false, false, false, false, false, false, false, false, false, false, false, false, false, false, false, false, false, false] rfl rfl (any_of HT_.out (by kernel_rfl)) (fun _ _ _ h => h) (Or.inl ⟨by rfl, ?_⟩) ?_ ?_
                      rotate_left
                      · intro w'
                        first | (go_simp; with_reducible rfl) | (have hj_ : (l1.length : Int) = ji3 := (by rw [← hji3]; simp only [mn]; split <;> omega); go_simp; with_reducible rfl) | (have hj_ : (l0.length : Int) = ji3 := (by rw [← hji3]; simp only [mn]; split <;> omega); go_simp; with_reducible rfl)
                      rotate_left
                      · simp only [Act.put, YL, YM, YN, i64_w, i32_w]
                        rfl
                      refine take_ (i := 5) (N := some 31) (v := ?_) (a' := ?_) #[true, true, true, true, true, true, true, true, false, false, false, false, false, false, false, false, false, false, false, false, false, false, false, false, false, false, false, false, false] rfl rfl (take_ofW HT_.out HW_.out (by kernel_rfl)) (fun _ _ _ h => h) (Or.inl ⟨by rfl, ?_⟩) hHeld ?_ ?_
                      rotate_left
                      · rintro w' ⟨s0, s1, s2, s3, s4, s5, s6, s7, s8, s9, s10, s11, s12, s13, s14, s15, s16, s17, s18⟩
                        go_simp; with_reducible rfl
                      rotate_left
                      · simp only [Act.put, YL, YM, YN, i64_w, i32_w]
                        rfl
                      refine pure_ (i := 8) (N := some 34) (v := ?_) (a' := ?_) #[true, true, true, true, true, true, true, true, true, false, false, false, false, false, false, false, false, false, false, false, false, false, false, false, false, false, false, false, false] rfl rfl (any_of HT_.out (by kernel_rfl)) (fun _ _ _ h => h) (Or.inl ⟨by rfl, ?_⟩) ?_ ?_
                      rotate_left
                      · intro w'
                        first | (go_simp; with_reducible rfl) | (have hj_ : (l1.length : Int) = ji3 := (by rw [← hji3]; simp only [mn]; split <;> omega); go_simp; with_reducible rfl) | (have hj_ : (l0.length : Int) = ji3 := (by rw [← hji3]; simp only [mn]; split <;> omega); go_simp; with_reducible rfl)
                      rotate_left
                      · simp only [Act.put, YL, YM, YN, i64_w, i32_w]
                        rfl
                      refine pure_ (i := 9) (N := some 35) (v := ?_) (a' := ?_) #[true, true, true, true, true, true, true, true, true, true, false, false, false, false, false, false, false, false, false, false, false, false, false, false, false, false, false, false, false] rfl rfl (any_of HT_.out (by kernel_rfl)) (fun _ _ _ h => h) (Or.inl ⟨by rfl, ?_⟩) ?_ ?_
                      rotate_left
                      · intro w'
                        first | (go_simp; with_reducible rfl) | (have hj_ : (l1.length : Int) = ji3 := (by rw [← hji3]; simp only [mn]; split <;> omega); go_simp; with_reducible rfl) | (have hj_ : (l0.length : Int) = ji3 := (by rw [← hji3]; simp only [mn]; split <;> omega); go_simp; with_reducible rfl)
                      rotate_left
                      · simp only [Act.put, YL, YM, YN, i64_w, i32_w]
                        rfl
                      refine pure_ (i := 10) (N := some 36) (v := ?_) (a' := ?_) #[true, true, true, true, true, true, true, true, true, true, true, false, false, false, false, false, false, false, false, false, false, false, false, false, false, false, false, false, false] rfl rfl (any_of HT_.out (by kernel_rfl)) (fun _ _ _ h => h) (Or.inl ⟨by rfl, ?_⟩) ?_ ?_
                      rotate_left
                      · intro w'
                        first | (go_simp; with_reducible rfl) | (have hj_ : (l1.length : Int) = ji3 := (by rw [← hji3]; simp only [mn]; split <;> omega); go_simp; with_reducible rfl) | (have hj_ : (l0.length : Int) = ji3 := (by rw [← hji3]; simp only [mn]; split <;> omega); go_simp; with_reducible rfl)
                      rotate_left
                      · simp only [Act.put, YL, YM, YN, i64_w, i32_w]
                        rfl
                      refine pure_ (i := 11) (N := some 37) (v := ?_) (a' := ?_) #[true, true, true, true, true, true, true, true, true, true, true, true, false, false, false, false, false, false, false, false, false, false, false, false, false, false, false, false, false] rfl rfl (any_of HT_.out (by kernel_rfl)) (fun _ _ _ h => h) (Or.inl ⟨by rfl, ?_⟩) ?_ ?_
                      rotate_left
                      · intro w'
                        first | (go_simp; with_reducible rfl) | (have hj_ : (l1.length : Int) = ji3 := (by rw [← hji3]; simp only [mn]; split <;> omega); go_simp; with_reducible rfl) | (have hj_ : (l0.length : Int) = ji3 := (by rw [← hji3]; simp only [mn]; split <;> omega); go_simp; with_reducible rfl)
                      rotate_left
                      · simp only [Act.put, YL, YM, YN, i64_w, i32_w]
                        rfl
                      refine pure_ (i := 12) (N := some 38) (v := ?_) (a' := ?_) #[true, true, true, true, true, true, true, true, true, true, true, true, true, false, false, false, false, false, false, false, false, false, false, false, false, false, false, false, false] rfl rfl (any_of HT_.out (by kernel_rfl)) (fun _ _ _ h => h) (Or.inl ⟨by rfl, ?_⟩) ?_ ?_
                      rotate_left
                      · intro w'
                        first | (go_simp; with_reducible rfl) | (have hj_ : (l1.length : Int) = ji3 := (by rw [← hji3]; simp only [mn]; split <;> omega); go_simp; with_reducible rfl) | (have hj_ : (l0.length : Int) = ji3 := (by rw [← hji3]; simp only [mn]; split <;> omega); go_simp; with_reducible rfl)
                      rotate_left
                      · simp only [Act.put, YL, YM, YN, i64_w, i32_w]
                        rfl
                      refine pure_ (i := 16) (N := some 42) (v := ?_) (a' := ?_) #[true, true, true, true, true, true, true, true, true, true, true, true, true, false, false, false, true, false, false, false, false, false, false, false, false, false, false, false, false] rfl rfl (any_of HT_.out (by kernel_rfl)) (fun _ _ _ h => h) (Or.inl ⟨by rfl, ?_⟩) ?_ ?_
                      rotate_left
                      · intro w'
                        first | (go_simp; with_reducible rfl) | (have hj_ : (l1.length : Int) = ji3 := (by rw [← hji3]; simp only [mn]; split <;> omega); go_simp; with_reducible rfl) | (have hj_ : (l0.length : Int) = ji3 := (by rw [← hji3]; simp only [mn]; split <;> omega); go_simp; with_reducible rfl)
                      rotate_left
                      · simp only [Act.put, YL, YM, YN, i64_w, i32_w]
                        rfl
                      refine take_ (i := 13) (N := some 39) (v := ?_) (a' := ?_) #[true, true, true, true, true, true, true, true, true, true, true, true, true, true, false, false, true, false, false, false, false, false, false, false, false, false, false, false, false] rfl rfl (take_ofW HT_.out HW_.out (by kernel_rfl)) (fun _ _ _ h => h) (Or.inl ⟨by rfl, ?_⟩) hHeld ?_ ?_
                      rotate_left
                      · rintro w' ⟨s0, s1, s2, s3, s4, s5, s6, s7, s8, s9, s10, s11, s12, s13, s14, s15, s16, s17, s18⟩
                        go_simp; with_reducible rfl
                      rotate_left
                      · simp only [Act.put, YL, YM, YN, i64_w, i32_w]
                        rfl
                      refine pure_ (i := 14) (N := some 40) (v := ?_) (a' := ?_) #[true, true, true, true, true, true, true, true, true, true, true, true, true, true, true, false, true, false, false, false, false, false, false, false, false, false, false, false, false] rfl rfl (any_of HT_.out (by kernel_rfl)) (fun _ _ _ h => h) (Or.inl ⟨by rfl, ?_⟩) ?_ ?_
                      rotate_left
                      · intro w'
                        first | (go_simp; with_reducible rfl) | (have hj_ : (l1.length : Int) = ji3 := (by rw [← hji3]; simp only [mn]; split <;> omega); go_simp; with_reducible rfl) | (have hj_ : (l0.length : Int) = ji3 := (by rw [← hji3]; simp only [mn]; split <;> omega); go_simp; with_reducible rfl)
                      rotate_left
                      · simp only [Act.put, YL, YM, YN, i64_w, i32_w]
                        rfl
                      refine take_ (i := 15) (N := some 41) (v := ?_) (a' := ?_) #[true, true, true, true, true, true, true, true, true, true, true, true, true, true, true, true, true, false, false, false, false, false, false, false, false, false, false, false, false] rfl rfl (take_ofW HT_.out HW_.out (by kernel_rfl)) (fun _ _ _ h => h) (Or.inl ⟨by rfl, ?_⟩) hHeld ?_ ?_
                      rotate_left
                      · rintro w' ⟨s0, s1, s2, s3, s4, s5, s6, s7, s8, s9, s10, s11, s12, s13, s14, s15, s16, s17, s18⟩
                        go_simp; with_reducible rfl
                      rotate_left
                      · simp only [Act.put, YL, YM, YN, i64_w, i32_w]
                        rfl
                      refine take_ (i := 17) (N := some 43) (v := ?_) (a' := ?_) #[true, true, true, true, true, true, true, true, true, true, true, true, true, true, true, true, true, true, false, false, false, false, false, false, false, false, false, false, false] rfl rfl (take_ofW HT_.out HW_.out (by kernel_rfl)) (fun _ _ _ h => h) (Or.inl ⟨by rfl, ?_⟩) hHeld ?_ ?_
                      rotate_left
                      · rintro w' ⟨s0, s1, s2, s3, s4, s5, s6, s7, s8, s9, s10, s11, s12, s13, s14, s15, s16, s17, s18⟩
                        go_simp; with_reducible rfl
                      rotate_left
                      · simp only [Act.put, YL, YM, YN, i64_w, i32_w]
                        rfl
                      refine pure_ (i := 18) (N := some 44) (v := ?_) (a' := ?_) #[true, true, true, true, true, true, true, true, true, true, true, true, true, true, true, true, true, true, true, false, false, false, false, false, false, false, false, false, false] rfl rfl (any_of HT_.out (by kernel_rfl)) (fun _ _ _ h => h) (Or.inl ⟨by rfl, ?_⟩) ?_ ?_
                      rotate_left
                      · intro w'
                        first | (go_simp; with_reducible rfl) | (have hj_ : (l1.length : Int) = ji3 := (by rw [← hji3]; simp only [mn]; split <;> omega); go_simp; with_reducible rfl) | (have hj_ : (l0.length : Int) = ji3 := (by rw [← hji3]; simp only [mn]; split <;> omega); go_simp; with_reducible rfl)
                      rotate_left
                      · simp only [Act.put, YL, YM, YN, i64_w, i32_w]
                        rfl
                      refine pure_ (i := 19) (N := some 45) (v := ?_) (a' := ?_) #[true, true, true, true, true, true, true, true, true, true, true, true, true, true, true, true, true, true, true, true, false, false, false, false, false, false, false, false, false] rfl rfl (any_of HT_.out (by kernel_rfl)) (fun _ _ _ h => h) (Or.inl ⟨by rfl, ?_⟩) ?_ ?_
                      rotate_left
                      · intro w'
                        first | (go_simp; with_reducible rfl) | (have hj_ : (l1.length : Int) = ji3 := (by rw [← hji3]; simp only [mn]; split <;> omega); go_simp; with_reducible rfl) | (have hj_ : (l0.length : Int) = ji3 := (by rw [← hji3]; simp only [mn]; split <;> omega); go_simp; with_reducible rfl)
                      rotate_left
                      · simp only [Act.put, YL, YM, YN, i64_w, i32_w]
                        rfl
                      refine pure_ (i := 20) (N := some 46) (v := ?_) (a' := ?_) #[true, true, true, true, true, true, true, true, true, true, true, true, true, true, true, true, true, true, true, true, true, false, false, false, false, false, false, false, false] rfl rfl (any_of HT_.out (by kernel_rfl)) (fun _ _ _ h => h) (Or.inl ⟨by rfl, ?_⟩) ?_ ?_
                      rotate_left
                      · intro w'
                        first | (go_simp; with_reducible rfl) | (have hj_ : (l1.length : Int) = ji3 := (by rw [← hji3]; simp only [mn]; split <;> omega); go_simp; with_reducible rfl) | (have hj_ : (l0.length : Int) = ji3 := (by rw [← hji3]; simp only [mn]; split <;> omega); go_simp; with_reducible rfl)
                      rotate_left
                      · simp only [Act.put, YL, YM, YN, i64_w, i32_w]
                        rfl
                      refine pure_ (i := 21) (N := some 47) (v := ?_) (a' := ?_) #[true, true, true, true, true, true, true, true, true, true, true, true, true, true, true, true, true, true, true, true, true, true, false, false, false, false, false, false, false] rfl rfl (any_of HT_.out (by kernel_rfl)) (fun _ _ _ h => h) (Or.inl ⟨by rfl, ?_⟩) ?_ ?_
                      rotate_left
                      · intro w'
                        first | (go_simp; with_reducible rfl) | (have hj_ : (l1.length : Int) = ji3 := (by rw [← hji3]; simp only [mn]; split <;> omega); go_simp; with_reducible rfl) | (have hj_ : (l0.length : Int) = ji3 := (by rw [← hji3]; simp only [mn]; split <;> omega); go_simp; with_reducible rfl)
                      rotate_left
                      · simp only [Act.put, YL, YM, YN, i64_w, i32_w]
                        rfl
                      refine pure_ (i := 23) (N := some 49) (v := ?_) (a' := ?_) #[true, true, true, true, true, true, true, true, true, true, true, true, true, true, true, true, true, true, true, true, true, true, false, true, false, false, false, false, false] rfl rfl (any_of HT_.out (by kernel_rfl)) (fun _ _ _ h => h) (Or.inl ⟨by rfl, ?_⟩) ?_ ?_
                      rotate_left
                      · intro w'
                        first | (go_simp; with_reducible rfl) | (have hj_ : (l1.length : Int) = ji3 := (by rw [← hji3]; simp only [mn]; split <;> omega); go_simp; with_reducible rfl) | (have hj_ : (l0.length : Int) = ji3 := (by rw [← hji3]; simp only [mn]; split <;> omega); go_simp; with_reducible rfl)
                      rotate_left
                      · simp only [Act.put, YL, YM, YN, i64_w, i32_w]
                        rfl
                      refine pure_ (i := 24) (N := some 50) (v := ?_) (a' := ?_) #[true, true, true, true, true, true, true, true, true, true, true, true, true, true, true, true, true, true, true, true, true, true, false, true, true, false, false, false, false] rfl rfl (any_of HT_.out (by kernel_rfl)) (fun _ _ _ h => h) (Or.inl ⟨by rfl, ?_⟩) ?_ ?_
                      rotate_left
                      · intro w'
                        first | (go_simp; with_reducible rfl) | (have hj_ : (l1.length : Int) = ji3 := (by rw [← hji3]; simp only [mn]; split <;> omega); go_simp; with_reducible rfl) | (have hj_ : (l0.length : Int) = ji3 := (by rw [← hji3]; simp only [mn]; split <;> omega); go_simp; with_reducible rfl)
                      rotate_left
                      · simp only [Act.put, YL, YM, YN, i64_w, i32_w]
                        rfl
                      refine pure_ (i := 25) (N := some 51) (v := ?_) (a' := ?_) #[true, true, true, true, true, true, true, true, true, true, true, true, true, true, true, true, true, true, true, true, true, true, false, true, true, true, false, false, false] rfl rfl (any_of HT_.out (by kernel_rfl)) (fun _ _ _ h => h) (Or.inl ⟨by rfl, ?_⟩) ?_ ?_
                      rotate_left
                      · intro w'
                        first | (go_simp; with_reducible rfl) | (have hj_ : (l1.length : Int) = ji3 := (by rw [← hji3]; simp only [mn]; split <;> omega); go_simp; with_reducible rfl) | (have hj_ : (l0.length : Int) = ji3 := (by rw [← hji3]; simp only [mn]; split <;> omega); go_simp; with_reducible rfl)
                      rotate_left
                      · simp only [Act.put, YL, YM, YN, i64_w, i32_w]
                        rfl
                      refine take_ (i := 22) (N := some 48) (v := ?_) (a' := ?_) #[true, true, true, true, true, true, true, true, true, true, true, true, true, true, true, true, true, true, true, true, true, true, true, true, true, true, false, false, false] rfl rfl (take_ofW HT_.out HW_.out (by kernel_rfl)) (fun _ _ _ h => h) (Or.inl ⟨by rfl, ?_⟩) hHeld ?_ ?_
                      rotate_left
                      · rintro w' ⟨s0, s1, s2, s3, s4, s5, s6, s7, s8, s9, s10, s11, s12, s13, s14, s15, s16, s17, s18⟩
                        go_simp; with_reducible rfl
                      rotate_left
                      · simp only [Act.put, YL, YM, YN, i64_w, i32_w]
                        rfl
                      refine take_ (i := 26) (N := some 52) (v := ?_) (a' := ?_) #[true, true, true, true, true, true, true, true, true, true, true, true, true, true, true, true, true, true, true, true, true, true, true, true, true, true, true, false, false] rfl rfl (take_ofW HT_.out HW_.out (by kernel_rfl)) (fun _ _ _ h => h) (Or.inl ⟨by rfl, ?_⟩) hHeld ?_ ?_
                      rotate_left
                      · rintro w' ⟨s0, s1, s2, s3, s4, s5, s6, s7, s8, s9, s10, s11, s12, s13, s14, s15, s16, s17, s18⟩
                        go_simp; with_reducible rfl
                      rotate_left
                      · simp only [Act.put, YL, YM, YN, i64_w, i32_w]
                        rfl
                      refine one_ (i := 27) (N := some 53) #[true, true, true, true, true, true, true, true, true, true, true, true, true, true, true, true, true, true, true, true, true, true, true, true, true, true, true, true, false] rfl rfl (one_of HT_.out (by kernel_rfl)) (by decide) (fun K hK => ?_)
                      refine goes_ Try.func19 (by kernel_rfl) rfl #[.agg #[.bool ((rd_T55 (rd_L8 l1 x14_1) x22_2).f1.f0), .int .i64 ((rd_T55 (rd_L8 l1 x14_1) x22_2).f1.f1), .int .i64 ((rd_T55 (rd_L8 l1 x14_1) x22_2).f1.f2), .int .i64 ((rd_T55 (rd_L8 l1 x14_1) x22_2).f1.f3), .int .i64 ((rd_T55 (rd_L8 l1 x14_1) x22_2).f1.f4), .int .i64 ((rd_T55 (rd_L8 l1 x14_1) x22_2).f1.f5)], .agg #[.bool ((rd_T45 l0 x14_1).f0), .int .i64 ((rd_T45 l0 x14_1).f1), .int .i64 ((rd_T45 l0 x14_1).f2), .int .i64 ((rd_T45 l0 x14_1).f3), .int .i64 ((rd_T45 l0 x14_1).f4), .int .i64 ((rd_T45 l0 x14_1).f5)]] (by rfl) rfl rfl (by (try simp only [List.map_toArray, List.map_cons, List.map_nil]); first | done | rfl | (simp only [List.length_drop, List.length_take]; rfl)) ?_
                      with_reducible refine (height_Less.calls k2 ((rd_T55 (rd_L8 l1 x14_1) x22_2).f1.f0) ((rd_T55 (rd_L8 l1 x14_1) x22_2).f1.f1) ((rd_T55 (rd_L8 l1 x14_1) x22_2).f1.f2) ((rd_T55 (rd_L8 l1 x14_1) x22_2).f1.f3) ((rd_T55 (rd_L8 l1 x14_1) x22_2).f1.f4) ((rd_T55 (rd_L8 l1 x14_1) x22_2).f1.f5) ((rd_T45 l0 x14_1).f0) ((rd_T45 l0 x14_1).f1) ((rd_T45 l0 x14_1).f2) ((rd_T45 l0 x14_1).f3) ((rd_T45 l0 x14_1).f4) ((rd_T45 l0 x14_1).f5) true _ A16.out).mono ?_
                      rintro e w23 ⟨rfl, hb⟩
                      refine ⟨_, rfl, ?_⟩
                      have n0_ := YK (YR (by (with_reducible repeat (first | apply YO | apply YP | apply YQ)); exact HO_5.out) hb)
                      have n1_ := YK (blk_below (g := gb407) (o := .cells #[.int .i64 ((rd_T55 (rd_L8 l1 x14_1) x22_2).f0), .bool ((rd_T55 (rd_L8 l1 x14_1) x22_2).f1.f0), .int .i64 ((rd_T55 (rd_L8 l1 x14_1) x22_2).f1.f1), .int .i64 ((rd_T55 (rd_L8 l1 x14_1) x22_2).f1.f2), .int .i64 ((rd_T55 (rd_L8 l1 x14_1) x22_2).f1.f3), .int .i64 ((rd_T55 (rd_L8 l1 x14_1) x22_2).f1.f4), .int .i64 ((rd_T55 (rd_L8 l1 x14_1) x22_2).f1.f5)] 55 (0, 0)) (by (with_reducible repeat (first | refine YF ?_ _ | refine YG ?_ | refine YH ?_ _)); exact BK407.out) hb)
                      have n2_ := YK (YD (by repeat (first | (with_reducible first | exact HB.out | apply YA | apply YB | apply YC | refine below_set ?_ GE407.out) | exact HB.out)) hb)
                      clear HO_5; clear BK407; clear HB; have HO_5 := n0_; have BK407 := n1_; have HB := n2_; clear n0_ n1_ n2_; (try clear hb); (try clear hb2); (try clear hk); (try clear hi)
                      refine hK.out _ _ ⟨(YI BK407.out 0).trans rfl, (YI BK407.out 1).trans rfl, (YI BK407.out 2).trans rfl, (YI BK407.out 3).trans rfl, (YI BK407.out 4).trans rfl, (YI BK407.out 5).trans rfl, (YI BK407.out 6).trans rfl, ((HB.out.cell (World.block_lt_of_cell? w _ hw408_0)).trans hw408_0), ((HB.out.cell (World.block_lt_of_cell? w _ hw408_1)).trans hw408_1), ((HB.out.cell (World.block_lt_of_cell? w _ hw408_2)).trans hw408_2), ((HB.out.cell (World.block_lt_of_cell? w _ hw408_3)).trans hw408_3), ((HB.out.cell (World.block_lt_of_cell? w _ hw408_4)).trans hw408_4), ((HB.out.cell (World.block_lt_of_cell? w _ hw408_5)).trans hw408_5), ((HB.out.cell (World.block_lt_of_cell? w _ hw409_0)).trans hw409_0), ((HB.out.cell (World.block_lt_of_cell? w _ hw409_1)).trans hw409_1), ((HB.out.cell (World.block_lt_of_cell? w _ hw409_2)).trans hw409_2), ((HB.out.cell (World.block_lt_of_cell? w _ hw409_3)).trans hw409_3), ((HB.out.cell (World.block_lt_of_cell? w _ hw409_4)).trans hw409_4), ((HB.out.cell (World.block_lt_of_cell? w _ hw409_5)).trans hw409_5)⟩ (fun hHeld => ?_)
                      clear hK K
                      refine norm_ (a' := ?_) ?_ ?_
                      rotate_left
                      · show Act.put _ (some 53) _ = _
                        simp only [Act.put, YL, YM, YN, i64_w, i32_w]
                        rfl
                      refine pure_ (i := 28) (N := some 54) (v := ?_) (a' := ?_) #[true, true, true, true, true, true, true, true, true, true, true, true, true, true, true, true, true, true, true, true, true, true, true, true, true, true, true, true, true] rfl rfl (any_of HT_.out (by kernel_rfl)) (fun _ _ _ h => h) (Or.inl ⟨by rfl, ?_⟩) ?_ ?_
                      rotate_left
                      · intro w'
                        first | (go_simp; with_reducible rfl) | (have hj_ : (l1.length : Int) = ji3 := (by rw [← hji3]; simp only [mn]; split <;> omega); go_simp; with_reducible rfl) | (have hj_ : (l0.length : Int) = ji3 := (by rw [← hji3]; simp only [mn]; split <;> omega); go_simp; with_reducible rfl)
                      rotate_left
                      · simp only [Act.put, YL, YM, YN, i64_w, i32_w]
                        rfl
                      refine done_ (done_of HT_.out (by kernel_rfl)) ?_
                      have hcz24_0 : w23.cell? ⟨gb407, 0, none⟩ = some (.int .i64 ((rd_T55 (rd_L8 l1 x14_1) x22_2).f0)) := (YI BK407.out 0).trans rfl
                      have hcz24_1 : w23.cell? ⟨gb407, 1, none⟩ = some (.bool ((rd_T55 (rd_L8 l1 x14_1) x22_2).f1.f0)) := (YI BK407.out 1).trans rfl
                      have hcz24_2 : w23.cell? ⟨gb407, 2, none⟩ = some (.int .i64 ((rd_T55 (rd_L8 l1 x14_1) x22_2).f1.f1)) := (YI BK407.out 2).trans rfl
                      have hcz24_3 : w23.cell? ⟨gb407, 3, none⟩ = some (.int .i64 ((rd_T55 (rd_L8 l1 x14_1) x22_2).f1.f2)) := (YI BK407.out 3).trans rfl
                      have hcz24_4 : w23.cell? ⟨gb407, 4, none⟩ = some (.int .i64 ((rd_T55 (rd_L8 l1 x14_1) x22_2).f1.f3)) := (YI BK407.out 4).trans rfl
                      have hcz24_5 : w23.cell? ⟨gb407, 5, none⟩ = some (.int .i64 ((rd_T55 (rd_L8 l1 x14_1) x22_2).f1.f4)) := (YI BK407.out 5).trans rfl
                      have hcz24_6 : w23.cell? ⟨gb407, 6, none⟩ = some (.int .i64 ((rd_T55 (rd_L8 l1 x14_1) x22_2).f1.f5)) := (YI BK407.out 6).trans rfl
                      have hfz24_0 := YJ BK407.out 0
                      have hfz24_1 := YJ BK407.out 1
                      have hfz24_2 := YJ BK407.out 2
                      have hfz24_3 := YJ BK407.out 3
                      have hfz24_4 := YJ BK407.out 4
                      have hfz24_5 := YJ BK407.out 5
                      have hfz24_6 := YJ BK407.out 6
                      try go_wp2_with (first | ((with_reducible refine gate_builtin (b := .append) (xs := #[.tmp 55, .tmp 60]) rfl ?_); (try (refine gate_guard (by rfl) ?_; dsimp only)); at_builtin; refine Kd.R_append k36 (w0 := w) w.heap.size rfl (.tmp 55) (.tmp 60) 28 36 (.agg #[(.int .i64 0), (.int .i64 0)]) 16 rfl Try.underlying28 info36 rfl (by decide) (by omega) u5 x5_2 (⟨x14_1, (rd_T55 (rd_L8 l1 x14_1) x22_2).f0⟩ : S36) [.int .i64 x14_1, .int .i64 ((rd_T55 (rd_L8 l1 x14_1) x22_2).f0)] (fun _ => True) (fun _ => False) rfl rfl ?aP (fun _ hk => hk.elim) ?aF ?aO ?aB ?aS ?aL ?_; (case aP => exact k36_mkM _ _ _ (⟨x14_1, (rd_T55 (rd_L8 l1 x14_1) x22_2).f0⟩ : S36)); (case aB => exact (by repeat (first | (with_reducible first | exact HB.out | apply YA | apply YB | apply YC | refine below_set ?_ GE407.out) | exact HB.out))); (case aF => exact (fun _ _ => trivial)); (case aO => exact (by (with_reducible repeat (first | apply YO | apply YP | apply YQ)); exact HO_5.out)); (case aS => exact (YE (by repeat (first | (with_reducible first | exact HB.out | apply YA | apply YB | apply YC | refine below_set ?_ GE407.out) | exact HB.out)))); (case aL => have := LMc18.out; omega); intro v412 w25 ho hb hg hat; rw [← Ny411.out] at ho; have n0_ := YK (blk_grown (g := gb407) (o := .cells #[.int .i64 ((rd_T55 (rd_L8 l1 x14_1) x22_2).f0), .bool ((rd_T55 (rd_L8 l1 x14_1) x22_2).f1.f0), .int .i64 ((rd_T55 (rd_L8 l1 x14_1) x22_2).f1.f1), .int .i64 ((rd_T55 (rd_L8 l1 x14_1) x22_2).f1.f2), .int .i64 ((rd_T55 (rd_L8 l1 x14_1) x22_2).f1.f3), .int .i64 ((rd_T55 (rd_L8 l1 x14_1) x22_2).f1.f4), .int .i64 ((rd_T55 (rd_L8 l1 x14_1) x22_2).f1.f5)] 55 (0, 0)) (by (with_reducible repeat (first | refine YF ?_ _ | refine YG ?_ | refine YH ?_ _)); exact BK407.out) hg (Kd.R_ne HO_5.out BK407.out (by decide))); have n1_ := YK (hb); have n2_ := YK (ho); clear BK407; clear HB; clear HO_5; have BK407 := n0_; have HB := n1_; have HO413 := n2_; clear n0_ n1_ n2_; clear ho hb hg hat))
                      go_roundg k2
                      case measure => have := HK1.out; have := HK2.out; omega
                      case rel => exact ⟨(y411), (wrap64 (x22_2 + 1)), (by first | rfl | (simp; done) | (simp [*]; done)), H', ⟨by have := HK1.out; have := HK2.out; omega⟩, ⟨by (with_reducible repeat (first | apply YO | apply YP | apply YQ)); exact HO413.out⟩, ⟨by repeat (first | (with_reducible first | exact HB.out | apply YA | apply YB | apply YC | refine below_set ?_ GE407.out) | exact HB.out)⟩⟩
                    replace c17 := Bool.eq_false_iff.mpr c17
                    subst c17
                    have H1 : (graph_Fresh.l1 k2 l0 l1 x5_2 x14_1 ji3 x14_1 (rd_L8 l1 x14_1) ((rd_L8 l1 x14_1).length : Int) (wrap64 (x22_2 + 1))) = some r := by rw [if_neg (show ¬ (false = true) by decide)] at H; exact H
                    clear H
                    have H := H1
                    clear H1
                    have H' := YK H
                    clear H
                    have p406 : 0 ≤ (x22_2 : Int) := of_decide_eq_true (by first | (with_reducible assumption) | assumption)
                    have q406 : x22_2 < ((rd_L8 l1 x14_1).length : Int) := of_decide_eq_true (by first | (with_reducible assumption) | assumption)
                    obtain ⟨ad406, e406, hx406_0, hx406_1, hx406_2, hx406_3, hx406_4, hx406_5, hx406_6⟩ := at_T55 HR405_0.out x22_2 p406 q406
                    cases e406
                    replace hx406_0 := (HB.out.cell (World.block_lt_of_cell? w _ hx406_0)).trans hx406_0
                    replace hx406_1 := (HB.out.cell (World.block_lt_of_cell? w _ hx406_1)).trans hx406_1
                    replace hx406_2 := (HB.out.cell (World.block_lt_of_cell? w _ hx406_2)).trans hx406_2
                    replace hx406_3 := (HB.out.cell (World.block_lt_of_cell? w _ hx406_3)).trans hx406_3
                    replace hx406_4 := (HB.out.cell (World.block_lt_of_cell? w _ hx406_4)).trans hx406_4
                    replace hx406_5 := (HB.out.cell (World.block_lt_of_cell? w _ hx406_5)).trans hx406_5
                    replace hx406_6 := (HB.out.cell (World.block_lt_of_cell? w _ hx406_6)).trans hx406_6
                    replace p406 := eq_true p406
                    replace q406 := eq_true q406
                    try go_wp2_with (first | ((with_reducible refine gate_dst (N := 8) rfl ?_); (try (refine gate_guard (by rfl) ?_; dsimp only)); refine box_event ?hg (N := 8) ?hd (cs := #[.int .i64 0, .bool false, .int .i64 0, .int .i64 0, .int .i64 0, .int .i64 0, .int .i64 0]) (t := 55) ?hr ?_; (case hd => rfl); (case hg => rfl); (case hr => first | (go_simp; done) | (go_simp; rfl)); intro gb407 hg w26 hbox hb; have n0_ := YK (YR (by (with_reducible repeat (first | apply YO | apply YP | apply YQ)); exact HO_5.out) hb); have n1_ := YK (YD (by repeat (first | (with_reducible first | exact HB.out | apply YA | apply YB | apply YC) | exact HB.out)) hb); have n2_ := YK (hbox); have n3_ := YK ((by rw [hg]; exact (YE (by repeat (first | (with_reducible first | exact HB.out | apply YA | apply YB | apply YC) | exact HB.out))) : w.heap.size ≤ gb407)); have n4_ := YK ((by rw [hg]; exact (YE (by repeat (first | (with_reducible first | exact HB.out | apply YA | apply YB | apply YC) | exact HB.out))) : w.heap.size ≤ gb407)); clear HO_5; clear HB; have HO_5 := n0_; have HB := n1_; have BK407 := n2_; have GW407 := n3_; have GE407 := n4_; clear n0_ n1_ n2_ n3_ n4_; clear hb hbox hg; have hcz27_0 : w26.cell? ⟨gb407, 0, none⟩ = some (.int .i64 0) := (YI BK407.out 0).trans rfl; have hcz27_1 : w26.cell? ⟨gb407, 1, none⟩ = some (.bool false) := (YI BK407.out 1).trans rfl; have hcz27_2 : w26.cell? ⟨gb407, 2, none⟩ = some (.int .i64 0) := (YI BK407.out 2).trans rfl; have hcz27_3 : w26.cell? ⟨gb407, 3, none⟩ = some (.int .i64 0) := (YI BK407.out 3).trans rfl; have hcz27_4 : w26.cell? ⟨gb407, 4, none⟩ = some (.int .i64 0) := (YI BK407.out 4).trans rfl; have hcz27_5 : w26.cell? ⟨gb407, 5, none⟩ = some (.int .i64 0) := (YI BK407.out 5).trans rfl; have hcz27_6 : w26.cell? ⟨gb407, 6, none⟩ = some (.int .i64 0) := (YI BK407.out 6).trans rfl; have hfz27_0 := YJ BK407.out 0; have hfz27_1 := YJ BK407.out 1; have hfz27_2 := YJ BK407.out 2; have hfz27_3 := YJ BK407.out 3; have hfz27_4 := YJ BK407.out 4; have hfz27_5 := YJ BK407.out 5; have hfz27_6 := YJ BK407.out 6))
                    have n0_ : Aside0 (Kd.R k36 36 (((((((w26.setCell ⟨gb407, 0, none⟩ (.int .i64 ((rd_T55 (rd_L8 l1 x14_1) x22_2).f0))).setCell ⟨gb407, 1, none⟩ (.bool ((rd_T55 (rd_L8 l1 x14_1) x22_2).f1.f0))).setCell ⟨gb407, 2, none⟩ (.int .i64 ((rd_T55 (rd_L8 l1 x14_1) x22_2).f1.f1))).setCell ⟨gb407, 3, none⟩ (.int .i64 ((rd_T55 (rd_L8 l1 x14_1) x22_2).f1.f2))).setCell ⟨gb407, 4, none⟩ (.int .i64 ((rd_T55 (rd_L8 l1 x14_1) x22_2).f1.f3))).setCell ⟨gb407, 5, none⟩ (.int .i64 ((rd_T55 (rd_L8 l1 x14_1) x22_2).f1.f4))).setCell ⟨gb407, 6, none⟩ (.int .i64 ((rd_T55 (rd_L8 l1 x14_1) x22_2).f1.f5))) w.heap.size (fun _ => True) u5 x5_2) := ⟨by (with_reducible repeat (first | apply YO | apply YP | apply YQ)); exact Kd.R_mono (Kd.R_far (p := ⟨gb407, 6, none⟩) (Kd.R_far (p := ⟨gb407, 5, none⟩) (Kd.R_far (p := ⟨gb407, 4, none⟩) (Kd.R_far (p := ⟨gb407, 3, none⟩) (Kd.R_far (p := ⟨gb407, 2, none⟩) (Kd.R_far (p := ⟨gb407, 1, none⟩) (Kd.R_far (p := ⟨gb407, 0, none⟩) (Kd.R_types HO_5.out BK407.out (by decide)) (fun _ hk => hk.2) (.int .i64 ((rd_T55 (rd_L8 l1 x14_1) x22_2).f0))) (fun _ hk => hk.2) (.bool ((rd_T55 (rd_L8 l1 x14_1) x22_2).f1.f0))) (fun _ hk => hk.2) (.int .i64 ((rd_T55 (rd_L8 l1 x14_1) x22_2).f1.f1))) (fun _ hk => hk.2) (.int .i64 ((rd_T55 (rd_L8 l1 x14_1) x22_2).f1.f2))) (fun _ hk => hk.2) (.int .i64 ((rd_T55 (rd_L8 l1 x14_1) x22_2).f1.f3))) (fun _ hk => hk.2) (.int .i64 ((rd_T55 (rd_L8 l1 x14_1) x22_2).f1.f4))) (fun _ hk => hk.2) (.int .i64 ((rd_T55 (rd_L8 l1 x14_1) x22_2).f1.f5))) (fun _ hk => trivial)⟩
                    have n1_ : Aside0 ((((((((w26.setCell ⟨gb407, 0, none⟩ (.int .i64 ((rd_T55 (rd_L8 l1 x14_1) x22_2).f0))).setCell ⟨gb407, 1, none⟩ (.bool ((rd_T55 (rd_L8 l1 x14_1) x22_2).f1.f0))).setCell ⟨gb407, 2, none⟩ (.int .i64 ((rd_T55 (rd_L8 l1 x14_1) x22_2).f1.f1))).setCell ⟨gb407, 3, none⟩ (.int .i64 ((rd_T55 (rd_L8 l1 x14_1) x22_2).f1.f2))).setCell ⟨gb407, 4, none⟩ (.int .i64 ((rd_T55 (rd_L8 l1 x14_1) x22_2).f1.f3))).setCell ⟨gb407, 5, none⟩ (.int .i64 ((rd_T55 (rd_L8 l1 x14_1) x22_2).f1.f4))).setCell ⟨gb407, 6, none⟩ (.int .i64 ((rd_T55 (rd_L8 l1 x14_1) x22_2).f1.f5))).heap[gb407]? = some (.cells #[.int .i64 ((rd_T55 (rd_L8 l1 x14_1) x22_2).f0), .bool ((rd_T55 (rd_L8 l1 x14_1) x22_2).f1.f0), .int .i64 ((rd_T55 (rd_L8 l1 x14_1) x22_2).f1.f1), .int .i64 ((rd_T55 (rd_L8 l1 x14_1) x22_2).f1.f2), .int .i64 ((rd_T55 (rd_L8 l1 x14_1) x22_2).f1.f3), .int .i64 ((rd_T55 (rd_L8 l1 x14_1) x22_2).f1.f4), .int .i64 ((rd_T55 (rd_L8 l1 x14_1) x22_2).f1.f5)] 55 (0, 0))) := ⟨by (with_reducible repeat (first | refine YF ?_ _ | refine YG ?_ | refine YH ?_ _)); refine blk_put (cs := #[.int .i64 ((rd_T55 (rd_L8 l1 x14_1) x22_2).f0), .bool ((rd_T55 (rd_L8 l1 x14_1) x22_2).f1.f0), .int .i64 ((rd_T55 (rd_L8 l1 x14_1) x22_2).f1.f1), .int .i64 ((rd_T55 (rd_L8 l1 x14_1) x22_2).f1.f2), .int .i64 ((rd_T55 (rd_L8 l1 x14_1) x22_2).f1.f3), .int .i64 ((rd_T55 (rd_L8 l1 x14_1) x22_2).f1.f4), .int .i64 0]) ?_ 6 _ rfl; (with_reducible repeat (first | refine YF ?_ _ | refine YG ?_ | refine YH ?_ _)); refine blk_put (cs := #[.int .i64 ((rd_T55 (rd_L8 l1 x14_1) x22_2).f0), .bool ((rd_T55 (rd_L8 l1 x14_1) x22_2).f1.f0), .int .i64 ((rd_T55 (rd_L8 l1 x14_1) x22_2).f1.f1), .int .i64 ((rd_T55 (rd_L8 l1 x14_1) x22_2).f1.f2), .int .i64 ((rd_T55 (rd_L8 l1 x14_1) x22_2).f1.f3), .int .i64 0, .int .i64 0]) ?_ 5 _ rfl; (with_reducible repeat (first | refine YF ?_ _ | refine YG ?_ | refine YH ?_ _)); refine blk_put (cs := #[.int .i64 ((rd_T55 (rd_L8 l1 x14_1) x22_2).f0), .bool ((rd_T55 (rd_L8 l1 x14_1) x22_2).f1.f0), .int .i64 ((rd_T55 (rd_L8 l1 x14_1) x22_2).f1.f1), .int .i64 ((rd_T55 (rd_L8 l1 x14_1) x22_2).f1.f2), .int .i64 0, .int .i64 0, .int .i64 0]) ?_ 4 _ rfl; (with_reducible repeat (first | refine YF ?_ _ | refine YG ?_ | refine YH ?_ _)); refine blk_put (cs := #[.int .i64 ((rd_T55 (rd_L8 l1 x14_1) x22_2).f0), .bool ((rd_T55 (rd_L8 l1 x14_1) x22_2).f1.f0), .int .i64 ((rd_T55 (rd_L8 l1 x14_1) x22_2).f1.f1), .int .i64 0, .int .i64 0, .int .i64 0, .int .i64 0]) ?_ 3 _ rfl; (with_reducible repeat (first | refine YF ?_ _ | refine YG ?_ | refine YH ?_ _)); refine blk_put (cs := #[.int .i64 ((rd_T55 (rd_L8 l1 x14_1) x22_2).f0), .bool ((rd_T55 (rd_L8 l1 x14_1) x22_2).f1.f0), .int .i64 0, .int .i64 0, .int .i64 0, .int .i64 0, .int .i64 0]) ?_ 2 _ rfl; (with_reducible repeat (first | refine YF ?_ _ | refine YG ?_ | refine YH ?_ _)); refine blk_put (cs := #[.int .i64 ((rd_T55 (rd_L8 l1 x14_1) x22_2).f0), .bool false, .int .i64 0, .int .i64 0, .int .i64 0, .int .i64 0, .int .i64 0]) ?_ 1 _ rfl; (with_reducible repeat (first | refine YF ?_ _ | refine YG ?_ | refine YH ?_ _)); refine blk_put (cs := #[.int .i64 0, .bool false, .int .i64 0, .int .i64 0, .int .i64 0, .int .i64 0, .int .i64 0]) ?_ 0 _ rfl; (with_reducible repeat (first | refine YF ?_ _ | refine YG ?_ | refine YH ?_ _)); exact BK407.out⟩
                    have n2_ : Aside0 (Below w.heap.size w (((((((w26.setCell ⟨gb407, 0, none⟩ (.int .i64 ((rd_T55 (rd_L8 l1 x14_1) x22_2).f0))).setCell ⟨gb407, 1, none⟩ (.bool ((rd_T55 (rd_L8 l1 x14_1) x22_2).f1.f0))).setCell ⟨gb407, 2, none⟩ (.int .i64 ((rd_T55 (rd_L8 l1 x14_1) x22_2).f1.f1))).setCell ⟨gb407, 3, none⟩ (.int .i64 ((rd_T55 (rd_L8 l1 x14_1) x22_2).f1.f2))).setCell ⟨gb407, 4, none⟩ (.int .i64 ((rd_T55 (rd_L8 l1 x14_1) x22_2).f1.f3))).setCell ⟨gb407, 5, none⟩ (.int .i64 ((rd_T55 (rd_L8 l1 x14_1) x22_2).f1.f4))).setCell ⟨gb407, 6, none⟩ (.int .i64 ((rd_T55 (rd_L8 l1 x14_1) x22_2).f1.f5)))) := ⟨by repeat (first | (with_reducible first | exact HB.out | apply YA | apply YB | apply YC | refine below_set ?_ GE407.out) | exact HB.out)⟩
                    (try clear HO_5); (try clear BK407); (try clear HB)
                    generalize (((((((w26.setCell ⟨gb407, 0, none⟩ (.int .i64 ((rd_T55 (rd_L8 l1 x14_1) x22_2).f0))).setCell ⟨gb407, 1, none⟩ (.bool ((rd_T55 (rd_L8 l1 x14_1) x22_2).f1.f0))).setCell ⟨gb407, 2, none⟩ (.int .i64 ((rd_T55 (rd_L8 l1 x14_1) x22_2).f1.f1))).setCell ⟨gb407, 3, none⟩ (.int .i64 ((rd_T55 (rd_L8 l1 x14_1) x22_2).f1.f2))).setCell ⟨gb407, 4, none⟩ (.int .i64 ((rd_T55 (rd_L8 l1 x14_1) x22_2).f1.f3))).setCell ⟨gb407, 5, none⟩ (.int .i64 ((rd_T55 (rd_L8 l1 x14_1) x22_2).f1.f4))).setCell ⟨gb407, 6, none⟩ (.int .i64 ((rd_T55 (rd_L8 l1 x14_1) x22_2).f1.f5))) = w28 at n0_ n1_ n2_ ⊢
                    have HO_5 := n0_; have BK407 := n1_; have HB := n2_; clear n0_ n1_ n2_
                    have n0_ := YK (YQ HO_5.out)
                    have n1_ := YK (YG BK407.out)
                    have n2_ := YK (YC HB.out)
                    clear HO_5; clear BK407; clear HB; have HO_5 := n0_; have BK407 := n1_; have HB := n2_; clear n0_ n1_ n2_
                    have p408 : 0 ≤ (((rd_T55 (rd_L8 l1 x14_1) x22_2).f0) : Int) := of_decide_eq_true (by first | (with_reducible assumption) | assumption)
                    have q408 : ((rd_T55 (rd_L8 l1 x14_1) x22_2).f0) < (l0.length : Int) := of_decide_eq_true (by first | (with_reducible assumption) | assumption)
                    obtain ⟨ad408, e408, hx408_0, hx408_1, hx408_2, hx408_3, hx408_4, hx408_5⟩ := at_T45 HR0.out ((rd_T55 (rd_L8 l1 x14_1) x22_2).f0) p408 q408
                    have hw408_5 := hx408_5
                    have hw408_4 := hx408_4
                    have hw408_3 := hx408_3
                    have hw408_2 := hx408_2
                    have hw408_1 := hx408_1
                    have hw408_0 := hx408_0
                    cases e408
                    replace hx408_0 := (HB.out.cell (World.block_lt_of_cell? w _ hx408_0)).trans hx408_0
                    replace hx408_1 := (HB.out.cell (World.block_lt_of_cell? w _ hx408_1)).trans hx408_1
                    replace hx408_2 := (HB.out.cell (World.block_lt_of_cell? w _ hx408_2)).trans hx408_2
                    replace hx408_3 := (HB.out.cell (World.block_lt_of_cell? w _ hx408_3)).trans hx408_3
                    replace hx408_4 := (HB.out.cell (World.block_lt_of_cell? w _ hx408_4)).trans hx408_4
                    replace hx408_5 := (HB.out.cell (World.block_lt_of_cell? w _ hx408_5)).trans hx408_5
                    replace p408 := eq_true p408
                    replace q408 := eq_true q408
                    have p409 : 0 ≤ (x14_1 : Int) := of_decide_eq_true (by first | (with_reducible assumption) | assumption)
                    have q409 : x14_1 < (l0.length : Int) := of_decide_eq_true (by first | (with_reducible assumption) | assumption)
                    obtain ⟨ad409, e409, hx409_0, hx409_1, hx409_2, hx409_3, hx409_4, hx409_5⟩ := at_T45 HR0.out x14_1 p409 q409
                    have hw409_5 := hx409_5
                    have hw409_4 := hx409_4
                    have hw409_3 := hx409_3
                    have hw409_2 := hx409_2
                    have hw409_1 := hx409_1
                    have hw409_0 := hx409_0
                    obtain rfl : ad408 = ad409 := (by injection e409)
                    replace hx409_0 := (HB.out.cell (World.block_lt_of_cell? w _ hx409_0)).trans hx409_0
                    replace hx409_1 := (HB.out.cell (World.block_lt_of_cell? w _ hx409_1)).trans hx409_1
                    replace hx409_2 := (HB.out.cell (World.block_lt_of_cell? w _ hx409_2)).trans hx409_2
                    replace hx409_3 := (HB.out.cell (World.block_lt_of_cell? w _ hx409_3)).trans hx409_3
                    replace hx409_4 := (HB.out.cell (World.block_lt_of_cell? w _ hx409_4)).trans hx409_4
                    replace hx409_5 := (HB.out.cell (World.block_lt_of_cell? w _ hx409_5)).trans hx409_5
                    replace p409 := eq_true p409
                    replace q409 := eq_true q409
                    refine start_ (n := 29) (S := fun w' => w'.cell? ⟨gb407, 0, none⟩ = some (.int .i64 ((rd_T55 (rd_L8 l1 x14_1) x22_2).f0)) ∧ w'.cell? ⟨gb407, 1, none⟩ = some (.bool ((rd_T55 (rd_L8 l1 x14_1) x22_2).f1.f0)) ∧ w'.cell? ⟨gb407, 2, none⟩ = some (.int .i64 ((rd_T55 (rd_L8 l1 x14_1) x22_2).f1.f1)) ∧ w'.cell? ⟨gb407, 3, none⟩ = some (.int .i64 ((rd_T55 (rd_L8 l1 x14_1) x22_2).f1.f2)) ∧ w'.cell? ⟨gb407, 4, none⟩ = some (.int .i64 ((rd_T55 (rd_L8 l1 x14_1) x22_2).f1.f3)) ∧ w'.cell? ⟨gb407, 5, none⟩ = some (.int .i64 ((rd_T55 (rd_L8 l1 x14_1) x22_2).f1.f4)) ∧ w'.cell? ⟨gb407, 6, none⟩ = some (.int .i64 ((rd_T55 (rd_L8 l1 x14_1) x22_2).f1.f5)) ∧ w'.cell? (ad408.add ((((rd_T55 (rd_L8 l1 x14_1) x22_2).f0)).toNat * 6)) = some (.bool ((rd_T45 l0 ((rd_T55 (rd_L8 l1 x14_1) x22_2).f0)).f0)) ∧ w'.cell? ⟨(ad408.add ((((rd_T55 (rd_L8 l1 x14_1) x22_2).f0)).toNat * 6)).block, (ad408.add ((((rd_T55 (rd_L8 l1 x14_1) x22_2).f0)).toNat * 6)).off + 1, none⟩ = some (.int .i64 ((rd_T45 l0 ((rd_T55 (rd_L8 l1 x14_1) x22_2).f0)).f1)) ∧ w'.cell? ⟨(ad408.add ((((rd_T55 (rd_L8 l1 x14_1) x22_2).f0)).toNat * 6)).block, (ad408.add ((((rd_T55 (rd_L8 l1 x14_1) x22_2).f0)).toNat * 6)).off + 2, none⟩ = some (.int .i64 ((rd_T45 l0 ((rd_T55 (rd_L8 l1 x14_1) x22_2).f0)).f2)) ∧ w'.cell? ⟨(ad408.add ((((rd_T55 (rd_L8 l1 x14_1) x22_2).f0)).toNat * 6)).block, (ad408.add ((((rd_T55 (rd_L8 l1 x14_1) x22_2).f0)).toNat * 6)).off + 3, none⟩ = some (.int .i64 ((rd_T45 l0 ((rd_T55 (rd_L8 l1 x14_1) x22_2).f0)).f3)) ∧ w'.cell? ⟨(ad408.add ((((rd_T55 (rd_L8 l1 x14_1) x22_2).f0)).toNat * 6)).block, (ad408.add ((((rd_T55 (rd_L8 l1 x14_1) x22_2).f0)).toNat * 6)).off + 4, none⟩ = some (.int .i64 ((rd_T45 l0 ((rd_T55 (rd_L8 l1 x14_1) x22_2).f0)).f4)) ∧ w'.cell? ⟨(ad408.add ((((rd_T55 (rd_L8 l1 x14_1) x22_2).f0)).toNat * 6)).block, (ad408.add ((((rd_T55 (rd_L8 l1 x14_1) x22_2).f0)).toNat * 6)).off + 5, none⟩ = some (.int .i64 ((rd_T45 l0 ((rd_T55 (rd_L8 l1 x14_1) x22_2).f0)).f5)) ∧ w'.cell? (ad408.add ((x14_1).toNat * 6)) = some (.bool ((rd_T45 l0 x14_1).f0)) ∧ w'.cell? ⟨(ad408.add ((x14_1).toNat * 6)).block, (ad408.add ((x14_1).toNat * 6)).off + 1, none⟩ = some (.int .i64 ((rd_T45 l0 x14_1).f1)) ∧ w'.cell? ⟨(ad408.add ((x14_1).toNat * 6)).block, (ad408.add ((x14_1).toNat * 6)).off + 2, none⟩ = some (.int .i64 ((rd_T45 l0 x14_1).f2)) ∧ w'.cell? ⟨(ad408.add ((x14_1).toNat * 6)).block, (ad408.add ((x14_1).toNat * 6)).off + 3, none⟩ = some (.int .i64 ((rd_T45 l0 x14_1).f3)) ∧ w'.cell? ⟨(ad408.add ((x14_1).toNat * 6)).block, (ad408.add ((x14_1).toNat * 6)).off + 4, none⟩ = some (.int .i64 ((rd_T45 l0 x14_1).f4)) ∧ w'.cell? ⟨(ad408.add ((x14_1).toNat * 6)).block, (ad408.add ((x14_1).toNat * 6)).off + 5, none⟩ = some (.int .i64 ((rd_T45 l0 x14_1).f5))) (ds := []) #[false, false, false, false, false, false, false, false, false, false, false, false, false, false, false, false, false, false, false, false, false, false, false, false, false, false, false, false, false] (by kernel_rfl) rfl rfl ⟨(YI BK407.out 0).trans rfl, (YI BK407.out 1).trans rfl, (YI BK407.out 2).trans rfl, (YI BK407.out 3).trans rfl, (YI BK407.out 4).trans rfl, (YI BK407.out 5).trans rfl, (YI BK407.out 6).trans rfl, ((HB.out.cell (World.block_lt_of_cell? w _ hw408_0)).trans hw408_0), ((HB.out.cell (World.block_lt_of_cell? w _ hw408_1)).trans hw408_1), ((HB.out.cell (World.block_lt_of_cell? w _ hw408_2)).trans hw408_2), ((HB.out.cell (World.block_lt_of_cell? w _ hw408_3)).trans hw408_3), ((HB.out.cell (World.block_lt_of_cell? w _ hw408_4)).trans hw408_4), ((HB.out.cell (World.block_lt_of_cell? w _ hw408_5)).trans hw408_5), ((HB.out.cell (World.block_lt_of_cell? w _ hw409_0)).trans hw409_0), ((HB.out.cell (World.block_lt_of_cell? w _ hw409_1)).trans hw409_1), ((HB.out.cell (World.block_lt_of_cell? w _ hw409_2)).trans hw409_2), ((HB.out.cell (World.block_lt_of_cell? w _ hw409_3)).trans hw409_3), ((HB.out.cell (World.block_lt_of_cell? w _ hw409_4)).trans hw409_4), ((HB.out.cell (World.block_lt_of_cell? w _ hw409_5)).trans hw409_5)⟩ (fun hHeld => ?_); refine with_tabW graph_Fresh.tab8 graph_Fresh.bits8 (fun HT_ HW_ => ?_)
                    generalize w28.drew = w29 at HO_5 BK407 HB hx408_0 hx408_1 hx408_2 hx408_3 hx408_4 hx408_5 hx409_0 hx409_1 hx409_2 hx409_3 hx409_4 hx409_5 hHeld ⊢
                    refine pure_ (i := 0) (N := some 26) (v := ?_) (a' := ?_) #[true, false, false, false, false, false, false, false, false, false, false, false, false, false, false, false, false, false, false, false, false, false, false, false, false, false, false, false, false] rfl rfl (any_of HT_.out (by kernel_rfl)) (fun _ _ _ h => h) (Or.inl ⟨by rfl, ?_⟩) ?_ ?_
                    rotate_left
                    · intro w'
                      first | (go_simp; with_reducible rfl) | (have hj_ : (l1.length : Int) = ji3 := (by rw [← hji3]; simp only [mn]; split <;> omega); go_simp; with_reducible rfl) | (have hj_ : (l0.length : Int) = ji3 := (by rw [← hji3]; simp only [mn]; split <;> omega); go_simp; with_reducible rfl)
                    rotate_left
                    · simp only [Act.put, YL, YM, YN, i64_w, i32_w]
                      rfl
                    refine take_ (i := 1) (N := some 27) (v := ?_) (a' := ?_) #[true, true, false, false, false, false, false, false, false, false, false, false, false, false, false, false, false, false, false, false, false, false, false, false, false, false, false, false, false] rfl rfl (take_ofW HT_.out HW_.out (by kernel_rfl)) (fun _ _ _ h => h) (Or.inl ⟨by rfl, ?_⟩) hHeld ?_ ?_
                    rotate_left
                    · rintro w' ⟨s0, s1, s2, s3, s4, s5, s6, s7, s8, s9, s10, s11, s12, s13, s14, s15, s16, s17, s18⟩
                      go_simp; with_reducible rfl
                    rotate_left
                    · simp only [Act.put, YL, YM, YN, i64_w, i32_w]
                      rfl
                    refine pure_ (i := 2) (N := some 28) (v := ?_) (a' := ?_) #[true, true, true, false, false, false, false, false, false, false, false, false, false, false, false, false, false, false, false, false, false, false, false, false, false, false, false, false, false] rfl rfl (any_of HT_.out (by kernel_rfl)) (fun _ _ _ h => h) (Or.inl ⟨by rfl, ?_⟩) ?_ ?_
                    rotate_left
                    · intro w'
                      first | (go_simp; with_reducible rfl) | (have hj_ : (l1.length : Int) = ji3 := (by rw [← hji3]; simp only [mn]; split <;> omega); go_simp; with_reducible rfl) | (have hj_ : (l0.length : Int) = ji3 := (by rw [← hji3]; simp only [mn]; split <;> omega); go_simp; with_reducible rfl)
                    rotate_left
                    · simp only [Act.put, YL, YM, YN, i64_w, i32_w]
                      rfl
                    refine pure_ (i := 3) (N := some 29) (v := ?_) (a' := ?_) #[true, true, true, true, false, false, false, false, false, false, false, false, false, false, false, false, false, false, false, false, false, false, false, false, false, false, false, false, false] rfl rfl (any_of HT_.out (by kernel_rfl)) (fun _ _ _ h => h) (Or.inl ⟨by rfl, ?_⟩) ?_ ?_
                    rotate_left
                    · intro w'
                      first | (go_simp; with_reducible rfl) | (have hj_ : (l1.length : Int) = ji3 := (by rw [← hji3]; simp only [mn]; split <;> omega); go_simp; with_reducible rfl) | (have hj_ : (l0.length : Int) = ji3 := (by rw [← hji3]; simp only [mn]; split <;> omega); go_simp; with_reducible rfl)
                    rotate_left
                    · simp only [Act.put, YL, YM, YN, i64_w, i32_w]
                      rfl
                    refine pure_ (i := 4) (N := some 30) (v := ?_) (a' := ?_) #[true, true, true, true, true, false, false, false, false, false, false, false, false, false, false, false, false, false, false, false, false, false, false, false, false, false, false, false, false] rfl rfl (any_of HT_.out (by kernel_rfl)) (fun _ _ _ h => h) (Or.inl ⟨by rfl, ?_⟩) ?_ ?_
                    rotate_left
                    · intro w'
                      first | (go_simp; with_reducible rfl) | (have hj_ : (l1.length : Int) = ji3 := (by rw [← hji3]; simp only [mn]; split <;> omega); go_simp; with_reducible rfl) | (have hj_ : (l0.length : Int) = ji3 := (by rw [← hji3]; simp only [mn]; split <;> omega); go_simp; with_reducible rfl)
                    rotate_left
                    · simp only [Act.put, YL, YM, YN, i64_w, i32_w]
                      rfl
                    refine pure_ (i := 6) (N := some 32) (v := ?_) (a' := ?_) #[true, true, true, true, true, false, true, false, false, false, false, false, false, false, false, false, false, false, false, false, false, false, false, false, false, false, false, false, false] rfl rfl (any_of HT_.out (by kernel_rfl)) (fun _ _ _ h => h) (Or.inl ⟨by rfl, ?_⟩) ?_ ?_
                    rotate_left
                    · intro w'
                      first | (go_simp; with_reducible rfl) | (have hj_ : (l1.length : Int) = ji3 := (by rw [← hji3]; simp only [mn]; split <;> omega); go_simp; with_reducible rfl) | (have hj_ : (l0.length : Int) = ji3 := (by rw [← hji3]; simp only [mn]; split <;> omega); go_simp; with_reducible rfl)
                    rotate_left
                    · simp only [Act.put, YL, YM, YN, i64_w, i32_w]
                      rfl
                    refine pure_ (i := 7) (N := some 33) (v := ?_) (a' := ?_) #[true, true, true, true, true, false, true, true, false, false, false, false, false, false, false, false, false, false, false, false, false, false, false, false, false, false, false, false, false] rfl rfl (any_of HT_.out (by kernel_rfl)) (fun _ _ _ h => h) (Or.inl ⟨by rfl, ?_⟩) ?_ ?_
                    rotate_left
                    · intro w'
                      first | (go_simp; with_reducible rfl) | (have hj_ : (l1.length : Int) = ji3 := (by rw [← hji3]; simp only [mn]; split <;> omega); go_simp; with_reducible rfl) | (have hj_ : (l0.length : Int) = ji3 := (by rw [← hji3]; simp only [mn]; split <;> omega); go_simp; with_reducible rfl)
                    rotate_left
                    · simp only [Act.put, YL, YM, YN, i64_w, i32_w]
                      rfl
                    refine take_ (i := 5) (N := some 31) (v := ?_) (a' := ?_) #[true, true, true, true, true, true, true, true, false, false, false, false, false, false, false, false, false, false, false, false, false, false, false, false, false, false, false, false, false] rfl rfl (take_ofW HT_.out HW_.out (by kernel_rfl)) (fun _ _ _ h => h) (Or.inl ⟨by rfl, ?_⟩) hHeld ?_ ?_
                    rotate_left
                    · rintro w' ⟨s0, s1, s2, s3, s4, s5, s6, s7, s8, s9, s10, s11, s12, s13, s14, s15, s16, s17, s18⟩
                      go_simp; with_reducible rfl
                    rotate_left
                    · simp only [Act.put, YL, YM, YN, i64_w, i32_w]
                      rfl
                    refine pure_ (i := 8) (N := some 34) (v := ?_) (a' := ?_) #[true, true, true, true, true, true, true, true, true, false, false, false, false, false, false, false, false, false, false, false, false, false, false, false, false, false, false, false, false] rfl rfl (any_of HT_.out (by kernel_rfl)) (fun _ _ _ h => h) (Or.inl ⟨by rfl, ?_⟩) ?_ ?_
                    rotate_left
                    · intro w'
                      first | (go_simp; with_reducible rfl) | (have hj_ : (l1.length : Int) = ji3 := (by rw [← hji3]; simp only [mn]; split <;> omega); go_simp; with_reducible rfl) | (have hj_ : (l0.length : Int) = ji3 := (by rw [← hji3]; simp only [mn]; split <;> omega); go_simp; with_reducible rfl)
                    rotate_left
                    · simp only [Act.put, YL, YM, YN, i64_w, i32_w]
                      rfl
                    refine pure_ (i := 9) (N := some 35) (v := ?_) (a' := ?_) #[true, true, true, true, true, true, true, true, true, true, false, false, false, false, false, false, false, false, false, false, false, false, false, false, false, false, false, false, false] rfl rfl (any_of HT_.out (by kernel_rfl)) (fun _ _ _ h => h) (Or.inl ⟨by rfl, ?_⟩) ?_ ?_
                    rotate_left
                    · intro w'
                      first | (go_simp; with_reducible rfl) | (have hj_ : (l1.length : Int) = ji3 := (by rw [← hji3]; simp only [mn]; split <;> omega); go_simp; with_reducible rfl) | (have hj_ : (l0.length : Int) = ji3 := (by rw [← hji3]; simp only [mn]; split <;> omega); go_simp; with_reducible rfl)
                    rotate_left
                    · simp only [Act.put, YL, YM, YN, i64_w, i32_w]
                      rfl
                    refine pure_ (i := 10) (N := some 36) (v := ?_) (a' := ?_) #[true, true, true, true, true, true, true, true, true, true, true, false, false, false, false, false, false, false, false, false, false, false, false, false, false, false, false, false, false] rfl rfl (any_of HT_.out (by kernel_rfl)) (fun _ _ _ h => h) (Or.inl ⟨by rfl, ?_⟩) ?_ ?_
                    rotate_left
                    · intro w'
                      first | (go_simp; with_reducible rfl) | (have hj_ : (l1.length : Int) = ji3 := (by rw [← hji3]; simp only [mn]; split <;> omega); go_simp; with_reducible rfl) | (have hj_ : (l0.length : Int) = ji3 := (by rw [← hji3]; simp only [mn]; split <;> omega); go_simp; with_reducible rfl)
                    rotate_left
                    · simp only [Act.put, YL, YM, YN, i64_w, i32_w]
                      rfl
                    refine pure_ (i := 11) (N := some 37) (v := ?_) (a' := ?_) #[true, true, true, true, true, true, true, true, true, true, true, true, false, false, false, false, false, false, false, false, false, false, false, false, false, false, false, false, false] rfl rfl (any_of HT_.out (by kernel_rfl)) (fun _ _ _ h => h) (Or.inl ⟨by rfl, ?_⟩) ?_ ?_
                    rotate_left
                    · intro w'
                      first | (go_simp; with_reducible rfl) | (have hj_ : (l1.length : Int) = ji3 := (by rw [← hji3]; simp only [mn]; split <;> omega); go_simp; with_reducible rfl) | (have hj_ : (l0.length : Int) = ji3 := (by rw [← hji3]; simp only [mn]; split <;> omega); go_simp; with_reducible rfl)
                    rotate_left
                    · simp only [Act.put, YL, YM, YN, i64_w, i32_w]
                      rfl
                    refine pure_ (i := 12) (N := some 38) (v := ?_) (a' := ?_) #[true, true, true, true, true, true, true, true, true, true, true, true, true, false, false, false, false, false, false, false, false, false, false, false, false, false, false, false, false] rfl rfl (any_of HT_.out (by kernel_rfl)) (fun _ _ _ h => h) (Or.inl ⟨by rfl, ?_⟩) ?_ ?_
                    rotate_left
                    · intro w'
                      first | (go_simp; with_reducible rfl) | (have hj_ : (l1.length : Int) = ji3 := (by rw [← hji3]; simp only [mn]; split <;> omega); go_simp; with_reducible rfl) | (have hj_ : (l0.length : Int) = ji3 := (by rw [← hji3]; simp only [mn]; split <;> omega); go_simp; with_reducible rfl)
                    rotate_left
                    · simp only [Act.put, YL, YM, YN, i64_w, i32_w]
                      rfl
                    refine pure_ (i := 16) (N := some 42) (v := ?_) (a' := ?_) #[true, true, true, true, true, true, true, true, true, true, true, true, true, false, false, false, true, false, false, false, false, false, false, false, false, false, false, false, false] rfl rfl (any_of HT_.out (by kernel_rfl)) (fun _ _ _ h => h) (Or.inl ⟨by rfl, ?_⟩) ?_ ?_
                    rotate_left
                    · intro w'
                      first | (go_simp; with_reducible rfl) | (have hj_ : (l1.length : Int) = ji3 := (by rw [← hji3]; simp only [mn]; split <;> omega); go_simp; with_reducible rfl) | (have hj_ : (l0.length : Int) = ji3 := (by rw [← hji3]; simp only [mn]; split <;> omega); go_simp; with_reducible rfl)
                    rotate_left
                    · simp only [Act.put, YL, YM, YN, i64_w, i32_w]
                      rfl
                    refine take_ (i := 13) (N := some 39) (v := ?_) (a' := ?_) #[true, true, true, true, true, true, true, true, true, true, true, true, true, true, false, false, true, false, false, false, false, false, false, false, false, false, false, false, false] rfl rfl (take_ofW HT_.out HW_.out (by kernel_rfl)) (fun _ _ _ h => h) (Or.inl ⟨by rfl, ?_⟩) hHeld ?_ ?_
                    rotate_left
                    · rintro w' ⟨s0, s1, s2, s3, s4, s5, s6, s7, s8, s9, s10, s11, s12, s13, s14, s15, s16, s17, s18⟩
                      go_simp; with_reducible rfl
                    rotate_left
                    · simp only [Act.put, YL, YM, YN, i64_w, i32_w]
                      rfl
                    refine pure_ (i := 14) (N := some 40) (v := ?_) (a' := ?_) #[true, true, true, true, true, true, true, true, true, true, true, true, true, true, true, false, true, false, false, false, false, false, false, false, false, false, false, false, false] rfl rfl (any_of HT_.out (by kernel_rfl)) (fun _ _ _ h => h) (Or.inl ⟨by rfl, ?_⟩) ?_ ?_
                    rotate_left
                    · intro w'
                      first | (go_simp; with_reducible rfl) | (have hj_ : (l1.length : Int) = ji3 := (by rw [← hji3]; simp only [mn]; split <;> omega); go_simp; with_reducible rfl) | (have hj_ : (l0.length : Int) = ji3 := (by rw [← hji3]; simp only [mn]; split <;> omega); go_simp; with_reducible rfl)
                    rotate_left
                    · simp only [Act.put, YL, YM, YN, i64_w, i32_w]
                      rfl
                    refine take_ (i := 15) (N := some 41) (v := ?_) (a' := ?_) #[true, true, true, true, true, true, true, true, true, true, true, true, true, true, true, true, true, false, false, false, false, false, false, false, false, false, false, false, false] rfl rfl (take_ofW HT_.out HW_.out (by kernel_rfl)) (fun _ _ _ h => h) (Or.inl ⟨by rfl, ?_⟩) hHeld ?_ ?_
                    rotate_left
                    · rintro w' ⟨s0, s1, s2, s3, s4, s5, s6, s7, s8, s9, s10, s11, s12, s13, s14, s15, s16, s17, s18⟩
                      go_simp; with_reducible rfl
                    rotate_left
                    · simp only [Act.put, YL, YM, YN, i64_w, i32_w]
                      rfl
                    refine take_ (i := 17) (N := some 43) (v := ?_) (a' := ?_) #[true, true, true, true, true, true, true, true, true, true, true, true, true, true, true, true, true, true, false, false, false, false, false, false, false, false, false, false, false] rfl rfl (take_ofW HT_.out HW_.out (by kernel_rfl)) (fun _ _ _ h => h) (Or.inl ⟨by rfl, ?_⟩) hHeld ?_ ?_
                    rotate_left
                    · rintro w' ⟨s0, s1, s2, s3, s4, s5, s6, s7, s8, s9, s10, s11, s12, s13, s14, s15, s16, s17, s18⟩
                      go_simp; with_reducible rfl
                    rotate_left
                    · simp only [Act.put, YL, YM, YN, i64_w, i32_w]
                      rfl
                    refine pure_ (i := 18) (N := some 44) (v := ?_) (a' := ?_) #[true, true, true, true, true, true, true, true, true, true, true, true, true, true, true, true, true, true, true, false, false, false, false, false, false, false, false, false, false] rfl rfl (any_of HT_.out (by kernel_rfl)) (fun _ _ _ h => h) (Or.inl ⟨by rfl, ?_⟩) ?_ ?_
                    rotate_left
                    · intro w'
                      first | (go_simp; with_reducible rfl) | (have hj_ : (l1.length : Int) = ji3 := (by rw [← hji3]; simp only [mn]; split <;> omega); go_simp; with_reducible rfl) | (have hj_ : (l0.length : Int) = ji3 := (by rw [← hji3]; simp only [mn]; split <;> omega); go_simp; with_reducible rfl)
                    rotate_left
                    · simp only [Act.put, YL, YM, YN, i64_w, i32_w]
                      rfl
                    refine pure_ (i := 19) (N := some 45) (v := ?_) (a' := ?_) #[true, true, true, true, true, true, true, true, true, true, true, true, true, true, true, true, true, true, true, true, false, false, false, false, false, false, false, false, false] rfl rfl (any_of HT_.out (by kernel_rfl)) (fun _ _ _ h => h) (Or.inl ⟨by rfl, ?_⟩) ?_ ?_
                    rotate_left
                    · intro w'
                      first | (go_simp; with_reducible rfl) | (have hj_ : (l1.length : Int) = ji3 := (by rw [← hji3]; simp only [mn]; split <;> omega); go_simp; with_reducible rfl) | (have hj_ : (l0.length : Int) = ji3 := (by rw [← hji3]; simp only [mn]; split <;> omega); go_simp; with_reducible rfl)
                    rotate_left
                    · simp only [Act.put, YL, YM, YN, i64_w, i32_w]
                      rfl
                    refine pure_ (i := 20) (N := some 46) (v := ?_) (a' := ?_) #[true, true, true, true, true, true, true, true, true, true, true, true, true, true, true, true, true, true, true, true, true, false, false, false, false, false, false, false, false] rfl rfl (any_of HT_.out (by kernel_rfl)) (fun _ _ _ h => h) (Or.inl ⟨by rfl, ?_⟩) ?_ ?_
                    rotate_left
                    · intro w'
                      first | (go_simp; with_reducible rfl) | (have hj_ : (l1.length : Int) = ji3 := (by rw [← hji3]; simp only [mn]; split <;> omega); go_simp; with_reducible rfl) | (have hj_ : (l0.length : Int) = ji3 := (by rw [← hji3]; simp only [mn]; split <;> omega); go_simp; with_reducible rfl)
                    rotate_left
                    · simp only [Act.put, YL, YM, YN, i64_w, i32_w]
                      rfl
                    refine pure_ (i := 21) (N := some 47) (v := ?_) (a' := ?_) #[true, true, true, true, true, true, true, true, true, true, true, true, true, true, true, true, true, true, true, true, true, true, false, false, false, false, false, false, false] rfl rfl (any_of HT_.out (by kernel_rfl)) (fun _ _ _ h => h) (Or.inl ⟨by rfl, ?_⟩) ?_ ?_
                    rotate_left
                    · intro w'
                      first | (go_simp; with_reducible rfl) | (have hj_ : (l1.length : Int) = ji3 := (by rw [← hji3]; simp only [mn]; split <;> omega); go_simp; with_reducible rfl) | (have hj_ : (l0.length : Int) = ji3 := (by rw [← hji3]; simp only [mn]; split <;> omega); go_simp; with_reducible rfl)
                    rotate_left
                    · simp only [Act.put, YL, YM, YN, i64_w, i32_w]
                      rfl
                    refine pure_ (i := 23) (N := some 49) (v := ?_) (a' := ?_) #[true, true, true, true, true, true, true, true, true, true, true, true, true, true, true, true, true, true, true, true, true, true, false, true, false, false, false, false, false] rfl rfl (any_of HT_.out (by kernel_rfl)) (fun _ _ _ h => h) (Or.inl ⟨by rfl, ?_⟩) ?_ ?_
                    rotate_left
                    · intro w'
                      first | (go_simp; with_reducible rfl) | (have hj_ : (l1.length : Int) = ji3 := (by rw [← hji3]; simp only [mn]; split <;> omega); go_simp; with_reducible rfl) | (have hj_ : (l0.length : Int) = ji3 := (by rw [← hji3]; simp only [mn]; split <;> omega); go_simp; with_reducible rfl)
                    rotate_left
                    · simp only [Act.put, YL, YM, YN, i64_w, i32_w]
                      rfl
                    refine pure_ (i := 24) (N := some 50) (v := ?_) (a' := ?_) #[true, true, true, true, true, true, true, true, true, true, true, true, true, true, true, true, true, true, true, true, true, true, false, true, true, false, false, false, false] rfl rfl (any_of HT_.out (by kernel_rfl)) (fun _ _ _ h => h) (Or.inl ⟨by rfl, ?_⟩) ?_ ?_
                    rotate_left
                    · intro w'
                      first | (go_simp; with_reducible rfl) | (have hj_ : (l1.length : Int) = ji3 := (by rw [← hji3]; simp only [mn]; split <;> omega); go_simp; with_reducible rfl) | (have hj_ : (l0.length : Int) = ji3 := (by rw [← hji3]; simp only [mn]; split <;> omega); go_simp; with_reducible rfl)
                    rotate_left
                    · simp only [Act.put, YL, YM, YN, i64_w, i32_w]
                      rfl
                    refine pure_ (i := 25) (N := some 51) (v := ?_) (a' := ?_) #[true, true, true, true, true, true, true, true, true, true, true, true, true, true, true, true, true, true, true, true, true, true, false, true, true, true, false, false, false] rfl rfl (any_of HT_.out (by kernel_rfl)) (fun _ _ _ h => h) (Or.inl ⟨by rfl, ?_⟩) ?_ ?_
                    rotate_left
                    · intro w'
                      first | (go_simp; with_reducible rfl) | (have hj_ : (l1.length : Int) = ji3 := (by rw [← hji3]; simp only [mn]; split <;> omega); go_simp; with_reducible rfl) | (have hj_ : (l0.length : Int) = ji3 := (by rw [← hji3]; simp only [mn]; split <;> omega); go_simp; with_reducible rfl)
                    rotate_left
                    · simp only [Act.put, YL, YM, YN, i64_w, i32_w]
                      rfl
                    refine take_ (i := 22) (N := some 48) (v := ?_) (a' := ?_) #[true, true, true, true, true, true, true, true, true, true, true, true, true, true, true, true, true, true, true, true, true, true, true, true, true, true, false, false, false] rfl rfl (take_ofW HT_.out HW_.out (by kernel_rfl)) (fun _ _ _ h => h) (Or.inl ⟨by rfl, ?_⟩) hHeld ?_ ?_
                    rotate_left
                    · rintro w' ⟨s0, s1, s2, s3, s4, s5, s6, s7, s8, s9, s10, s11, s12, s13, s14, s15, s16, s17, s18⟩
                      go_simp; with_reducible rfl
                    rotate_left
                    · simp only [Act.put, YL, YM, YN, i64_w, i32_w]
                      rfl
                    refine take_ (i := 26) (N := some 52) (v := ?_) (a' := ?_) #[true, true, true, true, true, true, true, true, true, true, true, true, true, true, true, true, true, true, true, true, true, true, true, true, true, true, true, false, false] rfl rfl (take_ofW HT_.out HW_.out (by kernel_rfl)) (fun _ _ _ h => h) (Or.inl ⟨by rfl, ?_⟩) hHeld ?_ ?_
                    rotate_left
                    · rintro w' ⟨s0, s1, s2, s3, s4, s5, s6, s7, s8, s9, s10, s11, s12, s13, s14, s15, s16, s17, s18⟩
                      go_simp; with_reducible rfl
                    rotate_left
                    · simp only [Act.put, YL, YM, YN, i64_w, i32_w]
                      rfl
                    refine one_ (i := 27) (N := some 53) #[true, true, true, true, true, true, true, true, true, true, true, true, true, true, true, true, true, true, true, true, true, true, true, true, true, true, true, true, false] rfl rfl (one_of HT_.out (by kernel_rfl)) (by decide) (fun K hK => ?_)
                    refine goes_ Try.func19 (by kernel_rfl) rfl #[.agg #[.bool ((rd_T55 (rd_L8 l1 x14_1) x22_2).f1.f0), .int .i64 ((rd_T55 (rd_L8 l1 x14_1) x22_2).f1.f1), .int .i64 ((rd_T55 (rd_L8 l1 x14_1) x22_2).f1.f2), .int .i64 ((rd_T55 (rd_L8 l1 x14_1) x22_2).f1.f3), .int .i64 ((rd_T55 (rd_L8 l1 x14_1) x22_2).f1.f4), .int .i64 ((rd_T55 (rd_L8 l1 x14_1) x22_2).f1.f5)], .agg #[.bool ((rd_T45 l0 x14_1).f0), .int .i64 ((rd_T45 l0 x14_1).f1), .int .i64 ((rd_T45 l0 x14_1).f2), .int .i64 ((rd_T45 l0 x14_1).f3), .int .i64 ((rd_T45 l0 x14_1).f4), .int .i64 ((rd_T45 l0 x14_1).f5)]] (by rfl) rfl rfl (by (try simp only [List.map_toArray, List.map_cons, List.map_nil]); first | done | rfl | (simp only [List.length_drop, List.length_take]; rfl)) ?_
                    with_reducible refine (height_Less.calls k2 ((rd_T55 (rd_L8 l1 x14_1) x22_2).f1.f0) ((rd_T55 (rd_L8 l1 x14_1) x22_2).f1.f1) ((rd_T55 (rd_L8 l1 x14_1) x22_2).f1.f2) ((rd_T55 (rd_L8 l1 x14_1) x22_2).f1.f3) ((rd_T55 (rd_L8 l1 x14_1) x22_2).f1.f4) ((rd_T55 (rd_L8 l1 x14_1) x22_2).f1.f5) ((rd_T45 l0 x14_1).f0) ((rd_T45 l0 x14_1).f1) ((rd_T45 l0 x14_1).f2) ((rd_T45 l0 x14_1).f3) ((rd_T45 l0 x14_1).f4) ((rd_T45 l0 x14_1).f5) false _ A16.out).mono ?_
                    rintro e w30 ⟨rfl, hb⟩
                    refine ⟨_, rfl, ?_⟩
                    have n0_ := YK (YR (by (with_reducible repeat (first | apply YO | apply YP | apply YQ)); exact HO_5.out) hb)
                    have n1_ := YK (blk_below (g := gb407) (o := .cells #[.int .i64 ((rd_T55 (rd_L8 l1 x14_1) x22_2).f0), .bool ((rd_T55 (rd_L8 l1 x14_1) x22_2).f1.f0), .int .i64 ((rd_T55 (rd_L8 l1 x14_1) x22_2).f1.f1), .int .i64 ((rd_T55 (rd_L8 l1 x14_1) x22_2).f1.f2), .int .i64 ((rd_T55 (rd_L8 l1 x14_1) x22_2).f1.f3), .int .i64 ((rd_T55 (rd_L8 l1 x14_1) x22_2).f1.f4), .int .i64 ((rd_T55 (rd_L8 l1 x14_1) x22_2).f1.f5)] 55 (0, 0)) (by (with_reducible repeat (first | refine YF ?_ _ | refine YG ?_ | refine YH ?_ _)); exact BK407.out) hb)
                    have n2_ := YK (YD (by repeat (first | (with_reducible first | exact HB.out | apply YA | apply YB | apply YC | refine below_set ?_ GE407.out) | exact HB.out)) hb)
                    clear HO_5; clear BK407; clear HB; have HO_5 := n0_; have BK407 := n1_; have HB := n2_; clear n0_ n1_ n2_; (try clear hb); (try clear hb2); (try clear hk); (try clear hi)
                    refine hK.out _ _ ⟨(YI BK407.out 0).trans rfl, (YI BK407.out 1).trans rfl, (YI BK407.out 2).trans rfl, (YI BK407.out 3).trans rfl, (YI BK407.out 4).trans rfl, (YI BK407.out 5).trans rfl, (YI BK407.out 6).trans rfl, ((HB.out.cell (World.block_lt_of_cell? w _ hw408_0)).trans hw408_0), ((HB.out.cell (World.block_lt_of_cell? w _ hw408_1)).trans hw408_1), ((HB.out.cell (World.block_lt_of_cell? w _ hw408_2)).trans hw408_2), ((HB.out.cell (World.block_lt_of_cell? w _ hw408_3)).trans hw408_3), ((HB.out.cell (World.block_lt_of_cell? w _ hw408_4)).trans hw408_4), ((HB.out.cell (World.block_lt_of_cell? w _ hw408_5)).trans hw408_5), ((HB.out.cell (World.block_lt_of_cell? w _ hw409_0)).trans hw409_0), ((HB.out.cell (World.block_lt_of_cell? w _ hw409_1)).trans hw409_1), ((HB.out.cell (World.block_lt_of_cell? w _ hw409_2)).trans hw409_2), ((HB.out.cell (World.block_lt_of_cell? w _ hw409_3)).trans hw409_3), ((HB.out.cell (World.block_lt_of_cell? w _ hw409_4)).trans hw409_4), ((HB.out.cell (World.block_lt_of_cell? w _ hw409_5)).trans hw409_5)⟩ (fun hHeld => ?_)
                    clear hK K
                    refine norm_ (a' := ?_) ?_ ?_
                    rotate_left
                    · show Act.put _ (some 53) _ = _
                      simp only [Act.put, YL, YM, YN, i64_w, i32_w]
                      rfl
                    refine pure_ (i := 28) (N := some 54) (v := ?_) (a' := ?_) #[true, true, true, true, true, true, true, true, true, true, true, true, true, true, true, true, true, true, true, true, true, true, true, true, true, true, true, true, true] rfl rfl (any_of HT_.out (by kernel_rfl)) (fun _ _ _ h => h) (Or.inl ⟨by rfl, ?_⟩) ?_ ?_
                    rotate_left
                    · intro w'
                      first | (go_simp; with_reducible rfl) | (have hj_ : (l1.length : Int) = ji3 := (by rw [← hji3]; simp only [mn]; split <;> omega); go_simp; with_reducible rfl) | (have hj_ : (l0.length : Int) = ji3 := (by rw [← hji3]; simp only [mn]; split <;> omega); go_simp; with_reducible rfl)
                    rotate_left
                    · simp only [Act.put, YL, YM, YN, i64_w, i32_w]
                      rfl
                    refine done_ (done_of HT_.out (by kernel_rfl)) ?_
                    try go_wp2
                    go_roundg k2
                    case measure => have := HK1.out; have := HK2.out; omega
                    case rel => exact ⟨(x5_2), (wrap64 (x22_2 + 1)), (by first | rfl | (simp; done) | (simp [*]; done)), H', ⟨by have := HK1.out; have := HK2.out; omega⟩, ⟨by (with_reducible repeat (first | apply YO | apply YP | apply YQ)); exact HO_5.out⟩, ⟨by repeat (first | (with_reducible first | exact HB.out | apply YA | apply YB | apply YC | refine below_set ?_ GE407.out) | exact HB.out)⟩⟩
                  rw [if_neg c13] at H
                  have c13b0 : (((rd_T45 l0 ((rd_T55 (rd_L8 l1 x14_1) x22_2).f0)).f0) == ((rd_T55 (rd_L8 l1 x14_1) x22_2).f1.f0) && (((rd_T45 l0 ((rd_T55 (rd_L8 l1 x14_1) x22_2).f0)).f1) == ((rd_T55 (rd_L8 l1 x14_1) x22_2).f1.f1) && (((rd_T45 l0 ((rd_T55 (rd_L8 l1 x14_1) x22_2).f0)).f2) == ((rd_T55 (rd_L8 l1 x14_1) x22_2).f1.f2) && (((rd_T45 l0 ((rd_T55 (rd_L8 l1 x14_1) x22_2).f0)).f3) == ((rd_T55 (rd_L8 l1 x14_1) x22_2).f1.f3) && (((rd_T45 l0 ((rd_T55 (rd_L8 l1 x14_1) x22_2).f0)).f4) == ((rd_T55 (rd_L8 l1 x14_1) x22_2).f1.f4) && (((rd_T45 l0 ((rd_T55 (rd_L8 l1 x14_1) x22_2).f0)).f5) == ((rd_T55 (rd_L8 l1 x14_1) x22_2).f1.f5))))))) = false := by simpa using c13
                  (try (have c13b1 : decide (((rd_T45 l0 ((rd_T55 (rd_L8 l1 x14_1) x22_2).f0)).f0) = ((rd_T55 (rd_L8 l1 x14_1) x22_2).f1.f0) && (((rd_T45 l0 ((rd_T55 (rd_L8 l1 x14_1) x22_2).f0)).f1) == ((rd_T55 (rd_L8 l1 x14_1) x22_2).f1.f1) && (((rd_T45 l0 ((rd_T55 (rd_L8 l1 x14_1) x22_2).f0)).f2) == ((rd_T55 (rd_L8 l1 x14_1) x22_2).f1.f2) && (((rd_T45 l0 ((rd_T55 (rd_L8 l1 x14_1) x22_2).f0)).f3) == ((rd_T55 (rd_L8 l1 x14_1) x22_2).f1.f3) && (((rd_T45 l0 ((rd_T55 (rd_L8 l1 x14_1) x22_2).f0)).f4) == ((rd_T55 (rd_L8 l1 x14_1) x22_2).f1.f4) && (((rd_T45 l0 ((rd_T55 (rd_L8 l1 x14_1) x22_2).f0)).f5) == ((rd_T55 (rd_L8 l1 x14_1) x22_2).f1.f5))))))) = false := by simpa using c13))
                  (try (have c13b2 : (((rd_T45 l0 ((rd_T55 (rd_L8 l1 x14_1) x22_2).f0)).f0) == ((rd_T55 (rd_L8 l1 x14_1) x22_2).f1.f0) && (((rd_T45 l0 ((rd_T55 (rd_L8 l1 x14_1) x22_2).f0)).f1) == ((rd_T55 (rd_L8 l1 x14_1) x22_2).f1.f1) && (((rd_T45 l0 ((rd_T55 (rd_L8 l1 x14_1) x22_2).f0)).f2) == ((rd_T55 (rd_L8 l1 x14_1) x22_2).f1.f2) && (((rd_T45 l0 ((rd_T55 (rd_L8 l1 x14_1) x22_2).f0)).f3) == ((rd_T55 (rd_L8 l1 x14_1) x22_2).f1.f3) && (((rd_T45 l0 ((rd_T55 (rd_L8 l1 x14_1) x22_2).f0)).f4) == ((rd_T55 (rd_L8 l1 x14_1) x22_2).f1.f4) && (((rd_T45 l0 ((rd_T55 (rd_L8 l1 x14_1) x22_2).f0)).f5) == ((rd_T55 (rd_L8 l1 x14_1) x22_2).f1.f5))))))) = false := by simpa using c13))
                  (try (have c13b3 : ¬ (((rd_T45 l0 ((rd_T55 (rd_L8 l1 x14_1) x22_2).f0)).f0) = ((rd_T55 (rd_L8 l1 x14_1) x22_2).f1.f0) && (((rd_T45 l0 ((rd_T55 (rd_L8 l1 x14_1) x22_2).f0)).f1) == ((rd_T55 (rd_L8 l1 x14_1) x22_2).f1.f1) && (((rd_T45 l0 ((rd_T55 (rd_L8 l1 x14_1) x22_2).f0)).f2) == ((rd_T55 (rd_L8 l1 x14_1) x22_2).f1.f2) && (((rd_T45 l0 ((rd_T55 (rd_L8 l1 x14_1) x22_2).f0)).f3) == ((rd_T55 (rd_L8 l1 x14_1) x22_2).f1.f3) && (((rd_T45 l0 ((rd_T55 (rd_L8 l1 x14_1) x22_2).f0)).f4) == ((rd_T55 (rd_L8 l1 x14_1) x22_2).f1.f4) && (((rd_T45 l0 ((rd_T55 (rd_L8 l1 x14_1) x22_2).f0)).f5) == ((rd_T55 (rd_L8 l1 x14_1) x22_2).f1.f5))))))) := by simpa using c13))
                  clear c13
                  have H' := YK H
                  clear H
                  have p406 : 0 ≤ (x22_2 : Int) := of_decide_eq_true (by first | (with_reducible assumption) | assumption)
                  have q406 : x22_2 < ((rd_L8 l1 x14_1).length : Int) := of_decide_eq_true (by first | (with_reducible assumption) | assumption)
                  obtain ⟨ad406, e406, hx406_0, hx406_1, hx406_2, hx406_3, hx406_4, hx406_5, hx406_6⟩ := at_T55 HR405_0.out x22_2 p406 q406
                  cases e406
                  replace hx406_0 := (HB.out.cell (World.block_lt_of_cell? w _ hx406_0)).trans hx406_0
                  replace hx406_1 := (HB.out.cell (World.block_lt_of_cell? w _ hx406_1)).trans hx406_1
                  replace hx406_2 := (HB.out.cell (World.block_lt_of_cell? w _ hx406_2)).trans hx406_2
                  replace hx406_3 := (HB.out.cell (World.block_lt_of_cell? w _ hx406_3)).trans hx406_3
                  replace hx406_4 := (HB.out.cell (World.block_lt_of_cell? w _ hx406_4)).trans hx406_4
                  replace hx406_5 := (HB.out.cell (World.block_lt_of_cell? w _ hx406_5)).trans hx406_5
                  replace hx406_6 := (HB.out.cell (World.block_lt_of_cell? w _ hx406_6)).trans hx406_6
                  replace p406 := eq_true p406
                  replace q406 := eq_true q406
                  try go_wp2_with (first | ((with_reducible refine gate_dst (N := 8) rfl ?_); (try (refine gate_guard (by rfl) ?_; dsimp only)); refine box_event ?hg (N := 8) ?hd (cs := #[.int .i64 0, .bool false, .int .i64 0, .int .i64 0, .int .i64 0, .int .i64 0, .int .i64 0]) (t := 55) ?hr ?_; (case hd => rfl); (case hg => rfl); (case hr => first | (go_simp; done) | (go_simp; rfl)); intro gb407 hg w31 hbox hb; have n0_ := YK (YR (by (with_reducible repeat (first | apply YO | apply YP | apply YQ)); exact HO_5.out) hb); have n1_ := YK (YD (by repeat (first | (with_reducible first | exact HB.out | apply YA | apply YB | apply YC) | exact HB.out)) hb); have n2_ := YK (hbox); have n3_ := YK ((by rw [hg]; exact (YE (by repeat (first | (with_reducible first | exact HB.out | apply YA | apply YB | apply YC) | exact HB.out))) : w.heap.size ≤ gb407)); have n4_ := YK ((by rw [hg]; exact (YE (by repeat (first | (with_reducible first | exact HB.out | apply YA | apply YB | apply YC) | exact HB.out))) : w.heap.size ≤ gb407)); clear HO_5; clear HB; have HO_5 := n0_; have HB := n1_; have BK407 := n2_; have GW407 := n3_; have GE407 := n4_; clear n0_ n1_ n2_ n3_ n4_; clear hb hbox hg; have hcz32_0 : w31.cell? ⟨gb407, 0, none⟩ = some (.int .i64 0) := (YI BK407.out 0).trans rfl; have hcz32_1 : w31.cell? ⟨gb407, 1, none⟩ = some (.bool false) := (YI BK407.out 1).trans rfl; have hcz32_2 : w31.cell? ⟨gb407, 2, none⟩ = some (.int .i64 0) := (YI BK407.out 2).trans rfl; have hcz32_3 : w31.cell? ⟨gb407, 3, none⟩ = some (.int .i64 0) := (YI BK407.out 3).trans rfl; have hcz32_4 : w31.cell? ⟨gb407, 4, none⟩ = some (.int .i64 0) := (YI BK407.out 4).trans rfl; have hcz32_5 : w31.cell? ⟨gb407, 5, none⟩ = some (.int .i64 0) := (YI BK407.out 5).trans rfl; have hcz32_6 : w31.cell? ⟨gb407, 6, none⟩ = some (.int .i64 0) := (YI BK407.out 6).trans rfl; have hfz32_0 := YJ BK407.out 0; have hfz32_1 := YJ BK407.out 1; have hfz32_2 := YJ BK407.out 2; have hfz32_3 := YJ BK407.out 3; have hfz32_4 := YJ BK407.out 4; have hfz32_5 := YJ BK407.out 5; have hfz32_6 := YJ BK407.out 6))
                  have n0_ : Aside0 (Kd.R k36 36 (((((((w31.setCell ⟨gb407, 0, none⟩ (.int .i64 ((rd_T55 (rd_L8 l1 x14_1) x22_2).f0))).setCell ⟨gb407, 1, none⟩ (.bool ((rd_T55 (rd_L8 l1 x14_1) x22_2).f1.f0))).setCell ⟨gb407, 2, none⟩ (.int .i64 ((rd_T55 (rd_L8 l1 x14_1) x22_2).f1.f1))).setCell ⟨gb407, 3, none⟩ (.int .i64 ((rd_T55 (rd_L8 l1 x14_1) x22_2).f1.f2))).setCell ⟨gb407, 4, none⟩ (.int .i64 ((rd_T55 (rd_L8 l1 x14_1) x22_2).f1.f3))).setCell ⟨gb407, 5, none⟩ (.int .i64 ((rd_T55 (rd_L8 l1 x14_1) x22_2).f1.f4))).setCell ⟨gb407, 6, none⟩ (.int .i64 ((rd_T55 (rd_L8 l1 x14_1) x22_2).f1.f5))) w.heap.size (fun _ => True) u5 x5_2) := ⟨by (with_reducible repeat (first | apply YO | apply YP | apply YQ)); exact Kd.R_mono (Kd.R_far (p := ⟨gb407, 6, none⟩) (Kd.R_far (p := ⟨gb407, 5, none⟩) (Kd.R_far (p := ⟨gb407, 4, none⟩) (Kd.R_far (p := ⟨gb407, 3, none⟩) (Kd.R_far (p := ⟨gb407, 2, none⟩) (Kd.R_far (p := ⟨gb407, 1, none⟩) (Kd.R_far (p := ⟨gb407, 0, none⟩) (Kd.R_types HO_5.out BK407.out (by decide)) (fun _ hk => hk.2) (.int .i64 ((rd_T55 (rd_L8 l1 x14_1) x22_2).f0))) (fun _ hk => hk.2) (.bool ((rd_T55 (rd_L8 l1 x14_1) x22_2).f1.f0))) (fun _ hk => hk.2) (.int .i64 ((rd_T55 (rd_L8 l1 x14_1) x22_2).f1.f1))) (fun _ hk => hk.2) (.int .i64 ((rd_T55 (rd_L8 l1 x14_1) x22_2).f1.f2))) (fun _ hk => hk.2) (.int .i64 ((rd_T55 (rd_L8 l1 x14_1) x22_2).f1.f3))) (fun _ hk => hk.2) (.int .i64 ((rd_T55 (rd_L8 l1 x14_1) x22_2).f1.f4))) (fun _ hk => hk.2) (.int .i64 ((rd_T55 (rd_L8 l1 x14_1) x22_2).f1.f5))) (fun _ hk => trivial)⟩
                  have n1_ : Aside0 ((((((((w31.setCell ⟨gb407, 0, none⟩ (.int .i64 ((rd_T55 (rd_L8 l1 x14_1) x22_2).f0))).setCell ⟨gb407, 1, none⟩ (.bool ((rd_T55 (rd_L8 l1 x14_1) x22_2).f1.f0))).setCell ⟨gb407, 2, none⟩ (.int .i64 ((rd_T55 (rd_L8 l1 x14_1) x22_2).f1.f1))).setCell ⟨gb407, 3, none⟩ (.int .i64 ((rd_T55 (rd_L8 l1 x14_1) x22_2).f1.f2))).setCell ⟨gb407, 4, none⟩ (.int .i64 ((rd_T55 (rd_L8 l1 x14_1) x22_2).f1.f3))).setCell ⟨gb407, 5, none⟩ (.int .i64 ((rd_T55 (rd_L8 l1 x14_1) x22_2).f1.f4))).setCell ⟨gb407, 6, none⟩ (.int .i64 ((rd_T55 (rd_L8 l1 x14_1) x22_2).f1.f5))).heap[gb407]? = some (.cells #[.int .i64 ((rd_T55 (rd_L8 l1 x14_1) x22_2).f0), .bool ((rd_T55 (rd_L8 l1 x14_1) x22_2).f1.f0), .int .i64 ((rd_T55 (rd_L8 l1 x14_1) x22_2).f1.f1), .int .i64 ((rd_T55 (rd_L8 l1 x14_1) x22_2).f1.f2), .int .i64 ((rd_T55 (rd_L8 l1 x14_1) x22_2).f1.f3), .int .i64 ((rd_T55 (rd_L8 l1 x14_1) x22_2).f1.f4), .int .i64 ((rd_T55 (rd_L8 l1 x14_1) x22_2).f1.f5)] 55 (0, 0))) := ⟨by (with_reducible repeat (first | refine YF ?_ _ | refine YG ?_ | refine YH ?_ _)); refine blk_put (cs := #[.int .i64 ((rd_T55 (rd_L8 l1 x14_1) x22_2).f0), .bool ((rd_T55 (rd_L8 l1 x14_1) x22_2).f1.f0), .int .i64 ((rd_T55 (rd_L8 l1 x14_1) x22_2).f1.f1), .int .i64 ((rd_T55 (rd_L8 l1 x14_1) x22_2).f1.f2), .int .i64 ((rd_T55 (rd_L8 l1 x14_1) x22_2).f1.f3), .int .i64 ((rd_T55 (rd_L8 l1 x14_1) x22_2).f1.f4), .int .i64 0]) ?_ 6 _ rfl; (with_reducible repeat (first | refine YF ?_ _ | refine YG ?_ | refine YH ?_ _)); refine blk_put (cs := #[.int .i64 ((rd_T55 (rd_L8 l1 x14_1) x22_2).f0), .bool ((rd_T55 (rd_L8 l1 x14_1) x22_2).f1.f0), .int .i64 ((rd_T55 (rd_L8 l1 x14_1) x22_2).f1.f1), .int .i64 ((rd_T55 (rd_L8 l1 x14_1) x22_2).f1.f2), .int .i64 ((rd_T55 (rd_L8 l1 x14_1) x22_2).f1.f3), .int .i64 0, .int .i64 0]) ?_ 5 _ rfl; (with_reducible repeat (first | refine YF ?_ _ | refine YG ?_ | refine YH ?_ _)); refine blk_put (cs := #[.int .i64 ((rd_T55 (rd_L8 l1 x14_1) x22_2).f0), .bool ((rd_T55 (rd_L8 l1 x14_1) x22_2).f1.f0), .int .i64 ((rd_T55 (rd_L8 l1 x14_1) x22_2).f1.f1), .int .i64 ((rd_T55 (rd_L8 l1 x14_1) x22_2).f1.f2), .int .i64 0, .int .i64 0, .int .i64 0]) ?_ 4 _ rfl; (with_reducible repeat (first | refine YF ?_ _ | refine YG ?_ | refine YH ?_ _)); refine blk_put (cs := #[.int .i64 ((rd_T55 (rd_L8 l1 x14_1) x22_2).f0), .bool ((rd_T55 (rd_L8 l1 x14_1) x22_2).f1.f0), .int .i64 ((rd_T55 (rd_L8 l1 x14_1) x22_2).f1.f1), .int .i64 0, .int .i64 0, .int .i64 0, .int .i64 0]) ?_ 3 _ rfl; (with_reducible repeat (first | refine YF ?_ _ | refine YG ?_ | refine YH ?_ _)); refine blk_put (cs := #[.int .i64 ((rd_T55 (rd_L8 l1 x14_1) x22_2).f0), .bool ((rd_T55 (rd_L8 l1 x14_1) x22_2).f1.f0), .int .i64 0, .int .i64 0, .int .i64 0, .int .i64 0, .int .i64 0]) ?_ 2 _ rfl; (with_reducible repeat (first | refine YF ?_ _ | refine YG ?_ | refine YH ?_ _)); refine blk_put (cs := #[.int .i64 ((rd_T55 (rd_L8 l1 x14_1) x22_2).f0), .bool false, .int .i64 0, .int .i64 0, .int .i64 0, .int .i64 0, .int .i64 0]) ?_ 1 _ rfl; (with_reducible repeat (first | refine YF ?_ _ | refine YG ?_ | refine YH ?_ _)); refine blk_put (cs := #[.int .i64 0, .bool false, .int .i64 0, .int .i64 0, .int .i64 0, .int .i64 0, .int .i64 0]) ?_ 0 _ rfl; (with_reducible repeat (first | refine YF ?_ _ | refine YG ?_ | refine YH ?_ _)); exact BK407.out⟩
                  have n2_ : Aside0 (Below w.heap.size w (((((((w31.setCell ⟨gb407, 0, none⟩ (.int .i64 ((rd_T55 (rd_L8 l1 x14_1) x22_2).f0))).setCell ⟨gb407, 1, none⟩ (.bool ((rd_T55 (rd_L8 l1 x14_1) x22_2).f1.f0))).setCell ⟨gb407, 2, none⟩ (.int .i64 ((rd_T55 (rd_L8 l1 x14_1) x22_2).f1.f1))).setCell ⟨gb407, 3, none⟩ (.int .i64 ((rd_T55 (rd_L8 l1 x14_1) x22_2).f1.f2))).setCell ⟨gb407, 4, none⟩ (.int .i64 ((rd_T55 (rd_L8 l1 x14_1) x22_2).f1.f3))).setCell ⟨gb407, 5, none⟩ (.int .i64 ((rd_T55 (rd_L8 l1 x14_1) x22_2).f1.f4))).setCell ⟨gb407, 6, none⟩ (.int .i64 ((rd_T55 (rd_L8 l1 x14_1) x22_2).f1.f5)))) := ⟨by repeat (first | (with_reducible first | exact HB.out | apply YA | apply YB | apply YC | refine below_set ?_ GE407.out) | exact HB.out)⟩
                  (try clear HO_5); (try clear BK407); (try clear HB)
                  generalize (((((((w31.setCell ⟨gb407, 0, none⟩ (.int .i64 ((rd_T55 (rd_L8 l1 x14_1) x22_2).f0))).setCell ⟨gb407, 1, none⟩ (.bool ((rd_T55 (rd_L8 l1 x14_1) x22_2).f1.f0))).setCell ⟨gb407, 2, none⟩ (.int .i64 ((rd_T55 (rd_L8 l1 x14_1) x22_2).f1.f1))).setCell ⟨gb407, 3, none⟩ (.int .i64 ((rd_T55 (rd_L8 l1 x14_1) x22_2).f1.f2))).setCell ⟨gb407, 4, none⟩ (.int .i64 ((rd_T55 (rd_L8 l1 x14_1) x22_2).f1.f3))).setCell ⟨gb407, 5, none⟩ (.int .i64 ((rd_T55 (rd_L8 l1 x14_1) x22_2).f1.f4))).setCell ⟨gb407, 6, none⟩ (.int .i64 ((rd_T55 (rd_L8 l1 x14_1) x22_2).f1.f5))) = w33 at n0_ n1_ n2_ ⊢
                  have HO_5 := n0_; have BK407 := n1_; have HB := n2_; clear n0_ n1_ n2_
                  have n0_ := YK (YQ HO_5.out)
                  have n1_ := YK (YG BK407.out)
                  have n2_ := YK (YC HB.out)
                  clear HO_5; clear BK407; clear HB; have HO_5 := n0_; have BK407 := n1_; have HB := n2_; clear n0_ n1_ n2_
                  have p408 : 0 ≤ (((rd_T55 (rd_L8 l1 x14_1) x22_2).f0) : Int) := of_decide_eq_true (by first | (with_reducible assumption) | assumption)
                  have q408 : ((rd_T55 (rd_L8 l1 x14_1) x22_2).f0) < (l0.length : Int) := of_decide_eq_true (by first | (with_reducible assumption) | assumption)
                  obtain ⟨ad408, e408, hx408_0, hx408_1, hx408_2, hx408_3, hx408_4, hx408_5⟩ := at_T45 HR0.out ((rd_T55 (rd_L8 l1 x14_1) x22_2).f0) p408 q408
                  have hw408_5 := hx408_5
                  have hw408_4 := hx408_4
                  have hw408_3 := hx408_3
                  have hw408_2 := hx408_2
                  have hw408_1 := hx408_1
                  have hw408_0 := hx408_0
                  cases e408
                  replace hx408_0 := (HB.out.cell (World.block_lt_of_cell? w _ hx408_0)).trans hx408_0
                  replace hx408_1 := (HB.out.cell (World.block_lt_of_cell? w _ hx408_1)).trans hx408_1
                  replace hx408_2 := (HB.out.cell (World.block_lt_of_cell? w _ hx408_2)).trans hx408_2
                  replace hx408_3 := (HB.out.cell (World.block_lt_of_cell? w _ hx408_3)).trans hx408_3
                  replace hx408_4 := (HB.out.cell (World.block_lt_of_cell? w _ hx408_4)).trans hx408_4
                  replace hx408_5 := (HB.out.cell (World.block_lt_of_cell? w _ hx408_5)).trans hx408_5
                  replace p408 := eq_true p408
                  replace q408 := eq_true q408
                  refine start_ (n := 29) (S := fun w' => w'.cell? ⟨gb407, 0, none⟩ = some (.int .i64 ((rd_T55 (rd_L8 l1 x14_1) x22_2).f0)) ∧ w'.cell? ⟨gb407, 1, none⟩ = some (.bool ((rd_T55 (rd_L8 l1 x14_1) x22_2).f1.f0)) ∧ w'.cell? ⟨gb407, 2, none⟩ = some (.int .i64 ((rd_T55 (rd_L8 l1 x14_1) x22_2).f1.f1)) ∧ w'.cell? ⟨gb407, 3, none⟩ = some (.int .i64 ((rd_T55 (rd_L8 l1 x14_1) x22_2).f1.f2)) ∧ w'.cell? ⟨gb407, 4, none⟩ = some (.int .i64 ((rd_T55 (rd_L8 l1 x14_1) x22_2).f1.f3)) ∧ w'.cell? ⟨gb407, 5, none⟩ = some (.int .i64 ((rd_T55 (rd_L8 l1 x14_1) x22_2).f1.f4)) ∧ w'.cell? ⟨gb407, 6, none⟩ = some (.int .i64 ((rd_T55 (rd_L8 l1 x14_1) x22_2).f1.f5)) ∧ w'.cell? (ad408.add ((((rd_T55 (rd_L8 l1 x14_1) x22_2).f0)).toNat * 6)) = some (.bool ((rd_T45 l0 ((rd_T55 (rd_L8 l1 x14_1) x22_2).f0)).f0)) ∧ w'.cell? ⟨(ad408.add ((((rd_T55 (rd_L8 l1 x14_1) x22_2).f0)).toNat * 6)).block, (ad408.add ((((rd_T55 (rd_L8 l1 x14_1) x22_2).f0)).toNat * 6)).off + 1, none⟩ = some (.int .i64 ((rd_T45 l0 ((rd_T55 (rd_L8 l1 x14_1) x22_2).f0)).f1)) ∧ w'.cell? ⟨(ad408.add ((((rd_T55 (rd_L8 l1 x14_1) x22_2).f0)).toNat * 6)).block, (ad408.add ((((rd_T55 (rd_L8 l1 x14_1) x22_2).f0)).toNat * 6)).off + 2, none⟩ = some (.int .i64 ((rd_T45 l0 ((rd_T55 (rd_L8 l1 x14_1) x22_2).f0)).f2)) ∧ w'.cell? ⟨(ad408.add ((((rd_T55 (rd_L8 l1 x14_1) x22_2).f0)).toNat * 6)).block, (ad408.add ((((rd_T55 (rd_L8 l1 x14_1) x22_2).f0)).toNat * 6)).off + 3, none⟩ = some (.int .i64 ((rd_T45 l0 ((rd_T55 (rd_L8 l1 x14_1) x22_2).f0)).f3)) ∧ w'.cell? ⟨(ad408.add ((((rd_T55 (rd_L8 l1 x14_1) x22_2).f0)).toNat * 6)).block, (ad408.add ((((rd_T55 (rd_L8 l1 x14_1) x22_2).f0)).toNat * 6)).off + 4, none⟩ = some (.int .i64 ((rd_T45 l0 ((rd_T55 (rd_L8 l1 x14_1) x22_2).f0)).f4)) ∧ w'.cell? ⟨(ad408.add ((((rd_T55 (rd_L8 l1 x14_1) x22_2).f0)).toNat * 6)).block, (ad408.add ((((rd_T55 (rd_L8 l1 x14_1) x22_2).f0)).toNat * 6)).off + 5, none⟩ = some (.int .i64 ((rd_T45 l0 ((rd_T55 (rd_L8 l1 x14_1) x22_2).f0)).f5))) (ds := []) #[false, false, false, false, false, false, false, false, false, false, false, false, false, false, false, false, false, false, false, false, false, false, false, false, false, false, false, false, false] (by kernel_rfl) rfl rfl ⟨(YI BK407.out 0).trans rfl, (YI BK407.out 1).trans rfl, (YI BK407.out 2).trans rfl, (YI BK407.out 3).trans rfl, (YI BK407.out 4).trans rfl, (YI BK407.out 5).trans rfl, (YI BK407.out 6).trans rfl, ((HB.out.cell (World.block_lt_of_cell? w _ hw408_0)).trans hw408_0), ((HB.out.cell (World.block_lt_of_cell? w _ hw408_1)).trans hw408_1), ((HB.out.cell (World.block_lt_of_cell? w _ hw408_2)).trans hw408_2), ((HB.out.cell (World.block_lt_of_cell? w _ hw408_3)).trans hw408_3), ((HB.out.cell (World.block_lt_of_cell? w _ hw408_4)).trans hw408_4), ((HB.out.cell (World.block_lt_of_cell? w _ hw408_5)).trans hw408_5)⟩ (fun hHeld => ?_); refine with_tabW graph_Fresh.tab8 graph_Fresh.bits8 (fun HT_ HW_ => ?_)
                  generalize w33.drew = w34 at HO_5 BK407 HB hx408_0 hx408_1 hx408_2 hx408_3 hx408_4 hx408_5 hHeld ⊢
                  refine pure_ (i := 0) (N := some 26) (v := ?_) (a' := ?_) #[true, false, false, false, false, false, false, false, false, false, false, false, false, false, false, false, false, false, false, false, false, false, false, false, false, false, false, false, false] rfl rfl (any_of HT_.out (by kernel_rfl)) (fun _ _ _ h => h) (Or.inl ⟨by rfl, ?_⟩) ?_ ?_
                  rotate_left
                  · intro w'
                    first | (go_simp; with_reducible rfl) | (have hj_ : (l1.length : Int) = ji3 := (by rw [← hji3]; simp only [mn]; split <;> omega); go_simp; with_reducible rfl) | (have hj_ : (l0.length : Int) = ji3 := (by rw [← hji3]; simp only [mn]; split <;> omega); go_simp; with_reducible rfl)
                  rotate_left
                  · simp only [Act.put, YL, YM, YN, i64_w, i32_w]
                    rfl
                  refine take_ (i := 1) (N := some 27) (v := ?_) (a' := ?_) #[true, true, false, false, false, false, false, false, false, false, false, false, false, false, false, false, false, false, false, false, false, false, false, false, false, false, false, false, false] rfl rfl (take_ofW HT_.out HW_.out (by kernel_rfl)) (fun _ _ _ h => h) (Or.inl ⟨by rfl, ?_⟩) hHeld ?_ ?_
                  rotate_left
                  · rintro w' ⟨s0, s1, s2, s3, s4, s5, s6, s7, s8, s9, s10, s11, s12⟩
                    go_simp; with_reducible rfl
                  rotate_left
                  · simp only [Act.put, YL, YM, YN, i64_w, i32_w]
                    rfl
                  refine pure_ (i := 2) (N := some 28) (v := ?_) (a' := ?_) #[true, true, true, false, false, false, false, false, false, false, false, false, false, false, false, false, false, false, false, false, false, false, false, false, false, false, false, false, false] rfl rfl (any_of HT_.out (by kernel_rfl)) (fun _ _ _ h => h) (Or.inl ⟨by rfl, ?_⟩) ?_ ?_
                  rotate_left
                  · intro w'
                    first | (go_simp; with_reducible rfl) | (have hj_ : (l1.length : Int) = ji3 := (by rw [← hji3]; simp only [mn]; split <;> omega); go_simp; with_reducible rfl) | (have hj_ : (l0.length : Int) = ji3 := (by rw [← hji3]; simp only [mn]; split <;> omega); go_simp; with_reducible rfl)
                  rotate_left
                  · simp only [Act.put, YL, YM, YN, i64_w, i32_w]
                    rfl
                  refine pure_ (i := 3) (N := some 29) (v := ?_) (a' := ?_) #[true, true, true, true, false, false, false, false, false, false, false, false, false, false, false, false, false, false, false, false, false, false, false, false, false, false, false, false, false] rfl rfl (any_of HT_.out (by kernel_rfl)) (fun _ _ _ h => h) (Or.inl ⟨by rfl, ?_⟩) ?_ ?_
                  rotate_left
                  · intro w'
                    first | (go_simp; with_reducible rfl) | (have hj_ : (l1.length : Int) = ji3 := (by rw [← hji3]; simp only [mn]; split <;> omega); go_simp; with_reducible rfl) | (have hj_ : (l0.length : Int) = ji3 := (by rw [← hji3]; simp only [mn]; split <;> omega); go_simp; with_reducible rfl)
                  rotate_left
                  · simp only [Act.put, YL, YM, YN, i64_w, i32_w]
                    rfl
                  refine pure_ (i := 4) (N := some 30) (v := ?_) (a' := ?_) #[true, true, true, true, true, false, false, false, false, false, false, false, false, false, false, false, false, false, false, false, false, false, false, false, false, false, false, false, false] rfl rfl (any_of HT_.out (by kernel_rfl)) (fun _ _ _ h => h) (Or.inl ⟨by rfl, ?_⟩) ?_ ?_
                  rotate_left
                  · intro w'
                    first | (go_simp; with_reducible rfl) | (have hj_ : (l1.length : Int) = ji3 := (by rw [← hji3]; simp only [mn]; split <;> omega); go_simp; with_reducible rfl) | (have hj_ : (l0.length : Int) = ji3 := (by rw [← hji3]; simp only [mn]; split <;> omega); go_simp; with_reducible rfl)
                  rotate_left
                  · simp only [Act.put, YL, YM, YN, i64_w, i32_w]
                    rfl
                  refine pure_ (i := 6) (N := some 32) (v := ?_) (a' := ?_) #[true, true, true, true, true, false, true, false, false, false, false, false, false, false, false, false, false, false, false, false, false, false, false, false, false, false, false, false, false] rfl rfl (any_of HT_.out (by kernel_rfl)) (fun _ _ _ h => h) (Or.inl ⟨by rfl, ?_⟩) ?_ ?_
                  rotate_left
                  · intro w'
                    first | (go_simp; with_reducible rfl) | (have hj_ : (l1.length : Int) = ji3 := (by rw [← hji3]; simp only [mn]; split <;> omega); go_simp; with_reducible rfl) | (have hj_ : (l0.length : Int) = ji3 := (by rw [← hji3]; simp only [mn]; split <;> omega); go_simp; with_reducible rfl)
                  rotate_left
                  · simp only [Act.put, YL, YM, YN, i64_w, i32_w]
                    rfl
                  refine pure_ (i := 7) (N := some 33) (v := ?_) (a' := ?_) #[true, true, true, true, true, false, true, true, false, false, false, false, false, false, false, false, false, false, false, false, false, false, false, false, false, false, false, false, false] rfl rfl (any_of HT_.out (by kernel_rfl)) (fun _ _ _ h => h) (Or.inl ⟨by rfl, ?_⟩) ?_ ?_
                  rotate_left
                  · intro w'
                    first | (go_simp; with_reducible rfl) | (have hj_ : (l1.length : Int) = ji3 := (by rw [← hji3]; simp only [mn]; split <;> omega); go_simp; with_reducible rfl) | (have hj_ : (l0.length : Int) = ji3 := (by rw [← hji3]; simp only [mn]; split <;> omega); go_simp; with_reducible rfl)
                  rotate_left
                  · simp only [Act.put, YL, YM, YN, i64_w, i32_w]
                    rfl
                  refine take_ (i := 5) (N := some 31) (v := ?_) (a' := ?_) #[true, true, true, true, true, true, true, true, false, false, false, false, false, false, false, false, false, false, false, false, false, false, false, false, false, false, false, false, false] rfl rfl (take_ofW HT_.out HW_.out (by kernel_rfl)) (fun _ _ _ h => h) (Or.inl ⟨by rfl, ?_⟩) hHeld ?_ ?_
                  rotate_left
                  · rintro w' ⟨s0, s1, s2, s3, s4, s5, s6, s7, s8, s9, s10, s11, s12⟩
                    go_simp; with_reducible rfl
                  rotate_left
                  · simp only [Act.put, YL, YM, YN, i64_w, i32_w]
                    rfl
                  refine pure_ (i := 8) (N := some 34) (v := ?_) (a' := ?_) #[true, true, true, true, true, true, true, true, true, false, false, false, false, false, false, false, false, false, false, false, false, false, false, false, false, false, false, false, false] rfl rfl (any_of HT_.out (by kernel_rfl)) (fun _ _ _ h => h) (Or.inl ⟨by rfl, ?_⟩) ?_ ?_
                  rotate_left
                  · intro w'
                    first | (go_simp; with_reducible rfl) | (have hj_ : (l1.length : Int) = ji3 := (by rw [← hji3]; simp only [mn]; split <;> omega); go_simp; with_reducible rfl) | (have hj_ : (l0.length : Int) = ji3 := (by rw [← hji3]; simp only [mn]; split <;> omega); go_simp; with_reducible rfl)
                  rotate_left
                  · simp only [Act.put, YL, YM, YN, i64_w, i32_w]
                    rfl
                  refine pure_ (i := 9) (N := some 35) (v := ?_) (a' := ?_) #[true, true, true, true, true, true, true, true, true, true, false, false, false, false, false, false, false, false, false, false, false, false, false, false, false, false, false, false, false] rfl rfl (any_of HT_.out (by kernel_rfl)) (fun _ _ _ h => h) (Or.inl ⟨by rfl, ?_⟩) ?_ ?_
                  rotate_left
                  · intro w'
                    first | (go_simp; with_reducible rfl) | (have hj_ : (l1.length : Int) = ji3 := (by rw [← hji3]; simp only [mn]; split <;> omega); go_simp; with_reducible rfl) | (have hj_ : (l0.length : Int) = ji3 := (by rw [← hji3]; simp only [mn]; split <;> omega); go_simp; with_reducible rfl)
                  rotate_left
                  · simp only [Act.put, YL, YM, YN, i64_w, i32_w]
                    rfl
                  refine pure_ (i := 10) (N := some 36) (v := ?_) (a' := ?_) #[true, true, true, true, true, true, true, true, true, true, true, false, false, false, false, false, false, false, false, false, false, false, false, false, false, false, false, false, false] rfl rfl (any_of HT_.out (by kernel_rfl)) (fun _ _ _ h => h) (Or.inl ⟨by rfl, ?_⟩) ?_ ?_
                  rotate_left
                  · intro w'
                    first | (go_simp; with_reducible rfl) | (have hj_ : (l1.length : Int) = ji3 := (by rw [← hji3]; simp only [mn]; split <;> omega); go_simp; with_reducible rfl) | (have hj_ : (l0.length : Int) = ji3 := (by rw [← hji3]; simp only [mn]; split <;> omega); go_simp; with_reducible rfl)
                  rotate_left
                  · simp only [Act.put, YL, YM, YN, i64_w, i32_w]
                    rfl
                  refine pure_ (i := 11) (N := some 37) (v := ?_) (a' := ?_) #[true, true, true, true, true, true, true, true, true, true, true, true, false, false, false, false, false, false, false, false, false, false, false, false, false, false, false, false, false] rfl rfl (any_of HT_.out (by kernel_rfl)) (fun _ _ _ h => h) (Or.inl ⟨by rfl, ?_⟩) ?_ ?_
                  rotate_left
                  · intro w'
                    first | (go_simp; with_reducible rfl) | (have hj_ : (l1.length : Int) = ji3 := (by rw [← hji3]; simp only [mn]; split <;> omega); go_simp; with_reducible rfl) | (have hj_ : (l0.length : Int) = ji3 := (by rw [← hji3]; simp only [mn]; split <;> omega); go_simp; with_reducible rfl)
                  rotate_left
                  · simp only [Act.put, YL, YM, YN, i64_w, i32_w]
                    rfl
                  refine pure_ (i := 12) (N := some 38) (v := ?_) (a' := ?_) #[true, true, true, true, true, true, true, true, true, true, true, true, true, false, false, false, false, false, false, false, false, false, false, false, false, false, false, false, false] rfl rfl (any_of HT_.out (by kernel_rfl)) (fun _ _ _ h => h) (Or.inl ⟨by rfl, ?_⟩) ?_ ?_
                  rotate_left
                  · intro w'
                    first | (go_simp; with_reducible rfl) | (have hj_ : (l1.length : Int) = ji3 := (by rw [← hji3]; simp only [mn]; split <;> omega); go_simp; with_reducible rfl) | (have hj_ : (l0.length : Int) = ji3 := (by rw [← hji3]; simp only [mn]; split <;> omega); go_simp; with_reducible rfl)
                  rotate_left
                  · simp only [Act.put, YL, YM, YN, i64_w, i32_w]
                    rfl
                  refine pure_ (i := 16) (N := some 42) (v := ?_) (a' := ?_) #[true, true, true, true, true, true, true, true, true, true, true, true, true, false, false, false, true, false, false, false, false, false, false, false, false, false, false, false, false] rfl rfl (any_of HT_.out (by kernel_rfl)) (fun _ _ _ h => h) (Or.inl ⟨by rfl, ?_⟩) ?_ ?_
                  rotate_left
                  · intro w'
                    first | (go_simp; with_reducible rfl) | (have hj_ : (l1.length : Int) = ji3 := (by rw [← hji3]; simp only [mn]; split <;> omega); go_simp; with_reducible rfl) | (have hj_ : (l0.length : Int) = ji3 := (by rw [← hji3]; simp only [mn]; split <;> omega); go_simp; with_reducible rfl)
                  rotate_left
                  · simp only [Act.put, YL, YM, YN, i64_w, i32_w]
                    rfl
                  refine take_ (i := 13) (N := some 39) (v := ?_) (a' := ?_) #[true, true, true, true, true, true, true, true, true, true, true, true, true, true, false, false, true, false, false, false, false, false, false, false, false, false, false, false, false] rfl rfl (take_ofW HT_.out HW_.out (by kernel_rfl)) (fun _ _ _ h => h) (Or.inl ⟨by rfl, ?_⟩) hHeld ?_ ?_
                  rotate_left
                  · rintro w' ⟨s0, s1, s2, s3, s4, s5, s6, s7, s8, s9, s10, s11, s12⟩
                    go_simp; with_reducible rfl
                  rotate_left
                  · simp only [Act.put, YL, YM, YN, i64_w, i32_w]
                    rfl
                  refine pure_ (i := 14) (N := some 40) (v := ?_) (a' := ?_) #[true, true, true, true, true, true, true, true, true, true, true, true, true, true, true, false, true, false, false, false, false, false, false, false, false, false, false, false, false] rfl rfl (any_of HT_.out (by kernel_rfl)) (fun _ _ _ h => h) (Or.inl ⟨by rfl, ?_⟩) ?_ ?_
                  rotate_left
                  · intro w'
                    first | (go_simp; with_reducible rfl) | (have hj_ : (l1.length : Int) = ji3 := (by rw [← hji3]; simp only [mn]; split <;> omega); go_simp; with_reducible rfl) | (have hj_ : (l0.length : Int) = ji3 := (by rw [← hji3]; simp only [mn]; split <;> omega); go_simp; with_reducible rfl)
                  rotate_left
                  · simp only [Act.put, YL, YM, YN, i64_w, i32_w]
                    rfl
                  refine take_ (i := 15) (N := some 41) (v := ?_) (a' := ?_) #[true, true, true, true, true, true, true, true, true, true, true, true, true, true, true, true, true, false, false, false, false, false, false, false, false, false, false, false, false] rfl rfl (take_ofW HT_.out HW_.out (by kernel_rfl)) (fun _ _ _ h => h) (Or.inl ⟨by rfl, ?_⟩) hHeld ?_ ?_
                  rotate_left
                  · rintro w' ⟨s0, s1, s2, s3, s4, s5, s6, s7, s8, s9, s10, s11, s12⟩
                    go_simp; with_reducible rfl
                  rotate_left
                  · simp only [Act.put, YL, YM, YN, i64_w, i32_w]
                    rfl
                  refine take_ (i := 17) (N := some 43) (v := ?_) (a' := ?_) #[true, true, true, true, true, true, true, true, true, true, true, true, true, true, true, true, true, true, false, false, false, false, false, false, false, false, false, false, false] rfl rfl (take_ofW HT_.out HW_.out (by kernel_rfl)) (fun _ _ _ h => h) (Or.inl ⟨by rfl, ?_⟩) hHeld ?_ ?_
                  rotate_left
                  · rintro w' ⟨s0, s1, s2, s3, s4, s5, s6, s7, s8, s9, s10, s11, s12⟩
                    go_simp; with_reducible rfl
                  rotate_left
                  · simp only [Act.put, YL, YM, YN, i64_w, i32_w]
                    rfl
                  refine pure_ (i := 18) (N := some 44) (v := ?_) (a' := ?_) #[true, true, true, true, true, true, true, true, true, true, true, true, true, true, true, true, true, true, true, false, false, false, false, false, false, false, false, false, false] rfl rfl (any_of HT_.out (by kernel_rfl)) (fun _ _ _ h => h) (Or.inl ⟨by rfl, ?_⟩) ?_ ?_
                  rotate_left
                  · intro w'
                    first | (go_simp; with_reducible rfl) | (have hj_ : (l1.length : Int) = ji3 := (by rw [← hji3]; simp only [mn]; split <;> omega); go_simp; with_reducible rfl) | (have hj_ : (l0.length : Int) = ji3 := (by rw [← hji3]; simp only [mn]; split <;> omega); go_simp; with_reducible rfl)
                  rotate_left
                  · simp only [Act.put, YL, YM, YN, i64_w, i32_w]
                    rfl
                  refine pure_ (i := 19) (N := some 45) (v := ?_) (a' := ?_) #[true, true, true, true, true, true, true, true, true, true, true, true, true, true, true, true, true, true, true, true, false, false, false, false, false, false, false, false, false] rfl rfl (any_of HT_.out (by kernel_rfl)) (fun _ _ _ h => h) (Or.inl ⟨by rfl, ?_⟩) ?_ ?_
                  rotate_left
                  · intro w'
                    first | (go_simp; with_reducible rfl) | (have hj_ : (l1.length : Int) = ji3 := (by rw [← hji3]; simp only [mn]; split <;> omega); go_simp; with_reducible rfl) | (have hj_ : (l0.length : Int) = ji3 := (by rw [← hji3]; simp only [mn]; split <;> omega); go_simp; with_reducible rfl)
                  rotate_left
                  · simp only [Act.put, YL, YM, YN, i64_w, i32_w]
                    rfl
                  refine pure_ (i := 20) (N := some 46) (v := ?_) (a' := ?_) #[true, true, true, true, true, true, true, true, true, true, true, true, true, true, true, true, true, true, true, true, true, false, false, false, false, false, false, false, false] rfl rfl (any_of HT_.out (by kernel_rfl)) (fun _ _ _ h => h) (Or.inl ⟨by rfl, ?_⟩) ?_ ?_
                  rotate_left
                  · intro w'
                    first | (go_simp; with_reducible rfl) | (have hj_ : (l1.length : Int) = ji3 := (by rw [← hji3]; simp only [mn]; split <;> omega); go_simp; with_reducible rfl) | (have hj_ : (l0.length : Int) = ji3 := (by rw [← hji3]; simp only [mn]; split <;> omega); go_simp; with_reducible rfl)
                  rotate_left
                  · simp only [Act.put, YL, YM, YN, i64_w, i32_w]
                    rfl
                  refine pure_ (i := 21) (N := some 47) (v := undef) (a' := ?_) #[true, true, true, true, true, true, true, true, true, true, true, true, true, true, true, true, true, true, true, true, true, true, false, false, false, false, false, false, false] rfl rfl (any_of HT_.out (by kernel_rfl)) (fun _ _ _ h => h) (Or.inr ⟨by rfl, rfl⟩) ?_ ?_
                  rotate_left
                  · simp only [Act.put, YL, YM, YN, i64_w, i32_w]
                    rfl
                  refine pure_ (i := 22) (N := some 48) (v := undef) (a' := ?_) #[true, true, true, true, true, true, true, true, true, true, true, true, true, true, true, true, true, true, true, true, true, true, true, false, false, false, false, false, false] rfl rfl (any_of HT_.out (by kernel_rfl)) (fun _ _ _ h => h) (Or.inr ⟨by rfl, rfl⟩) ?_ ?_
                  rotate_left
                  · simp only [Act.put, YL, YM, YN, i64_w, i32_w]
                    rfl
                  refine pure_ (i := 23) (N := some 49) (v := undef) (a' := ?_) #[true, true, true, true, true, true, true, true, true, true, true, true, true, true, true, true, true, true, true, true, true, true, true, true, false, false, false, false, false] rfl rfl (any_of HT_.out (by kernel_rfl)) (fun _ _ _ h => h) (Or.inr ⟨by rfl, rfl⟩) ?_ ?_
                  rotate_left
                  · simp only [Act.put, YL, YM, YN, i64_w, i32_w]
                    rfl
                  refine pure_ (i := 24) (N := some 50) (v := undef) (a' := ?_) #[true, true, true, true, true, true, true, true, true, true, true, true, true, true, true, true, true, true, true, true, true, true, true, true, true, false, false, false, false] rfl rfl (any_of HT_.out (by kernel_rfl)) (fun _ _ _ h => h) (Or.inr ⟨by rfl, rfl⟩) ?_ ?_
                  rotate_left
                  · simp only [Act.put, YL, YM, YN, i64_w, i32_w]
                    rfl
                  refine pure_ (i := 25) (N := some 51) (v := undef) (a' := ?_) #[true, true, true, true, true, true, true, true, true, true, true, true, true, true, true, true, true, true, true, true, true, true, true, true, true, true, false, false, false] rfl rfl (any_of HT_.out (by kernel_rfl)) (fun _ _ _ h => h) (Or.inr ⟨by rfl, rfl⟩) ?_ ?_
                  rotate_left
                  · simp only [Act.put, YL, YM, YN, i64_w, i32_w]
                    rfl
                  refine pure_ (i := 26) (N := some 52) (v := undef) (a' := ?_) #[true, true, true, true, true, true, true, true, true, true, true, true, true, true, true, true, true, true, true, true, true, true, true, true, true, true, true, false, false] rfl rfl (any_of HT_.out (by kernel_rfl)) (fun _ _ _ h => h) (Or.inr ⟨by rfl, rfl⟩) ?_ ?_
                  rotate_left
                  · simp only [Act.put, YL, YM, YN, i64_w, i32_w]
                    rfl
                  refine pure_ (i := 27) (N := some 53) (v := undef) (a' := ?_) #[true, true, true, true, true, true, true, true, true, true, true, true, true, true, true, true, true, true, true, true, true, true, true, true, true, true, true, true, false] rfl rfl (any_of HT_.out (by kernel_rfl)) (fun _ _ _ h => h) (Or.inr ⟨by rfl, rfl⟩) ?_ ?_
                  rotate_left
                  · simp only [Act.put, YL, YM, YN, i64_w, i32_w]
                    rfl
                  refine pure_ (i := 28) (N := some 54) (v := ?_) (a' := ?_) #[true, true, true, true, true, true, true, true, true, true, true, true, true, true, true, true, true, true, true, true, true, true, true, true, true, true, true, true, true] rfl rfl (any_of HT_.out (by kernel_rfl)) (fun _ _ _ h => h) (Or.inl ⟨by rfl, ?_⟩) ?_ ?_
                  rotate_left
                  · intro w'
                    first | (go_simp; with_reducible rfl) | (have hj_ : (l1.length : Int) = ji3 := (by rw [← hji3]; simp only [mn]; split <;> omega); go_simp; with_reducible rfl) | (have hj_ : (l0.length : Int) = ji3 := (by rw [← hji3]; simp only [mn]; split <;> omega); go_simp; with_reducible rfl)
                  rotate_left
                  · simp only [Act.put, YL, YM, YN, i64_w, i32_w]
                    rfl
                  refine done_ (done_of HT_.out (by kernel_rfl)) ?_
                  try go_wp2
                  go_roundg k2
                  case measure => have := HK1.out; have := HK2.out; omega
                  case rel => exact ⟨(x5_2), (wrap64 (x22_2 + 1)), (by first | rfl | (simp; done) | (simp [*]; done)), H', ⟨by have := HK1.out; have := HK2.out; omega⟩, ⟨by (with_reducible repeat (first | apply YO | apply YP | apply YQ)); exact HO_5.out⟩, ⟨by repeat (first | (with_reducible first | exact HB.out | apply YA | apply YB | apply YC | refine below_set ?_ GE407.out) | exact HB.out)⟩⟩
                rw [if_neg c11] at H
                have c11b0 : decide (((rd_T55 (rd_L8 l1 x14_1) x22_2).f0) < (l0.length : Int)) = false := decide_eq_false c11
                clear c11
                have H' := YK H
                clear H
                have p406 : 0 ≤ (x22_2 : Int) := of_decide_eq_true (by first | (with_reducible assumption) | assumption)
                have q406 : x22_2 < ((rd_L8 l1 x14_1).length : Int) := of_decide_eq_true (by first | (with_reducible assumption) | assumption)
                obtain ⟨ad406, e406, hx406_0, hx406_1, hx406_2, hx406_3, hx406_4, hx406_5, hx406_6⟩ := at_T55 HR405_0.out x22_2 p406 q406
                cases e406
                replace hx406_0 := (HB.out.cell (World.block_lt_of_cell? w _ hx406_0)).trans hx406_0
                replace hx406_1 := (HB.out.cell (World.block_lt_of_cell? w _ hx406_1)).trans hx406_1
                replace hx406_2 := (HB.out.cell (World.block_lt_of_cell? w _ hx406_2)).trans hx406_2
                replace hx406_3 := (HB.out.cell (World.block_lt_of_cell? w _ hx406_3)).trans hx406_3
                replace hx406_4 := (HB.out.cell (World.block_lt_of_cell? w _ hx406_4)).trans hx406_4
                replace hx406_5 := (HB.out.cell (World.block_lt_of_cell? w _ hx406_5)).trans hx406_5
                replace hx406_6 := (HB.out.cell (World.block_lt_of_cell? w _ hx406_6)).trans hx406_6
                replace p406 := eq_true p406
                replace q406 := eq_true q406
                try go_wp2_with (first | ((with_reducible refine gate_dst (N := 8) rfl ?_); (try (refine gate_guard (by rfl) ?_; dsimp only)); refine box_event ?hg (N := 8) ?hd (cs := #[.int .i64 0, .bool false, .int .i64 0, .int .i64 0, .int .i64 0, .int .i64 0, .int .i64 0]) (t := 55) ?hr ?_; (case hd => rfl); (case hg => rfl); (case hr => first | (go_simp; done) | (go_simp; rfl)); intro gb407 hg w35 hbox hb; have n0_ := YK (YR (by (with_reducible repeat (first | apply YO | apply YP | apply YQ)); exact HO_5.out) hb); have n1_ := YK (YD (by repeat (first | (with_reducible first | exact HB.out | apply YA | apply YB | apply YC) | exact HB.out)) hb); have n2_ := YK (hbox); have n3_ := YK ((by rw [hg]; exact (YE (by repeat (first | (with_reducible first | exact HB.out | apply YA | apply YB | apply YC) | exact HB.out))) : w.heap.size ≤ gb407)); have n4_ := YK ((by rw [hg]; exact (YE (by repeat (first | (with_reducible first | exact HB.out | apply YA | apply YB | apply YC) | exact HB.out))) : w.heap.size ≤ gb407)); clear HO_5; clear HB; have HO_5 := n0_; have HB := n1_; have BK407 := n2_; have GW407 := n3_; have GE407 := n4_; clear n0_ n1_ n2_ n3_ n4_; clear hb hbox hg; have hcz36_0 : w35.cell? ⟨gb407, 0, none⟩ = some (.int .i64 0) := (YI BK407.out 0).trans rfl; have hcz36_1 : w35.cell? ⟨gb407, 1, none⟩ = some (.bool false) := (YI BK407.out 1).trans rfl; have hcz36_2 : w35.cell? ⟨gb407, 2, none⟩ = some (.int .i64 0) := (YI BK407.out 2).trans rfl; have hcz36_3 : w35.cell? ⟨gb407, 3, none⟩ = some (.int .i64 0) := (YI BK407.out 3).trans rfl; have hcz36_4 : w35.cell? ⟨gb407, 4, none⟩ = some (.int .i64 0) := (YI BK407.out 4).trans rfl; have hcz36_5 : w35.cell? ⟨gb407, 5, none⟩ = some (.int .i64 0) := (YI BK407.out 5).trans rfl; have hcz36_6 : w35.cell? ⟨gb407, 6, none⟩ = some (.int .i64 0) := (YI BK407.out 6).trans rfl; have hfz36_0 := YJ BK407.out 0; have hfz36_1 := YJ BK407.out 1; have hfz36_2 := YJ BK407.out 2; have hfz36_3 := YJ BK407.out 3; have hfz36_4 := YJ BK407.out 4; have hfz36_5 := YJ BK407.out 5; have hfz36_6 := YJ BK407.out 6))
                have n0_ : Aside0 (Kd.R k36 36 (((((((w35.setCell ⟨gb407, 0, none⟩ (.int .i64 ((rd_T55 (rd_L8 l1 x14_1) x22_2).f0))).setCell ⟨gb407, 1, none⟩ (.bool ((rd_T55 (rd_L8 l1 x14_1) x22_2).f1.f0))).setCell ⟨gb407, 2, none⟩ (.int .i64 ((rd_T55 (rd_L8 l1 x14_1) x22_2).f1.f1))).setCell ⟨gb407, 3, none⟩ (.int .i64 ((rd_T55 (rd_L8 l1 x14_1) x22_2).f1.f2))).setCell ⟨gb407, 4, none⟩ (.int .i64 ((rd_T55 (rd_L8 l1 x14_1) x22_2).f1.f3))).setCell ⟨gb407, 5, none⟩ (.int .i64 ((rd_T55 (rd_L8 l1 x14_1) x22_2).f1.f4))).setCell ⟨gb407, 6, none⟩ (.int .i64 ((rd_T55 (rd_L8 l1 x14_1) x22_2).f1.f5))) w.heap.size (fun _ => True) u5 x5_2) := ⟨by (with_reducible repeat (first | apply YO | apply YP | apply YQ)); exact Kd.R_mono (Kd.R_far (p := ⟨gb407, 6, none⟩) (Kd.R_far (p := ⟨gb407, 5, none⟩) (Kd.R_far (p := ⟨gb407, 4, none⟩) (Kd.R_far (p := ⟨gb407, 3, none⟩) (Kd.R_far (p := ⟨gb407, 2, none⟩) (Kd.R_far (p := ⟨gb407, 1, none⟩) (Kd.R_far (p := ⟨gb407, 0, none⟩) (Kd.R_types HO_5.out BK407.out (by decide)) (fun _ hk => hk.2) (.int .i64 ((rd_T55 (rd_L8 l1 x14_1) x22_2).f0))) (fun _ hk => hk.2) (.bool ((rd_T55 (rd_L8 l1 x14_1) x22_2).f1.f0))) (fun _ hk => hk.2) (.int .i64 ((rd_T55 (rd_L8 l1 x14_1) x22_2).f1.f1))) (fun _ hk => hk.2) (.int .i64 ((rd_T55 (rd_L8 l1 x14_1) x22_2).f1.f2))) (fun _ hk => hk.2) (.int .i64 ((rd_T55 (rd_L8 l1 x14_1) x22_2).f1.f3))) (fun _ hk => hk.2) (.int .i64 ((rd_T55 (rd_L8 l1 x14_1) x22_2).f1.f4))) (fun _ hk => hk.2) (.int .i64 ((rd_T55 (rd_L8 l1 x14_1) x22_2).f1.f5))) (fun _ hk => trivial)⟩
                have n1_ : Aside0 ((((((((w35.setCell ⟨gb407, 0, none⟩ (.int .i64 ((rd_T55 (rd_L8 l1 x14_1) x22_2).f0))).setCell ⟨gb407, 1, none⟩ (.bool ((rd_T55 (rd_L8 l1 x14_1) x22_2).f1.f0))).setCell ⟨gb407, 2, none⟩ (.int .i64 ((rd_T55 (rd_L8 l1 x14_1) x22_2).f1.f1))).setCell ⟨gb407, 3, none⟩ (.int .i64 ((rd_T55 (rd_L8 l1 x14_1) x22_2).f1.f2))).setCell ⟨gb407, 4, none⟩ (.int .i64 ((rd_T55 (rd_L8 l1 x14_1) x22_2).f1.f3))).setCell ⟨gb407, 5, none⟩ (.int .i64 ((rd_T55 (rd_L8 l1 x14_1) x22_2).f1.f4))).setCell ⟨gb407, 6, none⟩ (.int .i64 ((rd_T55 (rd_L8 l1 x14_1) x22_2).f1.f5))).heap[gb407]? = some (.cells #[.int .i64 ((rd_T55 (rd_L8 l1 x14_1) x22_2).f0), .bool ((rd_T55 (rd_L8 l1 x14_1) x22_2).f1.f0), .int .i64 ((rd_T55 (rd_L8 l1 x14_1) x22_2).f1.f1), .int .i64 ((rd_T55 (rd_L8 l1 x14_1) x22_2).f1.f2), .int .i64 ((rd_T55 (rd_L8 l1 x14_1) x22_2).f1.f3), .int .i64 ((rd_T55 (rd_L8 l1 x14_1) x22_2).f1.f4), .int .i64 ((rd_T55 (rd_L8 l1 x14_1) x22_2).f1.f5)] 55 (0, 0))) := ⟨by (with_reducible repeat (first | refine YF ?_ _ | refine YG ?_ | refine YH ?_ _)); refine blk_put (cs := #[.int .i64 ((rd_T55 (rd_L8 l1 x14_1) x22_2).f0), .bool ((rd_T55 (rd_L8 l1 x14_1) x22_2).f1.f0), .int .i64 ((rd_T55 (rd_L8 l1 x14_1) x22_2).f1.f1), .int .i64 ((rd_T55 (rd_L8 l1 x14_1) x22_2).f1.f2), .int .i64 ((rd_T55 (rd_L8 l1 x14_1) x22_2).f1.f3), .int .i64 ((rd_T55 (rd_L8 l1 x14_1) x22_2).f1.f4), .int .i64 0]) ?_ 6 _ rfl; (with_reducible repeat (first | refine YF ?_ _ | refine YG ?_ | refine YH ?_ _)); refine blk_put (cs := #[.int .i64 ((rd_T55 (rd_L8 l1 x14_1) x22_2).f0), .bool ((rd_T55 (rd_L8 l1 x14_1) x22_2).f1.f0), .int .i64 ((rd_T55 (rd_L8 l1 x14_1) x22_2).f1.f1), .int .i64 ((rd_T55 (rd_L8 l1 x14_1) x22_2).f1.f2), .int .i64 ((rd_T55 (rd_L8 l1 x14_1) x22_2).f1.f3), .int .i64 0, .int .i64 0]) ?_ 5 _ rfl; (with_reducible repeat (first | refine YF ?_ _ | refine YG ?_ | refine YH ?_ _)); refine blk_put (cs := #[.int .i64 ((rd_T55 (rd_L8 l1 x14_1) x22_2).f0), .bool ((rd_T55 (rd_L8 l1 x14_1) x22_2).f1.f0), .int .i64 ((rd_T55 (rd_L8 l1 x14_1) x22_2).f1.f1), .int .i64 ((rd_T55 (rd_L8 l1 x14_1) x22_2).f1.f2), .int .i64 0, .int .i64 0, .int .i64 0]) ?_ 4 _ rfl; (with_reducible repeat (first | refine YF ?_ _ | refine YG ?_ | refine YH ?_ _)); refine blk_put (cs := #[.int .i64 ((rd_T55 (rd_L8 l1 x14_1) x22_2).f0), .bool ((rd_T55 (rd_L8 l1 x14_1) x22_2).f1.f0), .int .i64 ((rd_T55 (rd_L8 l1 x14_1) x22_2).f1.f1), .int .i64 0, .int .i64 0, .int .i64 0, .int .i64 0]) ?_ 3 _ rfl; (with_reducible repeat (first | refine YF ?_ _ | refine YG ?_ | refine YH ?_ _)); refine blk_put (cs := #[.int .i64 ((rd_T55 (rd_L8 l1 x14_1) x22_2).f0), .bool ((rd_T55 (rd_L8 l1 x14_1) x22_2).f1.f0), .int .i64 0, .int .i64 0, .int .i64 0, .int .i64 0, .int .i64 0]) ?_ 2 _ rfl; (with_reducible repeat (first | refine YF ?_ _ | refine YG ?_ | refine YH ?_ _)); refine blk_put (cs := #[.int .i64 ((rd_T55 (rd_L8 l1 x14_1) x22_2).f0), .bool false, .int .i64 0, .int .i64 0, .int .i64 0, .int .i64 0, .int .i64 0]) ?_ 1 _ rfl; (with_reducible repeat (first | refine YF ?_ _ | refine YG ?_ | refine YH ?_ _)); refine blk_put (cs := #[.int .i64 0, .bool false, .int .i64 0, .int .i64 0, .int .i64 0, .int .i64 0, .int .i64 0]) ?_ 0 _ rfl; (with_reducible repeat (first | refine YF ?_ _ | refine YG ?_ | refine YH ?_ _)); exact BK407.out⟩
                have n2_ : Aside0 (Below w.heap.size w (((((((w35.setCell ⟨gb407, 0, none⟩ (.int .i64 ((rd_T55 (rd_L8 l1 x14_1) x22_2).f0))).setCell ⟨gb407, 1, none⟩ (.bool ((rd_T55 (rd_L8 l1 x14_1) x22_2).f1.f0))).setCell ⟨gb407, 2, none⟩ (.int .i64 ((rd_T55 (rd_L8 l1 x14_1) x22_2).f1.f1))).setCell ⟨gb407, 3, none⟩ (.int .i64 ((rd_T55 (rd_L8 l1 x14_1) x22_2).f1.f2))).setCell ⟨gb407, 4, none⟩ (.int .i64 ((rd_T55 (rd_L8 l1 x14_1) x22_2).f1.f3))).setCell ⟨gb407, 5, none⟩ (.int .i64 ((rd_T55 (rd_L8 l1 x14_1) x22_2).f1.f4))).setCell ⟨gb407, 6, none⟩ (.int .i64 ((rd_T55 (rd_L8 l1 x14_1) x22_2).f1.f5)))) := ⟨by repeat (first | (with_reducible first | exact HB.out | apply YA | apply YB | apply YC | refine below_set ?_ GE407.out) | exact HB.out)⟩
                (try clear HO_5); (try clear BK407); (try clear HB)
                generalize (((((((w35.setCell ⟨gb407, 0, none⟩ (.int .i64 ((rd_T55 (rd_L8 l1 x14_1) x22_2).f0))).setCell ⟨gb407, 1, none⟩ (.bool ((rd_T55 (rd_L8 l1 x14_1) x22_2).f1.f0))).setCell ⟨gb407, 2, none⟩ (.int .i64 ((rd_T55 (rd_L8 l1 x14_1) x22_2).f1.f1))).setCell ⟨gb407, 3, none⟩ (.int .i64 ((rd_T55 (rd_L8 l1 x14_1) x22_2).f1.f2))).setCell ⟨gb407, 4, none⟩ (.int .i64 ((rd_T55 (rd_L8 l1 x14_1) x22_2).f1.f3))).setCell ⟨gb407, 5, none⟩ (.int .i64 ((rd_T55 (rd_L8 l1 x14_1) x22_2).f1.f4))).setCell ⟨gb407, 6, none⟩ (.int .i64 ((rd_T55 (rd_L8 l1 x14_1) x22_2).f1.f5))) = w37 at n0_ n1_ n2_ ⊢
                have HO_5 := n0_; have BK407 := n1_; have HB := n2_; clear n0_ n1_ n2_
                have n0_ := YK (YQ HO_5.out)
                have n1_ := YK (YG BK407.out)
                have n2_ := YK (YC HB.out)
                clear HO_5; clear BK407; clear HB; have HO_5 := n0_; have BK407 := n1_; have HB := n2_; clear n0_ n1_ n2_
                refine start_ (n := 29) (S := fun w' => w'.cell? ⟨gb407, 0, none⟩ = some (.int .i64 ((rd_T55 (rd_L8 l1 x14_1) x22_2).f0)) ∧ w'.cell? ⟨gb407, 1, none⟩ = some (.bool ((rd_T55 (rd_L8 l1 x14_1) x22_2).f1.f0)) ∧ w'.cell? ⟨gb407, 2, none⟩ = some (.int .i64 ((rd_T55 (rd_L8 l1 x14_1) x22_2).f1.f1)) ∧ w'.cell? ⟨gb407, 3, none⟩ = some (.int .i64 ((rd_T55 (rd_L8 l1 x14_1) x22_2).f1.f2)) ∧ w'.cell? ⟨gb407, 4, none⟩ = some (.int .i64 ((rd_T55 (rd_L8 l1 x14_1) x22_2).f1.f3)) ∧ w'.cell? ⟨gb407, 5, none⟩ = some (.int .i64 ((rd_T55 (rd_L8 l1 x14_1) x22_2).f1.f4)) ∧ w'.cell? ⟨gb407, 6, none⟩ = some (.int .i64 ((rd_T55 (rd_L8 l1 x14_1) x22_2).f1.f5))) (ds := []) #[false, false, false, false, false, false, false, false, false, false, false, false, false, false, false, false, false, false, false, false, false, false, false, false, false, false, false, false, false] (by kernel_rfl) rfl rfl ⟨(YI BK407.out 0).trans rfl, (YI BK407.out 1).trans rfl, (YI BK407.out 2).trans rfl, (YI BK407.out 3).trans rfl, (YI BK407.out 4).trans rfl, (YI BK407.out 5).trans rfl, (YI BK407.out 6).trans rfl⟩ (fun hHeld => ?_); refine with_tabW graph_Fresh.tab8 graph_Fresh.bits8 (fun HT_ HW_ => ?_)
                generalize w37.drew = w38 at HO_5 BK407 HB hHeld ⊢
                refine pure_ (i := 0) (N := some 26) (v := ?_) (a' := ?_) #[true, false, false, false, false, false, false, false, false, false, false, false, false, false, false, false, false, false, false, false, false, false, false, false, false, false, false, false, false] rfl rfl (any_of HT_.out (by kernel_rfl)) (fun _ _ _ h => h) (Or.inl ⟨by rfl, ?_⟩) ?_ ?_
                rotate_left
                · intro w'
                  first | (go_simp; with_reducible rfl) | (have hj_ : (l1.length : Int) = ji3 := (by rw [← hji3]; simp only [mn]; split <;> omega); go_simp; with_reducible rfl) | (have hj_ : (l0.length : Int) = ji3 := (by rw [← hji3]; simp only [mn]; split <;> omega); go_simp; with_reducible rfl)
                rotate_left
                · simp only [Act.put, YL, YM, YN, i64_w, i32_w]
                  rfl
                refine take_ (i := 1) (N := some 27) (v := ?_) (a' := ?_) #[true, true, false, false, false, false, false, false, false, false, false, false, false, false, false, false, false, false, false, false, false, false, false, false, false, false, false, false, false] rfl rfl (take_ofW HT_.out HW_.out (by kernel_rfl)) (fun _ _ _ h => h) (Or.inl ⟨by rfl, ?_⟩) hHeld ?_ ?_
                rotate_left
                · rintro w' ⟨s0, s1, s2, s3, s4, s5, s6⟩
                  go_simp; with_reducible rfl
                rotate_left
                · simp only [Act.put, YL, YM, YN, i64_w, i32_w]
                  rfl
                refine pure_ (i := 2) (N := some 28) (v := ?_) (a' := ?_) #[true, true, true, false, false, false, false, false, false, false, false, false, false, false, false, false, false, false, false, false, false, false, false, false, false, false, false, false, false] rfl rfl (any_of HT_.out (by kernel_rfl)) (fun _ _ _ h => h) (Or.inl ⟨by rfl, ?_⟩) ?_ ?_
                rotate_left
                · intro w'
                  first | (go_simp; with_reducible rfl) | (have hj_ : (l1.length : Int) = ji3 := (by rw [← hji3]; simp only [mn]; split <;> omega); go_simp; with_reducible rfl) | (have hj_ : (l0.length : Int) = ji3 := (by rw [← hji3]; simp only [mn]; split <;> omega); go_simp; with_reducible rfl)
                rotate_left
                · simp only [Act.put, YL, YM, YN, i64_w, i32_w]
                  rfl
                refine pure_ (i := 3) (N := some 29) (v := ?_) (a' := ?_) #[true, true, true, true, false, false, false, false, false, false, false, false, false, false, false, false, false, false, false, false, false, false, false, false, false, false, false, false, false] rfl rfl (any_of HT_.out (by kernel_rfl)) (fun _ _ _ h => h) (Or.inl ⟨by rfl, ?_⟩) ?_ ?_
                rotate_left
                · intro w'
                  first | (go_simp; with_reducible rfl) | (have hj_ : (l1.length : Int) = ji3 := (by rw [← hji3]; simp only [mn]; split <;> omega); go_simp; with_reducible rfl) | (have hj_ : (l0.length : Int) = ji3 := (by rw [← hji3]; simp only [mn]; split <;> omega); go_simp; with_reducible rfl)
                rotate_left
                · simp only [Act.put, YL, YM, YN, i64_w, i32_w]
                  rfl
                refine pure_ (i := 4) (N := some 30) (v := ?_) (a' := ?_) #[true, true, true, true, true, false, false, false, false, false, false, false, false, false, false, false, false, false, false, false, false, false, false, false, false, false, false, false, false] rfl rfl (any_of HT_.out (by kernel_rfl)) (fun _ _ _ h => h) (Or.inl ⟨by rfl, ?_⟩) ?_ ?_
                rotate_left
                · intro w'
                  first | (go_simp; with_reducible rfl) | (have hj_ : (l1.length : Int) = ji3 := (by rw [← hji3]; simp only [mn]; split <;> omega); go_simp; with_reducible rfl) | (have hj_ : (l0.length : Int) = ji3 := (by rw [← hji3]; simp only [mn]; split <;> omega); go_simp; with_reducible rfl)
                rotate_left
                · simp only [Act.put, YL, YM, YN, i64_w, i32_w]
                  rfl
                refine pure_ (i := 6) (N := some 32) (v := ?_) (a' := ?_) #[true, true, true, true, true, false, true, false, false, false, false, false, false, false, false, false, false, false, false, false, false, false, false, false, false, false, false, false, false] rfl rfl (any_of HT_.out (by kernel_rfl)) (fun _ _ _ h => h) (Or.inl ⟨by rfl, ?_⟩) ?_ ?_
                rotate_left
                · intro w'
                  first | (go_simp; with_reducible rfl) | (have hj_ : (l1.length : Int) = ji3 := (by rw [← hji3]; simp only [mn]; split <;> omega); go_simp; with_reducible rfl) | (have hj_ : (l0.length : Int) = ji3 := (by rw [← hji3]; simp only [mn]; split <;> omega); go_simp; with_reducible rfl)
                rotate_left
                · simp only [Act.put, YL, YM, YN, i64_w, i32_w]
                  rfl
                refine pure_ (i := 7) (N := some 33) (v := ?_) (a' := ?_) #[true, true, true, true, true, false, true, true, false, false, false, false, false, false, false, false, false, false, false, false, false, false, false, false, false, false, false, false, false] rfl rfl (any_of HT_.out (by kernel_rfl)) (fun _ _ _ h => h) (Or.inl ⟨by rfl, ?_⟩) ?_ ?_
                rotate_left
                · intro w'
                  first | (go_simp; with_reducible rfl) | (have hj_ : (l1.length : Int) = ji3 := (by rw [← hji3]; simp only [mn]; split <;> omega); go_simp; with_reducible rfl) | (have hj_ : (l0.length : Int) = ji3 := (by rw [← hji3]; simp only [mn]; split <;> omega); go_simp; with_reducible rfl)
                rotate_left
                · simp only [Act.put, YL, YM, YN, i64_w, i32_w]
                  rfl
                refine take_ (i := 5) (N := some 31) (v := ?_) (a' := ?_) #[true, true, true, true, true, true, true, true, false, false, false, false, false, false, false, false, false, false, false, false, false, false, false, false, false, false, false, false, false] rfl rfl (take_ofW HT_.out HW_.out (by kernel_rfl)) (fun _ _ _ h => h) (Or.inl ⟨by rfl, ?_⟩) hHeld ?_ ?_
                rotate_left
                · rintro w' ⟨s0, s1, s2, s3, s4, s5, s6⟩
                  go_simp; with_reducible rfl
                rotate_left
                · simp only [Act.put, YL, YM, YN, i64_w, i32_w]
                  rfl
                refine pure_ (i := 8) (N := some 34) (v := ?_) (a' := ?_) #[true, true, true, true, true, true, true, true, true, false, false, false, false, false, false, false, false, false, false, false, false, false, false, false, false, false, false, false, false] rfl rfl (any_of HT_.out (by kernel_rfl)) (fun _ _ _ h => h) (Or.inl ⟨by rfl, ?_⟩) ?_ ?_
                rotate_left
                · intro w'
                  first | (go_simp; with_reducible rfl) | (have hj_ : (l1.length : Int) = ji3 := (by rw [← hji3]; simp only [mn]; split <;> omega); go_simp; with_reducible rfl) | (have hj_ : (l0.length : Int) = ji3 := (by rw [← hji3]; simp only [mn]; split <;> omega); go_simp; with_reducible rfl)
                rotate_left
                · simp only [Act.put, YL, YM, YN, i64_w, i32_w]
                  rfl
                refine pure_ (i := 9) (N := some 35) (v := ?_) (a' := ?_) #[true, true, true, true, true, true, true, true, true, true, false, false, false, false, false, false, false, false, false, false, false, false, false, false, false, false, false, false, false] rfl rfl (any_of HT_.out (by kernel_rfl)) (fun _ _ _ h => h) (Or.inl ⟨by rfl, ?_⟩) ?_ ?_
                rotate_left
                · intro w'
                  first | (go_simp; with_reducible rfl) | (have hj_ : (l1.length : Int) = ji3 := (by rw [← hji3]; simp only [mn]; split <;> omega); go_simp; with_reducible rfl) | (have hj_ : (l0.length : Int) = ji3 := (by rw [← hji3]; simp only [mn]; split <;> omega); go_simp; with_reducible rfl)
                rotate_left
                · simp only [Act.put, YL, YM, YN, i64_w, i32_w]
                  rfl
                refine pure_ (i := 10) (N := some 36) (v := ?_) (a' := ?_) #[true, true, true, true, true, true, true, true, true, true, true, false, false, false, false, false, false, false, false, false, false, false, false, false, false, false, false, false, false] rfl rfl (any_of HT_.out (by kernel_rfl)) (fun _ _ _ h => h) (Or.inl ⟨by rfl, ?_⟩) ?_ ?_
                rotate_left
                · intro w'
                  first | (go_simp; with_reducible rfl) | (have hj_ : (l1.length : Int) = ji3 := (by rw [← hji3]; simp only [mn]; split <;> omega); go_simp; with_reducible rfl) | (have hj_ : (l0.length : Int) = ji3 := (by rw [← hji3]; simp only [mn]; split <;> omega); go_simp; with_reducible rfl)
                rotate_left
                · simp only [Act.put, YL, YM, YN, i64_w, i32_w]
                  rfl
                refine pure_ (i := 11) (N := some 37) (v := undef) (a' := ?_) #[true, true, true, true, true, true, true, true, true, true, true, true, false, false, false, false, false, false, false, false, false, false, false, false, false, false, false, false, false] rfl rfl (any_of HT_.out (by kernel_rfl)) (fun _ _ _ h => h) (Or.inr ⟨by rfl, rfl⟩) ?_ ?_
                rotate_left
                · simp only [Act.put, YL, YM, YN, i64_w, i32_w]
                  rfl
                refine pure_ (i := 12) (N := some 38) (v := undef) (a' := ?_) #[true, true, true, true, true, true, true, true, true, true, true, true, true, false, false, false, false, false, false, false, false, false, false, false, false, false, false, false, false] rfl rfl (any_of HT_.out (by kernel_rfl)) (fun _ _ _ h => h) (Or.inr ⟨by rfl, rfl⟩) ?_ ?_
                rotate_left
                · simp only [Act.put, YL, YM, YN, i64_w, i32_w]
                  rfl
                refine pure_ (i := 13) (N := some 39) (v := undef) (a' := ?_) #[true, true, true, true, true, true, true, true, true, true, true, true, true, true, false, false, false, false, false, false, false, false, false, false, false, false, false, false, false] rfl rfl (any_of HT_.out (by kernel_rfl)) (fun _ _ _ h => h) (Or.inr ⟨by rfl, rfl⟩) ?_ ?_
                rotate_left
                · simp only [Act.put, YL, YM, YN, i64_w, i32_w]
                  rfl
                refine pure_ (i := 14) (N := some 40) (v := undef) (a' := ?_) #[true, true, true, true, true, true, true, true, true, true, true, true, true, true, true, false, false, false, false, false, false, false, false, false, false, false, false, false, false] rfl rfl (any_of HT_.out (by kernel_rfl)) (fun _ _ _ h => h) (Or.inr ⟨by rfl, rfl⟩) ?_ ?_
                rotate_left
                · simp only [Act.put, YL, YM, YN, i64_w, i32_w]
                  rfl
                refine pure_ (i := 15) (N := some 41) (v := undef) (a' := ?_) #[true, true, true, true, true, true, true, true, true, true, true, true, true, true, true, true, false, false, false, false, false, false, false, false, false, false, false, false, false] rfl rfl (any_of HT_.out (by kernel_rfl)) (fun _ _ _ h => h) (Or.inr ⟨by rfl, rfl⟩) ?_ ?_
                rotate_left
                · simp only [Act.put, YL, YM, YN, i64_w, i32_w]
                  rfl
                refine pure_ (i := 16) (N := some 42) (v := undef) (a' := ?_) #[true, true, true, true, true, true, true, true, true, true, true, true, true, true, true, true, true, false, false, false, false, false, false, false, false, false, false, false, false] rfl rfl (any_of HT_.out (by kernel_rfl)) (fun _ _ _ h => h) (Or.inr ⟨by rfl, rfl⟩) ?_ ?_
                rotate_left
                · simp only [Act.put, YL, YM, YN, i64_w, i32_w]
                  rfl
                refine pure_ (i := 17) (N := some 43) (v := undef) (a' := ?_) #[true, true, true, true, true, true, true, true, true, true, true, true, true, true, true, true, true, true, false, false, false, false, false, false, false, false, false, false, false] rfl rfl (any_of HT_.out (by kernel_rfl)) (fun _ _ _ h => h) (Or.inr ⟨by rfl, rfl⟩) ?_ ?_
                rotate_left
                · simp only [Act.put, YL, YM, YN, i64_w, i32_w]
                  rfl
                refine pure_ (i := 18) (N := some 44) (v := undef) (a' := ?_) #[true, true, true, true, true, true, true, true, true, true, true, true, true, true, true, true, true, true, true, false, false, false, false, false, false, false, false, false, false] rfl rfl (any_of HT_.out (by kernel_rfl)) (fun _ _ _ h => h) (Or.inr ⟨by rfl, rfl⟩) ?_ ?_
                rotate_left
                · simp only [Act.put, YL, YM, YN, i64_w, i32_w]
                  rfl
                refine pure_ (i := 19) (N := some 45) (v := ?_) (a' := ?_) #[true, true, true, true, true, true, true, true, true, true, true, true, true, true, true, true, true, true, true, true, false, false, false, false, false, false, false, false, false] rfl rfl (any_of HT_.out (by kernel_rfl)) (fun _ _ _ h => h) (Or.inl ⟨by rfl, ?_⟩) ?_ ?_
                rotate_left
                · intro w'
                  first | (go_simp; with_reducible rfl) | (have hj_ : (l1.length : Int) = ji3 := (by rw [← hji3]; simp only [mn]; split <;> omega); go_simp; with_reducible rfl) | (have hj_ : (l0.length : Int) = ji3 := (by rw [← hji3]; simp only [mn]; split <;> omega); go_simp; with_reducible rfl)
                rotate_left
                · simp only [Act.put, YL, YM, YN, i64_w, i32_w]
                  rfl
                refine pure_ (i := 20) (N := some 46) (v := ?_) (a' := ?_) #[true, true, true, true, true, true, true, true, true, true, true, true, true, true, true, true, true, true, true, true, true, false, false, false, false, false, false, false, false] rfl rfl (any_of HT_.out (by kernel_rfl)) (fun _ _ _ h => h) (Or.inl ⟨by rfl, ?_⟩) ?_ ?_
                rotate_left
                · intro w'
                  first | (go_simp; with_reducible rfl) | (have hj_ : (l1.length : Int) = ji3 := (by rw [← hji3]; simp only [mn]; split <;> omega); go_simp; with_reducible rfl) | (have hj_ : (l0.length : Int) = ji3 := (by rw [← hji3]; simp only [mn]; split <;> omega); go_simp; with_reducible rfl)
                rotate_left
                · simp only [Act.put, YL, YM, YN, i64_w, i32_w]
                  rfl
                refine pure_ (i := 21) (N := some 47) (v := undef) (a' := ?_) #[true, true, true, true, true, true, true, true, true, true, true, true, true, true, true, true, true, true, true, true, true, true, false, false, false, false, false, false, false] rfl rfl (any_of HT_.out (by kernel_rfl)) (fun _ _ _ h => h) (Or.inr ⟨by rfl, rfl⟩) ?_ ?_
                rotate_left
                · simp only [Act.put, YL, YM, YN, i64_w, i32_w]
                  rfl
                refine pure_ (i := 22) (N := some 48) (v := undef) (a' := ?_) #[true, true, true, true, true, true, true, true, true, true, true, true, true, true, true, true, true, true, true, true, true, true, true, false, false, false, false, false, false] rfl rfl (any_of HT_.out (by kernel_rfl)) (fun _ _ _ h => h) (Or.inr ⟨by rfl, rfl⟩) ?_ ?_
                rotate_left
                · simp only [Act.put, YL, YM, YN, i64_w, i32_w]
                  rfl
                refine pure_ (i := 23) (N := some 49) (v := undef) (a' := ?_) #[true, true, true, true, true, true, true, true, true, true, true, true, true, true, true, true, true, true, true, true, true, true, true, true, false, false, false, false, false] rfl rfl (any_of HT_.out (by kernel_rfl)) (fun _ _ _ h => h) (Or.inr ⟨by rfl, rfl⟩) ?_ ?_
                rotate_left
                · simp only [Act.put, YL, YM, YN, i64_w, i32_w]
                  rfl
                refine pure_ (i := 24) (N := some 50) (v := undef) (a' := ?_) #[true, true, true, true, true, true, true, true, true, true, true, true, true, true, true, true, true, true, true, true, true, true, true, true, true, false, false, false, false] rfl rfl (any_of HT_.out (by kernel_rfl)) (fun _ _ _ h => h) (Or.inr ⟨by rfl, rfl⟩) ?_ ?_
                rotate_left
                · simp only [Act.put, YL, YM, YN, i64_w, i32_w]
                  rfl
                refine pure_ (i := 25) (N := some 51) (v := undef) (a' := ?_) #[true, true, true, true, true, true, true, true, true, true, true, true, true, true, true, true, true, true, true, true, true, true, true, true, true, true, false, false, false] rfl rfl (any_of HT_.out (by kernel_rfl)) (fun _ _ _ h => h) (Or.inr ⟨by rfl, rfl⟩) ?_ ?_
                rotate_left
                · simp only [Act.put, YL, YM, YN, i64_w, i32_w]
                  rfl
                refine pure_ (i := 26) (N := some 52) (v := undef) (a' := ?_) #[true, true, true, true, true, true, true, true, true, true, true, true, true, true, true, true, true, true, true, true, true, true, true, true, true, true, true, false, false] rfl rfl (any_of HT_.out (by kernel_rfl)) (fun _ _ _ h => h) (Or.inr ⟨by rfl, rfl⟩) ?_ ?_
                rotate_left
                · simp only [Act.put, YL, YM, YN, i64_w, i32_w]
                  rfl
                refine pure_ (i := 27) (N := some 53) (v := undef) (a' := ?_) #[true, true, true, true, true, true, true, true, true, true, true, true, true, true, true, true, true, true, true, true, true, true, true, true, true, true, true, true, false] rfl rfl (any_of HT_.out (by kernel_rfl)) (fun _ _ _ h => h) (Or.inr ⟨by rfl, rfl⟩) ?_ ?_
                rotate_left
                · simp only [Act.put, YL, YM, YN, i64_w, i32_w]
                  rfl
                refine pure_ (i := 28) (N := some 54) (v := ?_) (a' := ?_) #[true, true, true, true, true, true, true, true, true, true, true, true, true, true, true, true, true, true, true, true, true, true, true, true, true, true, true, true, true] rfl rfl (any_of HT_.out (by kernel_rfl)) (fun _ _ _ h => h) (Or.inl ⟨by rfl, ?_⟩) ?_ ?_
                rotate_left
                · intro w'
                  first | (go_simp; with_reducible rfl) | (have hj_ : (l1.length : Int) = ji3 := (by rw [← hji3]; simp only [mn]; split <;> omega); go_simp; with_reducible rfl) | (have hj_ : (l0.length : Int) = ji3 := (by rw [← hji3]; simp only [mn]; split <;> omega); go_simp; with_reducible rfl)
                rotate_left
                · simp only [Act.put, YL, YM, YN, i64_w, i32_w]
                  rfl
                refine done_ (done_of HT_.out (by kernel_rfl)) ?_
                try go_wp2
                go_roundg k2
                case measure => have := HK1.out; have := HK2.out; omega
                case rel => exact ⟨(x5_2), (wrap64 (x22_2 + 1)), (by first | rfl | (simp; done) | (simp [*]; done)), H', ⟨by have := HK1.out; have := HK2.out; omega⟩, ⟨by (with_reducible repeat (first | apply YO | apply YP | apply YQ)); exact HO_5.out⟩, ⟨by repeat (first | (with_reducible first | exact HB.out | apply YA | apply YB | apply YC | refine below_set ?_ GE407.out) | exact HB.out)⟩⟩
              rw [if_neg c10] at H; have c10b0 : decide (0 ≤ ((rd_T55 (rd_L8 l1 x14_1) x22_2).f0)) = false := decide_eq_false c10; clear c10
              have H' := YK H
              clear H
              have p406 : 0 ≤ (x22_2 : Int) := of_decide_eq_true (by first | (with_reducible assumption) | assumption)
              have q406 : x22_2 < ((rd_L8 l1 x14_1).length : Int) := of_decide_eq_true (by first | (with_reducible assumption) | assumption)
              obtain ⟨ad406, e406, hx406_0, hx406_1, hx406_2, hx406_3, hx406_4, hx406_5, hx406_6⟩ := at_T55 HR405_0.out x22_2 p406 q406
              cases e406
              replace hx406_0 := (HB.out.cell (World.block_lt_of_cell? w _ hx406_0)).trans hx406_0
              replace hx406_1 := (HB.out.cell (World.block_lt_of_cell? w _ hx406_1)).trans hx406_1
              replace hx406_2 := (HB.out.cell (World.block_lt_of_cell? w _ hx406_2)).trans hx406_2
              replace hx406_3 := (HB.out.cell (World.block_lt_of_cell? w _ hx406_3)).trans hx406_3
              replace hx406_4 := (HB.out.cell (World.block_lt_of_cell? w _ hx406_4)).trans hx406_4
              replace hx406_5 := (HB.out.cell (World.block_lt_of_cell? w _ hx406_5)).trans hx406_5
              replace hx406_6 := (HB.out.cell (World.block_lt_of_cell? w _ hx406_6)).trans hx406_6
              replace p406 := eq_true p406
              replace q406 := eq_true q406
              try go_wp2_with (first | ((with_reducible refine gate_dst (N := 8) rfl ?_); (try (refine gate_guard (by rfl) ?_; dsimp only)); refine box_event ?hg (N := 8) ?hd (cs := #[.int .i64 0, .bool false, .int .i64 0, .int .i64 0, .int .i64 0, .int .i64 0, .int .i64 0]) (t := 55) ?hr ?_; (case hd => rfl); (case hg => rfl); (case hr => first | (go_simp; done) | (go_simp; rfl)); intro gb407 hg w39 hbox hb; have n0_ := YK (YR (by (with_reducible repeat (first | apply YO | apply YP | apply YQ)); exact HO_5.out) hb); have n1_ := YK (YD (by repeat (first | (with_reducible first | exact HB.out | apply YA | apply YB | apply YC) | exact HB.out)) hb); have n2_ := YK (hbox); have n3_ := YK ((by rw [hg]; exact (YE (by repeat (first | (with_reducible first | exact HB.out | apply YA | apply YB | apply YC) | exact HB.out))) : w.heap.size ≤ gb407)); have n4_ := YK ((by rw [hg]; exact (YE (by repeat (first | (with_reducible first | exact HB.out | apply YA | apply YB | apply YC) | exact HB.out))) : w.heap.size ≤ gb407)); clear HO_5; clear HB; have HO_5 := n0_; have HB := n1_; have BK407 := n2_; have GW407 := n3_; have GE407 := n4_; clear n0_ n1_ n2_ n3_ n4_; clear hb hbox hg; have hcz40_0 : w39.cell? ⟨gb407, 0, none⟩ = some (.int .i64 0) := (YI BK407.out 0).trans rfl; have hcz40_1 : w39.cell? ⟨gb407, 1, none⟩ = some (.bool false) := (YI BK407.out 1).trans rfl; have hcz40_2 : w39.cell? ⟨gb407, 2, none⟩ = some (.int .i64 0) := (YI BK407.out 2).trans rfl; have hcz40_3 : w39.cell? ⟨gb407, 3, none⟩ = some (.int .i64 0) := (YI BK407.out 3).trans rfl; have hcz40_4 : w39.cell? ⟨gb407, 4, none⟩ = some (.int .i64 0) := (YI BK407.out 4).trans rfl; have hcz40_5 : w39.cell? ⟨gb407, 5, none⟩ = some (.int .i64 0) := (YI BK407.out 5).trans rfl; have hcz40_6 : w39.cell? ⟨gb407, 6, none⟩ = some (.int .i64 0) := (YI BK407.out 6).trans rfl; have hfz40_0 := YJ BK407.out 0; have hfz40_1 := YJ BK407.out 1; have hfz40_2 := YJ BK407.out 2; have hfz40_3 := YJ BK407.out 3; have hfz40_4 := YJ BK407.out 4; have hfz40_5 := YJ BK407.out 5; have hfz40_6 := YJ BK407.out 6))
              have n0_ : Aside0 (Kd.R k36 36 (((((((w39.setCell ⟨gb407, 0, none⟩ (.int .i64 ((rd_T55 (rd_L8 l1 x14_1) x22_2).f0))).setCell ⟨gb407, 1, none⟩ (.bool ((rd_T55 (rd_L8 l1 x14_1) x22_2).f1.f0))).setCell ⟨gb407, 2, none⟩ (.int .i64 ((rd_T55 (rd_L8 l1 x14_1) x22_2).f1.f1))).setCell ⟨gb407, 3, none⟩ (.int .i64 ((rd_T55 (rd_L8 l1 x14_1) x22_2).f1.f2))).setCell ⟨gb407, 4, none⟩ (.int .i64 ((rd_T55 (rd_L8 l1 x14_1) x22_2).f1.f3))).setCell ⟨gb407, 5, none⟩ (.int .i64 ((rd_T55 (rd_L8 l1 x14_1) x22_2).f1.f4))).setCell ⟨gb407, 6, none⟩ (.int .i64 ((rd_T55 (rd_L8 l1 x14_1) x22_2).f1.f5))) w.heap.size (fun _ => True) u5 x5_2) := ⟨by (with_reducible repeat (first | apply YO | apply YP | apply YQ)); exact Kd.R_mono (Kd.R_far (p := ⟨gb407, 6, none⟩) (Kd.R_far (p := ⟨gb407, 5, none⟩) (Kd.R_far (p := ⟨gb407, 4, none⟩) (Kd.R_far (p := ⟨gb407, 3, none⟩) (Kd.R_far (p := ⟨gb407, 2, none⟩) (Kd.R_far (p := ⟨gb407, 1, none⟩) (Kd.R_far (p := ⟨gb407, 0, none⟩) (Kd.R_types HO_5.out BK407.out (by decide)) (fun _ hk => hk.2) (.int .i64 ((rd_T55 (rd_L8 l1 x14_1) x22_2).f0))) (fun _ hk => hk.2) (.bool ((rd_T55 (rd_L8 l1 x14_1) x22_2).f1.f0))) (fun _ hk => hk.2) (.int .i64 ((rd_T55 (rd_L8 l1 x14_1) x22_2).f1.f1))) (fun _ hk => hk.2) (.int .i64 ((rd_T55 (rd_L8 l1 x14_1) x22_2).f1.f2))) (fun _ hk => hk.2) (.int .i64 ((rd_T55 (rd_L8 l1 x14_1) x22_2).f1.f3))) (fun _ hk => hk.2) (.int .i64 ((rd_T55 (rd_L8 l1 x14_1) x22_2).f1.f4))) (fun _ hk => hk.2) (.int .i64 ((rd_T55 (rd_L8 l1 x14_1) x22_2).f1.f5))) (fun _ hk => trivial)⟩
              have n1_ : Aside0 ((((((((w39.setCell ⟨gb407, 0, none⟩ (.int .i64 ((rd_T55 (rd_L8 l1 x14_1) x22_2).f0))).setCell ⟨gb407, 1, none⟩ (.bool ((rd_T55 (rd_L8 l1 x14_1) x22_2).f1.f0))).setCell ⟨gb407, 2, none⟩ (.int .i64 ((rd_T55 (rd_L8 l1 x14_1) x22_2).f1.f1))).setCell ⟨gb407, 3, none⟩ (.int .i64 ((rd_T55 (rd_L8 l1 x14_1) x22_2).f1.f2))).setCell ⟨gb407, 4, none⟩ (.int .i64 ((rd_T55 (rd_L8 l1 x14_1) x22_2).f1.f3))).setCell ⟨gb407, 5, none⟩ (.int .i64 ((rd_T55 (rd_L8 l1 x14_1) x22_2).f1.f4))).setCell ⟨gb407, 6, none⟩ (.int .i64 ((rd_T55 (rd_L8 l1 x14_1) x22_2).f1.f5))).heap[gb407]? = some (.cells #[.int .i64 ((rd_T55 (rd_L8 l1 x14_1) x22_2).f0), .bool ((rd_T55 (rd_L8 l1 x14_1) x22_2).f1.f0), .int .i64 ((rd_T55 (rd_L8 l1 x14_1) x22_2).f1.f1), .int .i64 ((rd_T55 (rd_L8 l1 x14_1) x22_2).f1.f2), .int .i64 ((rd_T55 (rd_L8 l1 x14_1) x22_2).f1.f3), .int .i64 ((rd_T55 (rd_L8 l1 x14_1) x22_2).f1.f4), .int .i64 ((rd_T55 (rd_L8 l1 x14_1) x22_2).f1.f5)] 55 (0, 0))) := ⟨by (with_reducible repeat (first | refine YF ?_ _ | refine YG ?_ | refine YH ?_ _)); refine blk_put (cs := #[.int .i64 ((rd_T55 (rd_L8 l1 x14_1) x22_2).f0), .bool ((rd_T55 (rd_L8 l1 x14_1) x22_2).f1.f0), .int .i64 ((rd_T55 (rd_L8 l1 x14_1) x22_2).f1.f1), .int .i64 ((rd_T55 (rd_L8 l1 x14_1) x22_2).f1.f2), .int .i64 ((rd_T55 (rd_L8 l1 x14_1) x22_2).f1.f3), .int .i64 ((rd_T55 (rd_L8 l1 x14_1) x22_2).f1.f4), .int .i64 0]) ?_ 6 _ rfl; (with_reducible repeat (first | refine YF ?_ _ | refine YG ?_ | refine YH ?_ _)); refine blk_put (cs := #[.int .i64 ((rd_T55 (rd_L8 l1 x14_1) x22_2).f0), .bool ((rd_T55 (rd_L8 l1 x14_1) x22_2).f1.f0), .int .i64 ((rd_T55 (rd_L8 l1 x14_1) x22_2).f1.f1), .int .i64 ((rd_T55 (rd_L8 l1 x14_1) x22_2).f1.f2), .int .i64 ((rd_T55 (rd_L8 l1 x14_1) x22_2).f1.f3), .int .i64 0, .int .i64 0]) ?_ 5 _ rfl; (with_reducible repeat (first | refine YF ?_ _ | refine YG ?_ | refine YH ?_ _)); refine blk_put (cs := #[.int .i64 ((rd_T55 (rd_L8 l1 x14_1) x22_2).f0), .bool ((rd_T55 (rd_L8 l1 x14_1) x22_2).f1.f0), .int .i64 ((rd_T55 (rd_L8 l1 x14_1) x22_2).f1.f1), .int .i64 ((rd_T55 (rd_L8 l1 x14_1) x22_2).f1.f2), .int .i64 0, .int .i64 0, .int .i64 0]) ?_ 4 _ rfl; (with_reducible repeat (first | refine YF ?_ _ | refine YG ?_ | refine YH ?_ _)); refine blk_put (cs := #[.int .i64 ((rd_T55 (rd_L8 l1 x14_1) x22_2).f0), .bool ((rd_T55 (rd_L8 l1 x14_1) x22_2).f1.f0), .int .i64 ((rd_T55 (rd_L8 l1 x14_1) x22_2).f1.f1), .int .i64 0, .int .i64 0, .int .i64 0, .int .i64 0]) ?_ 3 _ rfl; (with_reducible repeat (first | refine YF ?_ _ | refine YG ?_ | refine YH ?_ _)); refine blk_put (cs := #[.int .i64 ((rd_T55 (rd_L8 l1 x14_1) x22_2).f0), .bool ((rd_T55 (rd_L8 l1 x14_1) x22_2).f1.f0), .int .i64 0, .int .i64 0, .int .i64 0, .int .i64 0, .int .i64 0]) ?_ 2 _ rfl; (with_reducible repeat (first | refine YF ?_ _ | refine YG ?_ | refine YH ?_ _)); refine blk_put (cs := #[.int .i64 ((rd_T55 (rd_L8 l1 x14_1) x22_2).f0), .bool false, .int .i64 0, .int .i64 0, .int .i64 0, .int .i64 0, .int .i64 0]) ?_ 1 _ rfl; (with_reducible repeat (first | refine YF ?_ _ | refine YG ?_ | refine YH ?_ _)); refine blk_put (cs := #[.int .i64 0, .bool false, .int .i64 0, .int .i64 0, .int .i64 0, .int .i64 0, .int .i64 0]) ?_ 0 _ rfl; (with_reducible repeat (first | refine YF ?_ _ | refine YG ?_ | refine YH ?_ _)); exact BK407.out⟩
              have n2_ : Aside0 (Below w.heap.size w (((((((w39.setCell ⟨gb407, 0, none⟩ (.int .i64 ((rd_T55 (rd_L8 l1 x14_1) x22_2).f0))).setCell ⟨gb407, 1, none⟩ (.bool ((rd_T55 (rd_L8 l1 x14_1) x22_2).f1.f0))).setCell ⟨gb407, 2, none⟩ (.int .i64 ((rd_T55 (rd_L8 l1 x14_1) x22_2).f1.f1))).setCell ⟨gb407, 3, none⟩ (.int .i64 ((rd_T55 (rd_L8 l1 x14_1) x22_2).f1.f2))).setCell ⟨gb407, 4, none⟩ (.int .i64 ((rd_T55 (rd_L8 l1 x14_1) x22_2).f1.f3))).setCell ⟨gb407, 5, none⟩ (.int .i64 ((rd_T55 (rd_L8 l1 x14_1) x22_2).f1.f4))).setCell ⟨gb407, 6, none⟩ (.int .i64 ((rd_T55 (rd_L8 l1 x14_1) x22_2).f1.f5)))) := ⟨by repeat (first | (with_reducible first | exact HB.out | apply YA | apply YB | apply YC | refine below_set ?_ GE407.out) | exact HB.out)⟩
              (try clear HO_5); (try clear BK407); (try clear HB)
              generalize (((((((w39.setCell ⟨gb407, 0, none⟩ (.int .i64 ((rd_T55 (rd_L8 l1 x14_1) x22_2).f0))).setCell ⟨gb407, 1, none⟩ (.bool ((rd_T55 (rd_L8 l1 x14_1) x22_2).f1.f0))).setCell ⟨gb407, 2, none⟩ (.int .i64 ((rd_T55 (rd_L8 l1 x14_1) x22_2).f1.f1))).setCell ⟨gb407, 3, none⟩ (.int .i64 ((rd_T55 (rd_L8 l1 x14_1) x22_2).f1.f2))).setCell ⟨gb407, 4, none⟩ (.int .i64 ((rd_T55 (rd_L8 l1 x14_1) x22_2).f1.f3))).setCell ⟨gb407, 5, none⟩ (.int .i64 ((rd_T55 (rd_L8 l1 x14_1) x22_2).f1.f4))).setCell ⟨gb407, 6, none⟩ (.int .i64 ((rd_T55 (rd_L8 l1 x14_1) x22_2).f1.f5))) = w41 at n0_ n1_ n2_ ⊢
              have HO_5 := n0_; have BK407 := n1_; have HB := n2_; clear n0_ n1_ n2_
              have n0_ := YK (YQ HO_5.out)
              have n1_ := YK (YG BK407.out)
              have n2_ := YK (YC HB.out)
              clear HO_5; clear BK407; clear HB; have HO_5 := n0_; have BK407 := n1_; have HB := n2_; clear n0_ n1_ n2_
              refine start_ (n := 29) (S := fun w' => w'.cell? ⟨gb407, 0, none⟩ = some (.int .i64 ((rd_T55 (rd_L8 l1 x14_1) x22_2).f0)) ∧ w'.cell? ⟨gb407, 1, none⟩ = some (.bool ((rd_T55 (rd_L8 l1 x14_1) x22_2).f1.f0)) ∧ w'.cell? ⟨gb407, 2, none⟩ = some (.int .i64 ((rd_T55 (rd_L8 l1 x14_1) x22_2).f1.f1)) ∧ w'.cell? ⟨gb407, 3, none⟩ = some (.int .i64 ((rd_T55 (rd_L8 l1 x14_1) x22_2).f1.f2)) ∧ w'.cell? ⟨gb407, 4, none⟩ = some (.int .i64 ((rd_T55 (rd_L8 l1 x14_1) x22_2).f1.f3)) ∧ w'.cell? ⟨gb407, 5, none⟩ = some (.int .i64 ((rd_T55 (rd_L8 l1 x14_1) x22_2).f1.f4)) ∧ w'.cell? ⟨gb407, 6, none⟩ = some (.int .i64 ((rd_T55 (rd_L8 l1 x14_1) x22_2).f1.f5))) (ds := []) #[false, false, false, false, false, false, false, false, false, false, false, false, false, false, false, false, false, false, false, false, false, false, false, false, false, false, false, false, false] (by kernel_rfl) rfl rfl ⟨(YI BK407.out 0).trans rfl, (YI BK407.out 1).trans rfl, (YI BK407.out 2).trans rfl, (YI BK407.out 3).trans rfl, (YI BK407.out 4).trans rfl, (YI BK407.out 5).trans rfl, (YI BK407.out 6).trans rfl⟩ (fun hHeld => ?_); refine with_tabW graph_Fresh.tab8 graph_Fresh.bits8 (fun HT_ HW_ => ?_)
              generalize w41.drew = w42 at HO_5 BK407 HB hHeld ⊢
              refine pure_ (i := 0) (N := some 26) (v := ?_) (a' := ?_) #[true, false, false, false, false, false, false, false, false, false, false, false, false, false, false, false, false, false, false, false, false, false, false, false, false, false, false, false, false] rfl rfl (any_of HT_.out (by kernel_rfl)) (fun _ _ _ h => h) (Or.inl ⟨by rfl, ?_⟩) ?_ ?_
              rotate_left
              · intro w'
                first | (go_simp; with_reducible rfl) | (have hj_ : (l1.length : Int) = ji3 := (by rw [← hji3]; simp only [mn]; split <;> omega); go_simp; with_reducible rfl) | (have hj_ : (l0.length : Int) = ji3 := (by rw [← hji3]; simp only [mn]; split <;> omega); go_simp; with_reducible rfl)
              rotate_left
              · simp only [Act.put, YL, YM, YN, i64_w, i32_w]
                rfl
              refine take_ (i := 1) (N := some 27) (v := ?_) (a' := ?_) #[true, true, false, false, false, false, false, false, false, false, false, false, false, false, false, false, false, false, false, false, false, false, false, false, false, false, false, false, false] rfl rfl (take_ofW HT_.out HW_.out (by kernel_rfl)) (fun _ _ _ h => h) (Or.inl ⟨by rfl, ?_⟩) hHeld ?_ ?_
              rotate_left
              · rintro w' ⟨s0, s1, s2, s3, s4, s5, s6⟩
                go_simp; with_reducible rfl
              rotate_left
              · simp only [Act.put, YL, YM, YN, i64_w, i32_w]
                rfl
              refine pure_ (i := 2) (N := some 28) (v := ?_) (a' := ?_) #[true, true, true, false, false, false, false, false, false, false, false, false, false, false, false, false, false, false, false, false, false, false, false, false, false, false, false, false, false] rfl rfl (any_of HT_.out (by kernel_rfl)) (fun _ _ _ h => h) (Or.inl ⟨by rfl, ?_⟩) ?_ ?_
              rotate_left
              · intro w'
                first | (go_simp; with_reducible rfl) | (have hj_ : (l1.length : Int) = ji3 := (by rw [← hji3]; simp only [mn]; split <;> omega); go_simp; with_reducible rfl) | (have hj_ : (l0.length : Int) = ji3 := (by rw [← hji3]; simp only [mn]; split <;> omega); go_simp; with_reducible rfl)
              rotate_left
              · simp only [Act.put, YL, YM, YN, i64_w, i32_w]
                rfl
              refine pure_ (i := 3) (N := some 29) (v := ?_) (a' := ?_) #[true, true, true, true, false, false, false, false, false, false, false, false, false, false, false, false, false, false, false, false, false, false, false, false, false, false, false, false, false] rfl rfl (any_of HT_.out (by kernel_rfl)) (fun _ _ _ h => h) (Or.inl ⟨by rfl, ?_⟩) ?_ ?_
              rotate_left
              · intro w'
                first | (go_simp; with_reducible rfl) | (have hj_ : (l1.length : Int) = ji3 := (by rw [← hji3]; simp only [mn]; split <;> omega); go_simp; with_reducible rfl) | (have hj_ : (l0.length : Int) = ji3 := (by rw [← hji3]; simp only [mn]; split <;> omega); go_simp; with_reducible rfl)
              rotate_left
              · simp only [Act.put, YL, YM, YN, i64_w, i32_w]
                rfl
              refine pure_ (i := 4) (N := some 30) (v := undef) (a' := ?_) #[true, true, true, true, true, false, false, false, false, false, false, false, false, false, false, false, false, false, false, false, false, false, false, false, false, false, false, false, false] rfl rfl (any_of HT_.out (by kernel_rfl)) (fun _ _ _ h => h) (Or.inr ⟨by rfl, rfl⟩) ?_ ?_
              rotate_left
              · simp only [Act.put, YL, YM, YN, i64_w, i32_w]
                rfl
              refine pure_ (i := 5) (N := some 31) (v := undef) (a' := ?_) #[true, true, true, true, true, true, false, false, false, false, false, false, false, false, false, false, false, false, false, false, false, false, false, false, false, false, false, false, false] rfl rfl (any_of HT_.out (by kernel_rfl)) (fun _ _ _ h => h) (Or.inr ⟨by rfl, rfl⟩) ?_ ?_
              rotate_left
              · simp only [Act.put, YL, YM, YN, i64_w, i32_w]
                rfl
              refine pure_ (i := 6) (N := some 32) (v := undef) (a' := ?_) #[true, true, true, true, true, true, true, false, false, false, false, false, false, false, false, false, false, false, false, false, false, false, false, false, false, false, false, false, false] rfl rfl (any_of HT_.out (by kernel_rfl)) (fun _ _ _ h => h) (Or.inr ⟨by rfl, rfl⟩) ?_ ?_
              rotate_left
              · simp only [Act.put, YL, YM, YN, i64_w, i32_w]
                rfl
              refine pure_ (i := 7) (N := some 33) (v := undef) (a' := ?_) #[true, true, true, true, true, true, true, true, false, false, false, false, false, false, false, false, false, false, false, false, false, false, false, false, false, false, false, false, false] rfl rfl (any_of HT_.out (by kernel_rfl)) (fun _ _ _ h => h) (Or.inr ⟨by rfl, rfl⟩) ?_ ?_
              rotate_left
              · simp only [Act.put, YL, YM, YN, i64_w, i32_w]
                rfl
              refine pure_ (i := 8) (N := some 34) (v := undef) (a' := ?_) #[true, true, true, true, true, true, true, true, true, false, false, false, false, false, false, false, false, false, false, false, false, false, false, false, false, false, false, false, false] rfl rfl (any_of HT_.out (by kernel_rfl)) (fun _ _ _ h => h) (Or.inr ⟨by rfl, rfl⟩) ?_ ?_
              rotate_left
              · simp only [Act.put, YL, YM, YN, i64_w, i32_w]
                rfl
              refine pure_ (i := 9) (N := some 35) (v := ?_) (a' := ?_) #[true, true, true, true, true, true, true, true, true, true, false, false, false, false, false, false, false, false, false, false, false, false, false, false, false, false, false, false, false] rfl rfl (any_of HT_.out (by kernel_rfl)) (fun _ _ _ h => h) (Or.inl ⟨by rfl, ?_⟩) ?_ ?_
              rotate_left
              · intro w'
                first | (go_simp; with_reducible rfl) | (have hj_ : (l1.length : Int) = ji3 := (by rw [← hji3]; simp only [mn]; split <;> omega); go_simp; with_reducible rfl) | (have hj_ : (l0.length : Int) = ji3 := (by rw [← hji3]; simp only [mn]; split <;> omega); go_simp; with_reducible rfl)
              rotate_left
              · simp only [Act.put, YL, YM, YN, i64_w, i32_w]
                rfl
              refine pure_ (i := 10) (N := some 36) (v := ?_) (a' := ?_) #[true, true, true, true, true, true, true, true, true, true, true, false, false, false, false, false, false, false, false, false, false, false, false, false, false, false, false, false, false] rfl rfl (any_of HT_.out (by kernel_rfl)) (fun _ _ _ h => h) (Or.inl ⟨by rfl, ?_⟩) ?_ ?_
              rotate_left
              · intro w'
                first | (go_simp; with_reducible rfl) | (have hj_ : (l1.length : Int) = ji3 := (by rw [← hji3]; simp only [mn]; split <;> omega); go_simp; with_reducible rfl) | (have hj_ : (l0.length : Int) = ji3 := (by rw [← hji3]; simp only [mn]; split <;> omega); go_simp; with_reducible rfl)
              rotate_left
              · simp only [Act.put, YL, YM, YN, i64_w, i32_w]
                rfl
              refine pure_ (i := 11) (N := some 37) (v := undef) (a' := ?_) #[true, true, true, true, true, true, true, true, true, true, true, true, false, false, false, false, false, false, false, false, false, false, false, false, false, false, false, false, false] rfl rfl (any_of HT_.out (by kernel_rfl)) (fun _ _ _ h => h) (Or.inr ⟨by rfl, rfl⟩) ?_ ?_
              rotate_left
              · simp only [Act.put, YL, YM, YN, i64_w, i32_w]
                rfl
              refine pure_ (i := 12) (N := some 38) (v := undef) (a' := ?_) #[true, true, true, true, true, true, true, true, true, true, true, true, true, false, false, false, false, false, false, false, false, false, false, false, false, false, false, false, false] rfl rfl (any_of HT_.out (by kernel_rfl)) (fun _ _ _ h => h) (Or.inr ⟨by rfl, rfl⟩) ?_ ?_
              rotate_left
              · simp only [Act.put, YL, YM, YN, i64_w, i32_w]
                rfl
              refine pure_ (i := 13) (N := some 39) (v := undef) (a' := ?_) #[true, true, true, true, true, true, true, true, true, true, true, true, true, true, false, false, false, false, false, false, false, false, false, false, false, false, false, false, false] rfl rfl (any_of HT_.out (by kernel_rfl)) (fun _ _ _ h => h) (Or.inr ⟨by rfl, rfl⟩) ?_ ?_
              rotate_left
              · simp only [Act.put, YL, YM, YN, i64_w, i32_w]
                rfl
              refine pure_ (i := 14) (N := some 40) (v := undef) (a' := ?_) #[true, true, true, true, true, true, true, true, true, true, true, true, true, true, true, false, false, false, false, false, false, false, false, false, false, false, false, false, false] rfl rfl (any_of HT_.out (by kernel_rfl)) (fun _ _ _ h => h) (Or.inr ⟨by rfl, rfl⟩) ?_ ?_
              rotate_left
              · simp only [Act.put, YL, YM, YN, i64_w, i32_w]
                rfl
              refine pure_ (i := 15) (N := some 41) (v := undef) (a' := ?_) #[true, true, true, true, true, true, true, true, true, true, true, true, true, true, true, true, false, false, false, false, false, false, false, false, false, false, false, false, false] rfl rfl (any_of HT_.out (by kernel_rfl)) (fun _ _ _ h => h) (Or.inr ⟨by rfl, rfl⟩) ?_ ?_
              rotate_left
              · simp only [Act.put, YL, YM, YN, i64_w, i32_w]
                rfl
              refine pure_ (i := 16) (N := some 42) (v := undef) (a' := ?_) #[true, true, true, true, true, true, true, true, true, true, true, true, true, true, true, true, true, false, false, false, false, false, false, false, false, false, false, false, false] rfl rfl (any_of HT_.out (by kernel_rfl)) (fun _ _ _ h => h) (Or.inr ⟨by rfl, rfl⟩) ?_ ?_
              rotate_left
              · simp only [Act.put, YL, YM, YN, i64_w, i32_w]
                rfl
              refine pure_ (i := 17) (N := some 43) (v := undef) (a' := ?_) #[true, true, true, true, true, true, true, true, true, true, true, true, true, true, true, true, true, true, false, false, false, false, false, false, false, false, false, false, false] rfl rfl (any_of HT_.out (by kernel_rfl)) (fun _ _ _ h => h) (Or.inr ⟨by rfl, rfl⟩) ?_ ?_
              rotate_left
              · simp only [Act.put, YL, YM, YN, i64_w, i32_w]
                rfl
              refine pure_ (i := 18) (N := some 44) (v := undef) (a' := ?_) #[true, true, true, true, true, true, true, true, true, true, true, true, true, true, true, true, true, true, true, false, false, false, false, false, false, false, false, false, false] rfl rfl (any_of HT_.out (by kernel_rfl)) (fun _ _ _ h => h) (Or.inr ⟨by rfl, rfl⟩) ?_ ?_
              rotate_left
              · simp only [Act.put, YL, YM, YN, i64_w, i32_w]
                rfl
              refine pure_ (i := 19) (N := some 45) (v := ?_) (a' := ?_) #[true, true, true, true, true, true, true, true, true, true, true, true, true, true, true, true, true, true, true, true, false, false, false, false, false, false, false, false, false] rfl rfl (any_of HT_.out (by kernel_rfl)) (fun _ _ _ h => h) (Or.inl ⟨by rfl, ?_⟩) ?_ ?_
              rotate_left
              · intro w'
                first | (go_simp; with_reducible rfl) | (have hj_ : (l1.length : Int) = ji3 := (by rw [← hji3]; simp only [mn]; split <;> omega); go_simp; with_reducible rfl) | (have hj_ : (l0.length : Int) = ji3 := (by rw [← hji3]; simp only [mn]; split <;> omega); go_simp; with_reducible rfl)
              rotate_left
              · simp only [Act.put, YL, YM, YN, i64_w, i32_w]
                rfl
              refine pure_ (i := 20) (N := some 46) (v := ?_) (a' := ?_) #[true, true, true, true, true, true, true, true, true, true, true, true, true, true, true, true, true, true, true, true, true, false, false, false, false, false, false, false, false] rfl rfl (any_of HT_.out (by kernel_rfl)) (fun _ _ _ h => h) (Or.inl ⟨by rfl, ?_⟩) ?_ ?_
              rotate_left
              · intro w'
                first | (go_simp; with_reducible rfl) | (have hj_ : (l1.length : Int) = ji3 := (by rw [← hji3]; simp only [mn]; split <;> omega); go_simp; with_reducible rfl) | (have hj_ : (l0.length : Int) = ji3 := (by rw [← hji3]; simp only [mn]; split <;> omega); go_simp; with_reducible rfl)
              rotate_left
              · simp only [Act.put, YL, YM, YN, i64_w, i32_w]
                rfl
              refine pure_ (i := 21) (N := some 47) (v := undef) (a' := ?_) #[true, true, true, true, true, true, true, true, true, true, true, true, true, true, true, true, true, true, true, true, true, true, false, false, false, false, false, false, false] rfl rfl (any_of HT_.out (by kernel_rfl)) (fun _ _ _ h => h) (Or.inr ⟨by rfl, rfl⟩) ?_ ?_
              rotate_left
              · simp only [Act.put, YL, YM, YN, i64_w, i32_w]
                rfl
              refine pure_ (i := 22) (N := some 48) (v := undef) (a' := ?_) #[true, true, true, true, true, true, true, true, true, true, true, true, true, true, true, true, true, true, true, true, true, true, true, false, false, false, false, false, false] rfl rfl (any_of HT_.out (by kernel_rfl)) (fun _ _ _ h => h) (Or.inr ⟨by rfl, rfl⟩) ?_ ?_
              rotate_left
              · simp only [Act.put, YL, YM, YN, i64_w, i32_w]
                rfl
              refine pure_ (i := 23) (N := some 49) (v := undef) (a' := ?_) #[true, true, true, true, true, true, true, true, true, true, true, true, true, true, true, true, true, true, true, true, true, true, true, true, false, false, false, false, false] rfl rfl (any_of HT_.out (by kernel_rfl)) (fun _ _ _ h => h) (Or.inr ⟨by rfl, rfl⟩) ?_ ?_
              rotate_left
              · simp only [Act.put, YL, YM, YN, i64_w, i32_w]
                rfl
              refine pure_ (i := 24) (N := some 50) (v := undef) (a' := ?_) #[true, true, true, true, true, true, true, true, true, true, true, true, true, true, true, true, true, true, true, true, true, true, true, true, true, false, false, false, false] rfl rfl (any_of HT_.out (by kernel_rfl)) (fun _ _ _ h => h) (Or.inr ⟨by rfl, rfl⟩) ?_ ?_
              rotate_left
              · simp only [Act.put, YL, YM, YN, i64_w, i32_w]
                rfl
              refine pure_ (i := 25) (N := some 51) (v := undef) (a' := ?_) #[true, true, true, true, true, true, true, true, true, true, true, true, true, true, true, true, true, true, true, true, true, true, true, true, true, true, false, false, false] rfl rfl (any_of HT_.out (by kernel_rfl)) (fun _ _ _ h => h) (Or.inr ⟨by rfl, rfl⟩) ?_ ?_
              rotate_left
              · simp only [Act.put, YL, YM, YN, i64_w, i32_w]
                rfl
              refine pure_ (i := 26) (N := some 52) (v := undef) (a' := ?_) #[true, true, true, true, true, true, true, true, true, true, true, true, true, true, true, true, true, true, true, true, true, true, true, true, true, true, true, false, false] rfl rfl (any_of HT_.out (by kernel_rfl)) (fun _ _ _ h => h) (Or.inr ⟨by rfl, rfl⟩) ?_ ?_
              rotate_left
              · simp only [Act.put, YL, YM, YN, i64_w, i32_w]
                rfl
              refine pure_ (i := 27) (N := some 53) (v := undef) (a' := ?_) #[true, true, true, true, true, true, true, true, true, true, true, true, true, true, true, true, true, true, true, true, true, true, true, true, true, true, true, true, false] rfl rfl (any_of HT_.out (by kernel_rfl)) (fun _ _ _ h => h) (Or.inr ⟨by rfl, rfl⟩) ?_ ?_
              rotate_left
              · simp only [Act.put, YL, YM, YN, i64_w, i32_w]
                rfl
              refine pure_ (i := 28) (N := some 54) (v := ?_) (a' := ?_) #[true, true, true, true, true, true, true, true, true, true, true, true, true, true, true, true, true, true, true, true, true, true, true, true, true, true, true, true, true] rfl rfl (any_of HT_.out (by kernel_rfl)) (fun _ _ _ h => h) (Or.inl ⟨by rfl, ?_⟩) ?_ ?_
              rotate_left
              · intro w'
                first | (go_simp; with_reducible rfl) | (have hj_ : (l1.length : Int) = ji3 := (by rw [← hji3]; simp only [mn]; split <;> omega); go_simp; with_reducible rfl) | (have hj_ : (l0.length : Int) = ji3 := (by rw [← hji3]; simp only [mn]; split <;> omega); go_simp; with_reducible rfl)
              rotate_left
              · simp only [Act.put, YL, YM, YN, i64_w, i32_w]
                rfl
              refine done_ (done_of HT_.out (by kernel_rfl)) ?_
              try go_wp2
              go_roundg k2
              case measure => have := HK1.out; have := HK2.out; omega
              case rel => exact ⟨(x5_2), (wrap64 (x22_2 + 1)), (by first | rfl | (simp; done) | (simp [*]; done)), H', ⟨by have := HK1.out; have := HK2.out; omega⟩, ⟨by (with_reducible repeat (first | apply YO | apply YP | apply YQ)); exact HO_5.out⟩, ⟨by repeat (first | (with_reducible first | exact HB.out | apply YA | apply YB | apply YC | refine below_set ?_ GE407.out) | exact HB.out)⟩⟩
            rw [if_neg c7] at H
            have c7b0 : decide (x22_2 < ((rd_L8 l1 x14_1).length : Int)) = false := decide_eq_false c7
            clear c7
            have H' := YK H
            clear H
            go_wp2
            go_roundg k2
            case measure => have := HK1.out; have := HK2.out; omega
            case rel => exact ⟨(x5_2), (wrap64 (x14_1 + 1)), (by first | rfl | (simp; done) | (simp [*]; done)), H', ⟨by have := HK1.out; have := HK2.out; omega⟩, ⟨by (with_reducible repeat (first | apply YO | apply YP | apply YQ)); exact HO_5.out⟩, ⟨by repeat (first | (with_reducible first | exact HB.out | apply YA | apply YB | apply YC) | exact HB.out)⟩⟩
      rw [if_neg c4] at H; have c4b0 : decide (x14_1 < ji3) = false := decide_eq_false c4; clear c4
      obtain rfl := Option.some.inj H
      go_wp2
      go_ret
      exact ⟨_, by first | rfl | (simp [errW_none, errW_some] <;> rfl) | (simp only [← hji3]; first | rfl | (simp [errW_none, errW_some] <;> rfl)) | (simp [*, errW_none, errW_some] <;> rfl), by (with_reducible repeat (first | apply YO | apply YP | apply YQ)); exact HO_5.out, by repeat (first | (with_reducible first | exact HB.out | apply YA | apply YB | apply YC) | exact HB.out)⟩

end Go.Proofs.Ytbejdbgcfgllhaa.P
