-- WRITTEN BY xprint.py, a program of this session that drives the kit's printer.
import Derived.Test.YtbejdbgcfgllhaaP0
namespace Go.Proofs.Ytbejdbgcfgllhaa.P
open Go.RowKit Go.Proofs.YtbejdbgcfgllhaaW.PrintWords Go.Proofs.YtbejdbgcfgllhaaW.PrintLast Go.Proofs.YtbejdbgcfgllhaaW.PrintMore
open Go.Proofs.YtbejdbgcfgllhaaW.PrintWords.Aside0 renaming mk → YA
attribute [local go_sem] max2_int min2_int max_two min_two max_three min_three max_four min_four   -- for this text's walks alone
set_option linter.unusedVariables false
set_option linter.unusedSimpArgs false

/-! ### thalwegref25_Linked: function 25 -/
def thalwegref25_Linked.l0 : Nat → Int → List (S36) → Int → Int → Int → Option (Bool)
  | 0, _, _, _, _, _ => none
  | k + 1, x0, x1, x2, x3, x9 => if x9 < (x1.length : Int) then (if 0 ≤ x9 then (if ((rd_T36 x1 x9).f0) ≥ 0 then (if ((rd_T36 x1 x9).f0) < x0 then (if ((rd_T36 x1 x9).f1) ≥ 0 then (if ((rd_T36 x1 x9).f1) < x0 then (if ((rd_T36 x1 x9).f0) = x2 then (if ((rd_T36 x1 x9).f1) = x3 then (some true) else (if ((rd_T36 x1 x9).f0) = x3 then (if ((rd_T36 x1 x9).f1) = x2 then (some true) else (thalwegref25_Linked.l0 k x0 x1 x2 x3 (wrap64 (x9 + 1)))) else (thalwegref25_Linked.l0 k x0 x1 x2 x3 (wrap64 (x9 + 1))))) else (if ((rd_T36 x1 x9).f0) = x3 then (if ((rd_T36 x1 x9).f1) = x2 then (some true) else (thalwegref25_Linked.l0 k x0 x1 x2 x3 (wrap64 (x9 + 1)))) else (thalwegref25_Linked.l0 k x0 x1 x2 x3 (wrap64 (x9 + 1))))) else (thalwegref25_Linked.l0 k x0 x1 x2 x3 (wrap64 (x9 + 1)))) else (thalwegref25_Linked.l0 k x0 x1 x2 x3 (wrap64 (x9 + 1)))) else (thalwegref25_Linked.l0 k x0 x1 x2 x3 (wrap64 (x9 + 1)))) else (thalwegref25_Linked.l0 k x0 x1 x2 x3 (wrap64 (x9 + 1)))) else (none)) else (some false)
def thalwegref25_Linked.f (k : Nat) (a0 : Int) (l1 : List (S36)) (a2 : Int) (a3 : Int) : Option (Bool) := thalwegref25_Linked.l0 k a0 l1 a2 a3 0
theorem thalwegref25_Linked.mono_l : ∀ k, (∀ y0 y1 y2 y3 y4, LeO (thalwegref25_Linked.l0 k y0 y1 y2 y3 y4) (thalwegref25_Linked.l0 (k + 1) y0 y1 y2 y3 y4))
  | 0 => fun _ _ _ _ _ r h => by simp [thalwegref25_Linked.l0] at h
  | k + 1 => by
    have ih0 := thalwegref25_Linked.mono_l k
    · intro y0 y1 y2 y3 y4
      unfold thalwegref25_Linked.l0
      repeat' first
      | (with_reducible exact ih0 _ _ _ _ _)
      | (with_reducible exact LeO.refl _)
      | (with_reducible exact LeO.none _)
      | (with_reducible refine LeO.ite ?_ ?_)
      | (with_reducible refine LeO.bind ?_ (fun _ => ?_))
      | exact ih0 _ _ _ _ _
      | exact LeO.none _
      | refine LeO.ite ?_ ?_
      | refine LeO.bind ?_ (fun _ => ?_)
theorem thalwegref25_Linked.mono : ∀ a0 a1 a2 a3 k, LeO (thalwegref25_Linked.f k a0 a1 a2 a3) (thalwegref25_Linked.f (k + 1) a0 a1 a2 a3) := by
  intro a0 a1 a2 a3 k
  have ih0 := thalwegref25_Linked.mono_l k
  unfold thalwegref25_Linked.f
  repeat' first
      | (with_reducible exact ih0 _ _ _ _ _)
      | (with_reducible exact LeO.refl _)
      | (with_reducible exact LeO.none _)
      | (with_reducible refine LeO.ite ?_ ?_)
      | (with_reducible refine LeO.bind ?_ (fun _ => ?_))
      | exact ih0 _ _ _ _ _
      | exact LeO.none _
      | refine LeO.ite ?_ ?_
      | refine LeO.bind ?_ (fun _ => ?_)
set_option maxHeartbeats 8000000 in
set_option maxRecDepth 100000 in
theorem thalwegref25_Linked.calls (k : Nat) (a0 : Int) (A1 : Option Addr) (c1 : Nat) (l1 : List (S36)) (a2 : Int) (a3 : Int) (r : Bool) (w : World) (hr1 : Kd.C k36 w A1 l1.length l1) (hc1 : l1.length ≤ c1) (h : thalwegref25_Linked.f k a0 l1 a2 a3 = some r) :
    Calls Try.prog 25 #[.int .i64 a0, .slice A1 l1.length c1, .int .i64 a2, .int .i64 a3] w fun e w' => e = .returned (.bool r) ∧ Drawn0 w w' := by
  have HR1 := YA hr1; have HC1 := YA hc1; clear hr1 hc1
  have H : (thalwegref25_Linked.l0 k a0 l1 a2 a3 0) = some r := h
  clear h
  have H' := YA H
  clear H
  go_enter Try.func25, Try.ntmps25
  go_wp2
  go_loopg [9] k (fun kq v9 w' => ∃ (x9_1 : Int), v9 = .int .i64 x9_1 ∧ Aside0 (thalwegref25_Linked.l0 kq a0 l1 a2 a3 x9_1 = some r) ∧ Aside0 (kq ≤ k) ∧ Drawn0 w w')
  case atStart => exact ⟨(0), (by first | rfl | (simp; done) | (simp [*]; done)), H', ⟨Nat.le_refl _⟩, by repeat (first | exact Drawn0.refl _ | apply Drawn0.step)⟩
  case round =>
    clear H'
    try clear c1
    try clear c2
    try clear p2
    obtain ⟨x9_1, rfl, HA, HK1, ⟨m1, rfl⟩⟩ := hrel
    cases gk with
    | zero => exact absurd HA.out (by simp [thalwegref25_Linked.l0])
    | succ k1 =>
      have H := HA.out
      clear HA
      simp only [thalwegref25_Linked.l0] at H
      by_cases c5 : x9_1 < (l1.length : Int)
      · rw [if_pos c5] at H
        have c5b0 : decide (x9_1 < (l1.length : Int)) = true := decide_eq_true c5
        clear c5
        by_cases c6 : 0 ≤ x9_1
        rotate_left
        · rw [if_neg c6] at H
          exact absurd H (by simp)
        rw [if_pos c6] at H; have c6b0 : decide (0 ≤ x9_1) = true := decide_eq_true c6; clear c6
        by_cases c7 : ((rd_T36 l1 x9_1).f0) ≥ 0
        · rw [if_pos c7] at H
          have c7b0 : decide (0 ≤ ((rd_T36 l1 x9_1).f0)) = true := decide_eq_true c7; clear c7
          by_cases c8 : ((rd_T36 l1 x9_1).f0) < a0
          · rw [if_pos c8] at H
            have c8b0 : decide (((rd_T36 l1 x9_1).f0) < a0) = true := decide_eq_true c8; clear c8
            by_cases c9 : ((rd_T36 l1 x9_1).f1) ≥ 0
            · rw [if_pos c9] at H
              have c9b0 : decide (0 ≤ ((rd_T36 l1 x9_1).f1)) = true := decide_eq_true c9; clear c9
              by_cases c10 : ((rd_T36 l1 x9_1).f1) < a0
              · rw [if_pos c10] at H
                have c10b0 : decide (((rd_T36 l1 x9_1).f1) < a0) = true := decide_eq_true c10; clear c10
                by_cases c11 : ((rd_T36 l1 x9_1).f0) = a2
                · rw [if_pos c11] at H
                  have c11b0 : (((rd_T36 l1 x9_1).f0) == a2) = true := beq_iff_eq.mpr c11
                  have c11b1 : (((rd_T36 l1 x9_1).f0) != a2) = false := bne_eq_false_iff_eq.mpr c11
                  clear c11
                  by_cases c12 : ((rd_T36 l1 x9_1).f1) = a3
                  · rw [if_pos c12] at H
                    have c12b0 : (((rd_T36 l1 x9_1).f1) == a3) = true := beq_iff_eq.mpr c12
                    have c12b1 : (((rd_T36 l1 x9_1).f1) != a3) = false := bne_eq_false_iff_eq.mpr c12
                    clear c12
                    obtain rfl := Option.some.inj H
                    have p225 : 0 ≤ (x9_1 : Int) := of_decide_eq_true (by first | (with_reducible assumption) | assumption)
                    have q225 : x9_1 < (l1.length : Int) := of_decide_eq_true (by first | (with_reducible assumption) | assumption)
                    obtain ⟨ad225, e225, hx225_0, hx225_1⟩ := at_T36 HR1.out x9_1 p225 q225
                    cases e225
                    replace p225 := eq_true p225
                    replace q225 := eq_true q225
                    have p226 : 0 ≤ (x9_1 : Int) := of_decide_eq_true (by first | (with_reducible assumption) | assumption)
                    have q226 : x9_1 < (l1.length : Int) := of_decide_eq_true (by first | (with_reducible assumption) | assumption)
                    obtain ⟨ad226, e226, hx226_0, hx226_1⟩ := at_T36 HR1.out x9_1 p226 q226
                    obtain rfl : ad225 = ad226 := (by injection e226)
                    replace p226 := eq_true p226
                    replace q226 := eq_true q226
                    go_wp2
                    go_ret
                    exact ⟨by first | rfl | (simp; done) | (simp [*]; done), by repeat (first | exact Drawn0.refl _ | apply Drawn0.step)⟩
                  rw [if_neg c12] at H
                  have c12b0 : (((rd_T36 l1 x9_1).f1) == a3) = false := beq_eq_false_iff_ne.mpr c12
                  have c12b1 : (((rd_T36 l1 x9_1).f1) != a3) = true := bne_iff_ne.mpr c12
                  by_cases c13 : ((rd_T36 l1 x9_1).f0) = a3
                  · rw [if_pos c13] at H
                    have c13b0 : (((rd_T36 l1 x9_1).f0) == a3) = true := beq_iff_eq.mpr c13
                    have c13b1 : (((rd_T36 l1 x9_1).f0) != a3) = false := bne_eq_false_iff_eq.mpr c13
                    clear c13
                    by_cases c14 : ((rd_T36 l1 x9_1).f1) = a2
                    · rw [if_pos c14] at H
                      have c14b0 : (((rd_T36 l1 x9_1).f1) == a2) = true := beq_iff_eq.mpr c14
                      have c14b1 : (((rd_T36 l1 x9_1).f1) != a2) = false := bne_eq_false_iff_eq.mpr c14
                      clear c14
                      obtain rfl := Option.some.inj H
                      have p225 : 0 ≤ (x9_1 : Int) := of_decide_eq_true (by first | (with_reducible assumption) | assumption)
                      have q225 : x9_1 < (l1.length : Int) := of_decide_eq_true (by first | (with_reducible assumption) | assumption)
                      obtain ⟨ad225, e225, hx225_0, hx225_1⟩ := at_T36 HR1.out x9_1 p225 q225
                      cases e225
                      replace p225 := eq_true p225
                      replace q225 := eq_true q225
                      have p226 : 0 ≤ (x9_1 : Int) := of_decide_eq_true (by first | (with_reducible assumption) | assumption)
                      have q226 : x9_1 < (l1.length : Int) := of_decide_eq_true (by first | (with_reducible assumption) | assumption)
                      obtain ⟨ad226, e226, hx226_0, hx226_1⟩ := at_T36 HR1.out x9_1 p226 q226
                      obtain rfl : ad225 = ad226 := (by injection e226)
                      replace p226 := eq_true p226
                      replace q226 := eq_true q226
                      go_wp2
                      go_ret
                      exact ⟨by first | rfl | (simp; done) | (simp [*]; done), by repeat (first | exact Drawn0.refl _ | apply Drawn0.step)⟩
                    rw [if_neg c14] at H
                    have c14b0 : (((rd_T36 l1 x9_1).f1) == a2) = false := beq_eq_false_iff_ne.mpr c14
                    have c14b1 : (((rd_T36 l1 x9_1).f1) != a2) = true := bne_iff_ne.mpr c14
                    have H' := YA H
                    clear H
                    have p225 : 0 ≤ (x9_1 : Int) := of_decide_eq_true (by first | (with_reducible assumption) | assumption)
                    have q225 : x9_1 < (l1.length : Int) := of_decide_eq_true (by first | (with_reducible assumption) | assumption)
                    obtain ⟨ad225, e225, hx225_0, hx225_1⟩ := at_T36 HR1.out x9_1 p225 q225
                    cases e225
                    replace p225 := eq_true p225
                    replace q225 := eq_true q225
                    have p226 : 0 ≤ (x9_1 : Int) := of_decide_eq_true (by first | (with_reducible assumption) | assumption)
                    have q226 : x9_1 < (l1.length : Int) := of_decide_eq_true (by first | (with_reducible assumption) | assumption)
                    obtain ⟨ad226, e226, hx226_0, hx226_1⟩ := at_T36 HR1.out x9_1 p226 q226
                    obtain rfl : ad225 = ad226 := (by injection e226)
                    replace p226 := eq_true p226
                    replace q226 := eq_true q226
                    go_wp2
                    go_roundg k1
                    case measure => have := HK1.out; omega
                    case rel => exact ⟨(wrap64 (x9_1 + 1)), (by first | rfl | (simp; done) | (simp [*]; done)), H', ⟨by have := HK1.out; omega⟩, by repeat (first | exact Drawn0.refl _ | apply Drawn0.step)⟩
                  rw [if_neg c13] at H
                  have c13b0 : (((rd_T36 l1 x9_1).f0) == a3) = false := beq_eq_false_iff_ne.mpr c13
                  have c13b1 : (((rd_T36 l1 x9_1).f0) != a3) = true := bne_iff_ne.mpr c13
                  have H' := YA H
                  clear H
                  have p225 : 0 ≤ (x9_1 : Int) := of_decide_eq_true (by first | (with_reducible assumption) | assumption)
                  have q225 : x9_1 < (l1.length : Int) := of_decide_eq_true (by first | (with_reducible assumption) | assumption)
                  obtain ⟨ad225, e225, hx225_0, hx225_1⟩ := at_T36 HR1.out x9_1 p225 q225
                  cases e225
                  replace p225 := eq_true p225
                  replace q225 := eq_true q225
                  have p226 : 0 ≤ (x9_1 : Int) := of_decide_eq_true (by first | (with_reducible assumption) | assumption)
                  have q226 : x9_1 < (l1.length : Int) := of_decide_eq_true (by first | (with_reducible assumption) | assumption)
                  obtain ⟨ad226, e226, hx226_0, hx226_1⟩ := at_T36 HR1.out x9_1 p226 q226
                  obtain rfl : ad225 = ad226 := (by injection e226)
                  replace p226 := eq_true p226
                  replace q226 := eq_true q226
                  go_wp2
                  go_roundg k1
                  case measure => have := HK1.out; omega
                  case rel => exact ⟨(wrap64 (x9_1 + 1)), (by first | rfl | (simp; done) | (simp [*]; done)), H', ⟨by have := HK1.out; omega⟩, by repeat (first | exact Drawn0.refl _ | apply Drawn0.step)⟩
                rw [if_neg c11] at H
                have c11b0 : (((rd_T36 l1 x9_1).f0) == a2) = false := beq_eq_false_iff_ne.mpr c11
                have c11b1 : (((rd_T36 l1 x9_1).f0) != a2) = true := bne_iff_ne.mpr c11
                by_cases c15 : ((rd_T36 l1 x9_1).f0) = a3
                · rw [if_pos c15] at H
                  have c15b0 : (((rd_T36 l1 x9_1).f0) == a3) = true := beq_iff_eq.mpr c15
                  have c15b1 : (((rd_T36 l1 x9_1).f0) != a3) = false := bne_eq_false_iff_eq.mpr c15
                  clear c15
                  by_cases c16 : ((rd_T36 l1 x9_1).f1) = a2
                  · rw [if_pos c16] at H
                    have c16b0 : (((rd_T36 l1 x9_1).f1) == a2) = true := beq_iff_eq.mpr c16
                    have c16b1 : (((rd_T36 l1 x9_1).f1) != a2) = false := bne_eq_false_iff_eq.mpr c16
                    clear c16
                    obtain rfl := Option.some.inj H
                    have p225 : 0 ≤ (x9_1 : Int) := of_decide_eq_true (by first | (with_reducible assumption) | assumption)
                    have q225 : x9_1 < (l1.length : Int) := of_decide_eq_true (by first | (with_reducible assumption) | assumption)
                    obtain ⟨ad225, e225, hx225_0, hx225_1⟩ := at_T36 HR1.out x9_1 p225 q225
                    cases e225
                    replace p225 := eq_true p225
                    replace q225 := eq_true q225
                    have p226 : 0 ≤ (x9_1 : Int) := of_decide_eq_true (by first | (with_reducible assumption) | assumption)
                    have q226 : x9_1 < (l1.length : Int) := of_decide_eq_true (by first | (with_reducible assumption) | assumption)
                    obtain ⟨ad226, e226, hx226_0, hx226_1⟩ := at_T36 HR1.out x9_1 p226 q226
                    obtain rfl : ad225 = ad226 := (by injection e226)
                    replace p226 := eq_true p226
                    replace q226 := eq_true q226
                    go_wp2
                    go_ret
                    exact ⟨by first | rfl | (simp; done) | (simp [*]; done), by repeat (first | exact Drawn0.refl _ | apply Drawn0.step)⟩
                  rw [if_neg c16] at H
                  have c16b0 : (((rd_T36 l1 x9_1).f1) == a2) = false := beq_eq_false_iff_ne.mpr c16
                  have c16b1 : (((rd_T36 l1 x9_1).f1) != a2) = true := bne_iff_ne.mpr c16
                  have H' := YA H
                  clear H
                  have p225 : 0 ≤ (x9_1 : Int) := of_decide_eq_true (by first | (with_reducible assumption) | assumption)
                  have q225 : x9_1 < (l1.length : Int) := of_decide_eq_true (by first | (with_reducible assumption) | assumption)
                  obtain ⟨ad225, e225, hx225_0, hx225_1⟩ := at_T36 HR1.out x9_1 p225 q225
                  cases e225
                  replace p225 := eq_true p225
                  replace q225 := eq_true q225
                  have p226 : 0 ≤ (x9_1 : Int) := of_decide_eq_true (by first | (with_reducible assumption) | assumption)
                  have q226 : x9_1 < (l1.length : Int) := of_decide_eq_true (by first | (with_reducible assumption) | assumption)
                  obtain ⟨ad226, e226, hx226_0, hx226_1⟩ := at_T36 HR1.out x9_1 p226 q226
                  obtain rfl : ad225 = ad226 := (by injection e226)
                  replace p226 := eq_true p226
                  replace q226 := eq_true q226
                  go_wp2
                  go_roundg k1
                  case measure => have := HK1.out; omega
                  case rel => exact ⟨(wrap64 (x9_1 + 1)), (by first | rfl | (simp; done) | (simp [*]; done)), H', ⟨by have := HK1.out; omega⟩, by repeat (first | exact Drawn0.refl _ | apply Drawn0.step)⟩
                rw [if_neg c15] at H
                have c15b0 : (((rd_T36 l1 x9_1).f0) == a3) = false := beq_eq_false_iff_ne.mpr c15
                have c15b1 : (((rd_T36 l1 x9_1).f0) != a3) = true := bne_iff_ne.mpr c15
                have H' := YA H
                clear H
                have p225 : 0 ≤ (x9_1 : Int) := of_decide_eq_true (by first | (with_reducible assumption) | assumption)
                have q225 : x9_1 < (l1.length : Int) := of_decide_eq_true (by first | (with_reducible assumption) | assumption)
                obtain ⟨ad225, e225, hx225_0, hx225_1⟩ := at_T36 HR1.out x9_1 p225 q225
                cases e225
                replace p225 := eq_true p225
                replace q225 := eq_true q225
                have p226 : 0 ≤ (x9_1 : Int) := of_decide_eq_true (by first | (with_reducible assumption) | assumption)
                have q226 : x9_1 < (l1.length : Int) := of_decide_eq_true (by first | (with_reducible assumption) | assumption)
                obtain ⟨ad226, e226, hx226_0, hx226_1⟩ := at_T36 HR1.out x9_1 p226 q226
                obtain rfl : ad225 = ad226 := (by injection e226)
                replace p226 := eq_true p226
                replace q226 := eq_true q226
                go_wp2
                go_roundg k1
                case measure => have := HK1.out; omega
                case rel => exact ⟨(wrap64 (x9_1 + 1)), (by first | rfl | (simp; done) | (simp [*]; done)), H', ⟨by have := HK1.out; omega⟩, by repeat (first | exact Drawn0.refl _ | apply Drawn0.step)⟩
              rw [if_neg c10] at H; have c10b0 : decide (((rd_T36 l1 x9_1).f1) < a0) = false := decide_eq_false c10; clear c10
              have H' := YA H
              clear H
              have p225 : 0 ≤ (x9_1 : Int) := of_decide_eq_true (by first | (with_reducible assumption) | assumption)
              have q225 : x9_1 < (l1.length : Int) := of_decide_eq_true (by first | (with_reducible assumption) | assumption)
              obtain ⟨ad225, e225, hx225_0, hx225_1⟩ := at_T36 HR1.out x9_1 p225 q225
              cases e225
              replace p225 := eq_true p225
              replace q225 := eq_true q225
              have p226 : 0 ≤ (x9_1 : Int) := of_decide_eq_true (by first | (with_reducible assumption) | assumption)
              have q226 : x9_1 < (l1.length : Int) := of_decide_eq_true (by first | (with_reducible assumption) | assumption)
              obtain ⟨ad226, e226, hx226_0, hx226_1⟩ := at_T36 HR1.out x9_1 p226 q226
              obtain rfl : ad225 = ad226 := (by injection e226)
              replace p226 := eq_true p226
              replace q226 := eq_true q226
              go_wp2
              go_roundg k1
              case measure => have := HK1.out; omega
              case rel => exact ⟨(wrap64 (x9_1 + 1)), (by first | rfl | (simp; done) | (simp [*]; done)), H', ⟨by have := HK1.out; omega⟩, by repeat (first | exact Drawn0.refl _ | apply Drawn0.step)⟩
            rw [if_neg c9] at H; have c9b0 : decide (0 ≤ ((rd_T36 l1 x9_1).f1)) = false := decide_eq_false c9; clear c9
            have H' := YA H
            clear H
            have p225 : 0 ≤ (x9_1 : Int) := of_decide_eq_true (by first | (with_reducible assumption) | assumption)
            have q225 : x9_1 < (l1.length : Int) := of_decide_eq_true (by first | (with_reducible assumption) | assumption)
            obtain ⟨ad225, e225, hx225_0, hx225_1⟩ := at_T36 HR1.out x9_1 p225 q225
            cases e225
            replace p225 := eq_true p225
            replace q225 := eq_true q225
            have p226 : 0 ≤ (x9_1 : Int) := of_decide_eq_true (by first | (with_reducible assumption) | assumption)
            have q226 : x9_1 < (l1.length : Int) := of_decide_eq_true (by first | (with_reducible assumption) | assumption)
            obtain ⟨ad226, e226, hx226_0, hx226_1⟩ := at_T36 HR1.out x9_1 p226 q226
            obtain rfl : ad225 = ad226 := (by injection e226)
            replace p226 := eq_true p226
            replace q226 := eq_true q226
            go_wp2
            go_roundg k1
            case measure => have := HK1.out; omega
            case rel => exact ⟨(wrap64 (x9_1 + 1)), (by first | rfl | (simp; done) | (simp [*]; done)), H', ⟨by have := HK1.out; omega⟩, by repeat (first | exact Drawn0.refl _ | apply Drawn0.step)⟩
          rw [if_neg c8] at H; have c8b0 : decide (((rd_T36 l1 x9_1).f0) < a0) = false := decide_eq_false c8; clear c8
          have H' := YA H
          clear H
          have p225 : 0 ≤ (x9_1 : Int) := of_decide_eq_true (by first | (with_reducible assumption) | assumption)
          have q225 : x9_1 < (l1.length : Int) := of_decide_eq_true (by first | (with_reducible assumption) | assumption)
          obtain ⟨ad225, e225, hx225_0, hx225_1⟩ := at_T36 HR1.out x9_1 p225 q225
          cases e225
          replace p225 := eq_true p225
          replace q225 := eq_true q225
          have p226 : 0 ≤ (x9_1 : Int) := of_decide_eq_true (by first | (with_reducible assumption) | assumption)
          have q226 : x9_1 < (l1.length : Int) := of_decide_eq_true (by first | (with_reducible assumption) | assumption)
          obtain ⟨ad226, e226, hx226_0, hx226_1⟩ := at_T36 HR1.out x9_1 p226 q226
          obtain rfl : ad225 = ad226 := (by injection e226)
          replace p226 := eq_true p226
          replace q226 := eq_true q226
          go_wp2
          go_roundg k1
          case measure => have := HK1.out; omega
          case rel => exact ⟨(wrap64 (x9_1 + 1)), (by first | rfl | (simp; done) | (simp [*]; done)), H', ⟨by have := HK1.out; omega⟩, by repeat (first | exact Drawn0.refl _ | apply Drawn0.step)⟩
        rw [if_neg c7] at H; have c7b0 : decide (0 ≤ ((rd_T36 l1 x9_1).f0)) = false := decide_eq_false c7; clear c7
        have H' := YA H
        clear H
        have p225 : 0 ≤ (x9_1 : Int) := of_decide_eq_true (by first | (with_reducible assumption) | assumption)
        have q225 : x9_1 < (l1.length : Int) := of_decide_eq_true (by first | (with_reducible assumption) | assumption)
        obtain ⟨ad225, e225, hx225_0, hx225_1⟩ := at_T36 HR1.out x9_1 p225 q225
        cases e225
        replace p225 := eq_true p225
        replace q225 := eq_true q225
        have p226 : 0 ≤ (x9_1 : Int) := of_decide_eq_true (by first | (with_reducible assumption) | assumption)
        have q226 : x9_1 < (l1.length : Int) := of_decide_eq_true (by first | (with_reducible assumption) | assumption)
        obtain ⟨ad226, e226, hx226_0, hx226_1⟩ := at_T36 HR1.out x9_1 p226 q226
        obtain rfl : ad225 = ad226 := (by injection e226)
        replace p226 := eq_true p226
        replace q226 := eq_true q226
        go_wp2
        go_roundg k1
        case measure => have := HK1.out; omega
        case rel => exact ⟨(wrap64 (x9_1 + 1)), (by first | rfl | (simp; done) | (simp [*]; done)), H', ⟨by have := HK1.out; omega⟩, by repeat (first | exact Drawn0.refl _ | apply Drawn0.step)⟩
      rw [if_neg c5] at H
      have c5b0 : decide (x9_1 < (l1.length : Int)) = false := decide_eq_false c5
      clear c5
      obtain rfl := Option.some.inj H
      go_wp2
      go_ret
      exact ⟨by first | rfl | (simp; done) | (simp [*]; done), by repeat (first | exact Drawn0.refl _ | apply Drawn0.step)⟩

end Go.Proofs.Ytbejdbgcfgllhaa.P
