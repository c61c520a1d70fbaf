-- WRITTEN BY xprint.py, a program of this session that drives the kit's printer.
import Derived.Test.YtbejdbgcfgllhaaP0
namespace Go.Proofs.Ytbejdbgcfgllhaa.P
open Go.RowKit Go.Proofs.YtbejdbgcfgllhaaW.PrintWords Go.Proofs.YtbejdbgcfgllhaaW.PrintLast Go.Proofs.YtbejdbgcfgllhaaW.PrintMore
attribute [local go_sem] max2_int min2_int max_two min_two max_three min_three max_four min_four   -- for this text's walks alone
set_option linter.unusedVariables false
set_option linter.unusedSimpArgs false

/-! ### thalwegref25_on: function 26 -/
def thalwegref25_on.f (l0 : List Int) (a1 : Int) : Option (Int) := if a1 < 0 then (some (-1)) else (if a1 ≥ (l0.length : Int) then (some (-1)) else (if 0 ≤ a1 then (if a1 < (l0.length : Int) then (if (rd l0 a1) < 0 then (some (-1)) else (if (rd l0 a1) ≥ (l0.length : Int) then (some (-1)) else (some (rd l0 a1)))) else (none)) else (none)))
set_option maxHeartbeats 8000000 in
set_option maxRecDepth 100000 in
theorem thalwegref25_on.calls (A0 : Option Addr) (c0 : Nat) (l0 : List Int) (a1 : Int) (r : Int) (w : World) (hr0 : Kd.C (Kd.int .i64) w A0 l0.length l0) (hc0 : l0.length ≤ c0) (h : thalwegref25_on.f l0 a1 = some r) :
    Calls Try.prog 26 #[.slice A0 l0.length c0, .int .i64 a1] w fun e w' => e = .returned (.int .i64 r) ∧ Drawn0 w w' := by
  have HR0 := Aside0.mk hr0; have HC0 := Aside0.mk hc0; clear hr0 hc0
  have H : (if a1 < 0 then (some (-1)) else (if a1 ≥ (l0.length : Int) then (some (-1)) else (if 0 ≤ a1 then (if a1 < (l0.length : Int) then (if (rd l0 a1) < 0 then (some (-1)) else (if (rd l0 a1) ≥ (l0.length : Int) then (some (-1)) else (some (rd l0 a1)))) else (none)) else (none)))) = some r := h
  clear h
  by_cases c3 : a1 < 0
  · rw [if_pos c3] at H
    have c3b0 : decide (a1 < 0) = true := decide_eq_true c3; clear c3
    obtain rfl := Option.some.inj H
    go_enter Try.func26, Try.ntmps26
    go_wp2
    go_ret
    exact ⟨by first | rfl | (simp; done) | (simp [*]; done), by repeat (first | exact Drawn0.refl _ | apply Drawn0.step)⟩
  rw [if_neg c3] at H; have c3b0 : decide (a1 < 0) = false := decide_eq_false c3; clear c3
  by_cases c4 : a1 ≥ (l0.length : Int)
  · rw [if_pos c4] at H
    have c4b0 : decide ((l0.length : Int) ≤ a1) = true := decide_eq_true c4
    clear c4
    obtain rfl := Option.some.inj H
    go_enter Try.func26, Try.ntmps26
    go_wp2
    go_ret
    exact ⟨by first | rfl | (simp; done) | (simp [*]; done), by repeat (first | exact Drawn0.refl _ | apply Drawn0.step)⟩
  rw [if_neg c4] at H
  have c4b0 : decide ((l0.length : Int) ≤ a1) = false := decide_eq_false c4
  clear c4
  by_cases c5 : 0 ≤ a1
  rotate_left
  · rw [if_neg c5] at H
    exact absurd H (by simp)
  rw [if_pos c5] at H; have c5b0 : decide (0 ≤ a1) = true := decide_eq_true c5; clear c5
  by_cases c6 : a1 < (l0.length : Int)
  rotate_left
  · rw [if_neg c6] at H
    exact absurd H (by simp)
  rw [if_pos c6] at H
  have c6b0 : decide (a1 < (l0.length : Int)) = true := decide_eq_true c6
  clear c6
  by_cases c7 : (rd l0 a1) < 0
  · rw [if_pos c7] at H
    have c7b0 : decide ((rd l0 a1) < 0) = true := decide_eq_true c7; clear c7
    obtain rfl := Option.some.inj H
    have p251 : 0 ≤ (a1 : Int) := of_decide_eq_true (by first | (with_reducible assumption) | assumption)
    have q251 : a1 < (l0.length : Int) := of_decide_eq_true (by first | (with_reducible assumption) | assumption)
    obtain ⟨ad251, e251, hx251_0⟩ := Kd.at_int HR0.out a1 p251 q251
    cases e251
    replace p251 := eq_true p251
    replace q251 := eq_true q251
    go_enter Try.func26, Try.ntmps26
    go_wp2
    go_ret
    exact ⟨by first | rfl | (simp; done) | (simp [*]; done), by repeat (first | exact Drawn0.refl _ | apply Drawn0.step)⟩
  rw [if_neg c7] at H; have c7b0 : decide ((rd l0 a1) < 0) = false := decide_eq_false c7; clear c7
  by_cases c8 : (rd l0 a1) ≥ (l0.length : Int)
  · rw [if_pos c8] at H
    have c8b0 : decide ((l0.length : Int) ≤ (rd l0 a1)) = true := decide_eq_true c8
    clear c8
    obtain rfl := Option.some.inj H
    have p251 : 0 ≤ (a1 : Int) := of_decide_eq_true (by first | (with_reducible assumption) | assumption)
    have q251 : a1 < (l0.length : Int) := of_decide_eq_true (by first | (with_reducible assumption) | assumption)
    obtain ⟨ad251, e251, hx251_0⟩ := Kd.at_int HR0.out a1 p251 q251
    cases e251
    replace p251 := eq_true p251
    replace q251 := eq_true q251
    have p252 : 0 ≤ (a1 : Int) := of_decide_eq_true (by first | (with_reducible assumption) | assumption)
    have q252 : a1 < (l0.length : Int) := of_decide_eq_true (by first | (with_reducible assumption) | assumption)
    obtain ⟨ad252, e252, hx252_0⟩ := Kd.at_int HR0.out a1 p252 q252
    obtain rfl : ad251 = ad252 := (by injection e252)
    replace p252 := eq_true p252
    replace q252 := eq_true q252
    go_enter Try.func26, Try.ntmps26
    go_wp2
    go_ret
    exact ⟨by first | rfl | (simp; done) | (simp [*]; done), by repeat (first | exact Drawn0.refl _ | apply Drawn0.step)⟩
  rw [if_neg c8] at H
  have c8b0 : decide ((l0.length : Int) ≤ (rd l0 a1)) = false := decide_eq_false c8
  clear c8
  obtain rfl := Option.some.inj H
  have p251 : 0 ≤ (a1 : Int) := of_decide_eq_true (by first | (with_reducible assumption) | assumption)
  have q251 : a1 < (l0.length : Int) := of_decide_eq_true (by first | (with_reducible assumption) | assumption)
  obtain ⟨ad251, e251, hx251_0⟩ := Kd.at_int HR0.out a1 p251 q251
  cases e251
  replace p251 := eq_true p251
  replace q251 := eq_true q251
  have p252 : 0 ≤ (a1 : Int) := of_decide_eq_true (by first | (with_reducible assumption) | assumption)
  have q252 : a1 < (l0.length : Int) := of_decide_eq_true (by first | (with_reducible assumption) | assumption)
  obtain ⟨ad252, e252, hx252_0⟩ := Kd.at_int HR0.out a1 p252 q252
  obtain rfl : ad251 = ad252 := (by injection e252)
  replace p252 := eq_true p252
  replace q252 := eq_true q252
  have p253 : 0 ≤ (a1 : Int) := of_decide_eq_true (by first | (with_reducible assumption) | assumption)
  have q253 : a1 < (l0.length : Int) := of_decide_eq_true (by first | (with_reducible assumption) | assumption)
  obtain ⟨ad253, e253, hx253_0⟩ := Kd.at_int HR0.out a1 p253 q253
  obtain rfl : ad251 = ad253 := (by injection e253)
  replace p253 := eq_true p253
  replace q253 := eq_true q253
  go_enter Try.func26, Try.ntmps26
  go_wp2
  go_ret
  exact ⟨by first | rfl | (simp; done) | (simp [*]; done), by repeat (first | exact Drawn0.refl _ | apply Drawn0.step)⟩

end Go.Proofs.Ytbejdbgcfgllhaa.P
