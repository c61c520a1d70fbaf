/- The statement BatchPacks, proved of the given program; it has no conditions. (Of many texts laid together) -/
import Derived.Test.YtfigbjjaffkidaaXBatchPacksWWords
import Derived.Test.YtfigbjjaffkidaaXBatchPacksWMore
import Derived.ProofKit
import Derived.OpenShut
import Derived.ChangeSame
import Derived.ChangeOld
import Derived.Deep.Slices
import Derived.Deep.Fields
import Derived.Test.YtfigbjjaffkidaaRows
import Derived.WalkKit
import Derived.ShutString
import Derived.Below
import Derived.SizedLaws
import Derived.Test.YtfigbjjaffkidaaXBatchPacksa
import Derived.Test.YtfigbjjaffkidaaXBatchPacksb
import Derived.Test.YtfigbjjaffkidaaXBatchPacksc
import Derived.Test.YtfigbjjaffkidaaXBatchPacksd
set_option linter.unusedVariables false
set_option linter.unusedSimpArgs false
namespace Go.Proofs.Ytfigbjjaffkidaa.P
open Go.RowKit YtfigbjjaffkidaaW.PrintWords YtfigbjjaffkidaaW.PrintLast YtfigbjjaffkidaaW.PrintMore
open YtfigbjjaffkidaaW.PrintWords renaming below_alloc → YA, pw_below_drewN → YB, below_drew1 → YC, below_step → YD, below_size → YE
open YtfigbjjaffkidaaW.PrintWords.Aside0 renaming mk → YF
open List renaming map_toArray → YG, length_take → YH, length_drop → YI
attribute [local go_sem] max2_int min2_int max_two min_two max_three min_three max_four min_four   -- for this text's walks alone
mutual
def thalwegref05_Pack.j0 : Nat → List (S45) → Int → Int → Bool → Option ((List (S24)) × Int)
  | 0, _, _, _, _ => none
  | k + 1, x0, x1, x2, x22 => if x22 = true then (some (([] : List (S24)), 1)) else (if (x0.length : Int) > 1024 then (some (([] : List (S24)), 2)) else ((thalwegref03_Left.f x1).bind fun t380 => (thalwegref05_Pack.l0 k x0 x2 ([] : List (S24)) t380 0)))
def thalwegref05_Pack.l0 : Nat → List (S45) → Int → List (S24) → Int → Int → Option ((List (S24)) × Int)
  | 0, _, _, _, _, _ => none
  | k + 1, x0, x2, x8, x9, x10 => if x10 < (x0.length : Int) then (thalwegref05_Pack.l1 k x0 x2 x8 x9 x10 (wrap64 (x10 + 1))) else (some (x8, 0))
def thalwegref05_Pack.l1 : Nat → List (S45) → Int → List (S24) → Int → Int → Int → Option ((List (S24)) × Int)
  | 0, _, _, _, _, _, _ => none
  | k + 1, x0, x2, x8, x9, x10, x11 => if x11 < (x0.length : Int) then (if (wrap64 (x11 - x10)) < 32 then (if 0 ≤ x10 then (if x10 ≤ (wrap64 (x11 + 1)) then (if (wrap64 (x11 + 1)) ≤ (x0.length : Int) then ((thalwegref05_size.f k ((x0.take ((wrap64 (x11 + 1)) : Int).toNat).drop (x10 : Int).toNat)).bind fun t385 => (if t385 ≤ x2 then (thalwegref05_Pack.l1 k x0 x2 x8 x9 x10 (wrap64 (x11 + 1))) else (if x10 ≤ x11 then (if x11 ≤ (x0.length : Int) then ((thalwegref04_Own.f ((x0.take (x11 : Int).toNat).drop (x10 : Int).toNat)).bind fun t390 => (if x8.length < 4398046511104 then ((thalwegref03_Next.f x9).bind fun t396 => (thalwegref05_Pack.l0 k x0 x2 (x8 ++ [(⟨x9, t390⟩ : S24)]) t396 x11)) else (none))) else (none)) else (none)))) else (none)) else (none)) else (none)) else (if 0 ≤ x10 then (if x10 ≤ x11 then (if x11 ≤ (x0.length : Int) then ((thalwegref04_Own.f ((x0.take (x11 : Int).toNat).drop (x10 : Int).toNat)).bind fun t401 => (if x8.length < 4398046511104 then ((thalwegref03_Next.f x9).bind fun t407 => (thalwegref05_Pack.l0 k x0 x2 (x8 ++ [(⟨x9, t401⟩ : S24)]) t407 x11)) else (none))) else (none)) else (none)) else (none))) else (if 0 ≤ x10 then (if x10 ≤ x11 then (if x11 ≤ (x0.length : Int) then ((thalwegref04_Own.f ((x0.take (x11 : Int).toNat).drop (x10 : Int).toNat)).bind fun t412 => (if x8.length < 4398046511104 then ((thalwegref03_Next.f x9).bind fun t418 => (thalwegref05_Pack.l0 k x0 x2 (x8 ++ [(⟨x9, t412⟩ : S24)]) t418 x11)) else (none))) else (none)) else (none)) else (none))
end
def thalwegref05_Pack.f (k : Nat) (l0 : List (S45)) (a1 : Int) (a2 : Int) : Option ((List (S24)) × Int) := if a2 < 40 then (thalwegref05_Pack.j0 k l0 a1 a2 true) else (if a2 > 512 then (thalwegref05_Pack.j0 k l0 a1 a2 true) else ((thalwegref05_size.f k l0).bind fun t379 => (thalwegref05_Pack.j0 k l0 a1 a2 (decide (t379 < 0)))))
set_option maxHeartbeats 8000000 in
set_option maxRecDepth 100000 in
theorem thalwegref05_Pack.calls (k : Nat) (A0 : Option Addr) (c0 : Nat) (l0 : List (S45)) (a1 : Int) (a2 : Int) (r1 : List (S24)) (r2 : Int) (w : World) (hr0 : Kd.C k45 w A0 l0.length l0) (hc0 : l0.length ≤ c0) (h : thalwegref05_Pack.f k l0 a1 a2 = some (r1, r2)) :
    Calls Try.prog 16 #[.slice A0 l0.length c0, .int .i64 a1, .int .i64 a2] w fun e w' => ∃ v0_ : Value, e = .returned (.tuple #[v0_, .int .i64 r2]) ∧ Kd.S k24 24 w' w.heap.size (fun _ => True) v0_ r1 ∧ Below w.heap.size w w' := by
  have hu24 := Try.underlying24
  have HR0 := YF hr0; have HC0 := YF hc0; clear hr0 hc0
  have HB := YF (Below.refl w.heap.size w)
  have H : (if a2 < 40 then (thalwegref05_Pack.j0 k l0 a1 a2 true) else (if a2 > 512 then (thalwegref05_Pack.j0 k l0 a1 a2 true) else ((thalwegref05_size.f k l0).bind fun t379 => (thalwegref05_Pack.j0 k l0 a1 a2 (decide (t379 < 0)))))) = some (r1, r2) := h
  clear h; have HC4 := YF H; clear H
  go_enter Try.func16, Try.ntmps16
  go_upto_region 1 with (fail)
  go_cut [22] (fun v22 wc => ∃ (kq : Nat) (x22_3 : Bool), v22 = .bool x22_3 ∧ Aside0 (thalwegref05_Pack.j0 kq l0 a1 a2 x22_3 = some (r1, r2)) ∧ Aside0 (kq ≤ k) ∧ Aside0 (Below w.heap.size w wc))
  case first =>
    have H := HC4.out
    clear HC4
    by_cases c5 : a2 < 40
    · rw [if_pos c5] at H
      have c5b0 : decide (a2 < 40) = true := decide_eq_true c5; clear c5
      (first | rw [c5b0] | (simp only [i64_w, i32_w]; rw [c5b0]) | skip)
      have H' := YF H
      clear H
      go_wp2
      go_meet
      case rel => exact ⟨_, (true), (by first | rfl | (simp; done) | (simp [*]; done)), H', ⟨by first | omega | exact Nat.le_refl _⟩, ⟨by repeat (first | (with_reducible first | exact HB.out | apply YA | apply YB | apply YC) | exact HB.out)⟩⟩
    rw [if_neg c5] at H; have c5b0 : decide (a2 < 40) = false := decide_eq_false c5; clear c5
    (first | rw [c5b0] | (simp only [i64_w, i32_w]; rw [c5b0]) | skip)
    by_cases c6 : a2 > 512
    · rw [if_pos c6] at H
      have c6b0 : decide (512 < a2) = true := decide_eq_true c6; clear c6
      have H' := YF H
      clear H
      go_wp2
      go_meet
      case rel => exact ⟨_, (true), (by first | rfl | (simp; done) | (simp [*]; done)), H', ⟨by first | omega | exact Nat.le_refl _⟩, ⟨by repeat (first | (with_reducible first | exact HB.out | apply YA | apply YB | apply YC) | exact HB.out)⟩⟩
    rw [if_neg c6] at H; have c6b0 : decide (512 < a2) = false := decide_eq_false c6; clear c6; replace H := Option.bind_eq_some_iff.mp H; obtain ⟨t379, A70, H⟩ := H
    replace H : (thalwegref05_Pack.j0 k l0 a1 a2 (decide (t379 < 0))) = some (r1, r2) := H
    have A7 := YF A70; clear A70
    have H' := YF H
    clear H
    go_wp2_with (first | (go_at_call 28; (with_reducible refine (thalwegref05_size.calls k _ _ l0 t379 _ ?side1 ?side2 A7.out).mono ?_); (case side1 => repeat (first | exact (Kd.C_below HR0.out HB.out) | (with_reducible refine Kd.C_alloc ?_ _) | (with_reducible refine Kd.C_drewN ?_ _) | (with_reducible refine Kd.C_drew ?_))); (case side2 => exact HC0.out); rintro e w8 ⟨rfl, hb⟩; have n0_ := YF (YD (by repeat (first | (with_reducible first | exact HB.out | apply YA | apply YB | apply YC) | exact HB.out)) hb); clear HB; have HB := n0_; clear n0_; (try clear hb); (try clear hb2); (try clear hk); (try clear hi)))
    go_meet
    case rel => exact ⟨_, (decide (t379 < 0)), (by first | rfl | (simp; done) | (simp [*]; done)), H', ⟨by first | omega | exact Nat.le_refl _⟩, ⟨by repeat (first | (with_reducible first | exact HB.out | apply YA | apply YB | apply YC) | exact HB.out)⟩⟩
  case rest =>
    clear HC4
    try clear c1; try clear p2
    try clear c5; try clear c5b0
    try clear c6; try clear c6b0
    obtain ⟨kq, x22_3, rfl, HA, HJ3, HB⟩ := hcut
    cases kq with
    | zero => exact absurd HA.out (by simp [thalwegref05_Pack.j0])
    | succ kj3 =>
      have H := HA.out
      clear HA
      simp only [thalwegref05_Pack.j0] at H
      by_cases c9 : x22_3 = true
      · subst c9
        have H1 : (some (([] : List (S24)), 1)) = some (r1, r2) := by rw [if_pos rfl] at H; exact H
        clear H
        have H := H1
        clear H1
        simp only [Option.some.injEq, Prod.mk.injEq] at H
        obtain ⟨rfl, rfl⟩ := H
        go_wp2
        go_ret2
        exact ⟨_, by first | rfl | (simp [errW_none, errW_some] <;> rfl) | (simp [*, errW_none, errW_some] <;> rfl), by first | exact Kd.S_nil _ _ _ _ _ | exact Kd.N_nil _ _ _ _ _ | exact Kd.V_nil _ _ _ _ _ | exact Kd.Q_nil _ _ _ _ _ | exact Kd.R_nil _ _ _ _ _, by repeat (first | (with_reducible first | exact HB.out | apply YA | apply YB | apply YC) | exact HB.out)⟩
      replace c9 := Bool.eq_false_iff.mpr c9
      subst c9
      have H1 : (if (l0.length : Int) > 1024 then (some (([] : List (S24)), 2)) else ((thalwegref03_Left.f a1).bind fun t380 => (thalwegref05_Pack.l0 kj3 l0 a2 ([] : List (S24)) t380 0))) = some (r1, r2) := by rw [if_neg (show ¬ (false = true) by decide)] at H; exact H
      clear H
      have H := H1
      clear H1
      by_cases c10 : (l0.length : Int) > 1024
      · rw [if_pos c10] at H
        have c10b0 : decide (1024 < (l0.length : Int)) = true := decide_eq_true c10
        have c10b1 : decide (1024 < l0.length) = true := decide_eq_true (by omega)
        clear c10
        simp only [Option.some.injEq, Prod.mk.injEq] at H
        obtain ⟨rfl, rfl⟩ := H
        go_wp2
        go_ret2
        exact ⟨_, by first | rfl | (simp [errW_none, errW_some] <;> rfl) | (simp [*, errW_none, errW_some] <;> rfl), by first | exact Kd.S_nil _ _ _ _ _ | exact Kd.N_nil _ _ _ _ _ | exact Kd.V_nil _ _ _ _ _ | exact Kd.Q_nil _ _ _ _ _ | exact Kd.R_nil _ _ _ _ _, by repeat (first | (with_reducible first | exact HB.out | apply YA | apply YB | apply YC) | exact HB.out)⟩
      rw [if_neg c10] at H
      have c10b0 : decide (1024 < (l0.length : Int)) = false := decide_eq_false c10
      have c10b1 : decide (1024 < l0.length) = false := decide_eq_false (by omega)
      clear c10; replace H := Option.bind_eq_some_iff.mp H; obtain ⟨t380, A110, H⟩ := H
      replace H : (thalwegref05_Pack.l0 kj3 l0 a2 ([] : List (S24)) t380 0) = some (r1, r2) := H
      have A11 := YF A110; clear A110
      have H' := YF H
      clear H
      go_wp2_with (first | ((with_reducible refine gate_callee (f := 29) rfl ?_); refine goesL_ (some 27) rfl rfl Try.func29 (by kernel_rfl) rfl #[.int .i64 a1] rfl (by (try simp only [YG, List.map_cons, List.map_nil]); first | done | rfl | (simp only [YI, YH]; rfl)) ?_; (with_reducible refine (thalwegref03_Left.calls a1 t380 _ A11.out).mono ?_); rintro e w' ⟨rfl, ⟨nd, rfl⟩⟩; refine ⟨_, rfl, ?_⟩))
      go_loopg [8, 9, 10] kj3 (fun kq v8 v9 v10 w' => ∃ (x8_2 : List (S24)) (x9_2 : Int) (x10_2 : Int), v9 = .int .i64 x9_2 ∧ v10 = .int .i64 x10_2 ∧ Aside0 (thalwegref05_Pack.l0 kq l0 a2 x8_2 x9_2 x10_2 = some (r1, r2)) ∧ Aside0 (kq ≤ kj3) ∧ Aside0 (Kd.S k24 24 w' w.heap.size (fun _ => True) v8 x8_2) ∧ Aside0 (Below w.heap.size w w'))
      case atStart => exact ⟨(([] : List (S24))), (t380), (0), (by first | rfl | (simp; done) | (simp [*]; done)), (by first | rfl | (simp; done) | (simp [*]; done)), H', ⟨Nat.le_refl _⟩, ⟨by first | exact Kd.S_nil _ _ _ _ _ | exact Kd.N_nil _ _ _ _ _ | exact Kd.V_nil _ _ _ _ _ | exact Kd.Q_nil _ _ _ _ _ | exact Kd.R_nil _ _ _ _ _⟩, ⟨by repeat (first | (with_reducible first | exact HB.out | apply YA | apply YB | apply YC) | exact HB.out)⟩⟩
      case round =>
        clear H'
        try clear c1; try clear c2
        try clear p2; try clear c5
        try clear c5b0; try clear c6
        try clear c6b0; try clear c9
        try clear c10; try clear c10b0
        try clear c10b1; try clear p2
        obtain ⟨x8_2, x9_2, x10_2, rfl, rfl, HA, HK2, HO_8, HB⟩ := hrel
        cases gk with
        | zero => exact absurd HA.out (by simp [thalwegref05_Pack.l0])
        | succ k2 =>
          have H := HA.out
          clear HA
          simp only [thalwegref05_Pack.l0] at H
          by_cases c12 : x10_2 < (l0.length : Int)
          · rw [if_pos c12] at H
            have c12b0 : decide (x10_2 < (l0.length : Int)) = true := decide_eq_true c12
            clear c12
            have H' := YF H
            clear H
            go_wp2
            go_loopg [11] k2 (fun kq v11 w' => ∃ (x11_3 : Int), v11 = .int .i64 x11_3 ∧ Aside0 (thalwegref05_Pack.l1 kq l0 a2 x8_2 x9_2 x10_2 x11_3 = some (r1, r2)) ∧ Aside0 (kq ≤ k2) ∧ Aside0 (Kd.S k24 24 w' w.heap.size (fun _ => True) u8 x8_2) ∧ Aside0 (Below w.heap.size w w'))
            case atStart => exact ⟨(wrap64 (x10_2 + 1)), (by first | rfl | (simp; done) | (simp [*]; done)), H', ⟨Nat.le_refl _⟩, ⟨by (with_reducible repeat (first | apply Kd.S_alloc | apply Kd.S_drewN | apply Kd.S_drew)); exact HO_8.out⟩, ⟨by repeat (first | (with_reducible first | exact HB.out | apply YA | apply YB | apply YC) | exact HB.out)⟩⟩
            case round =>
              clear H'
              try clear c1; try clear c2
              try clear p2; try clear c5
              try clear c5b0; try clear c6
              try clear c6b0; try clear p6
              try clear c9; try clear c10
              try clear c10b0; try clear c10b1
              try clear c12; try clear c12b0; try clear p2
              obtain ⟨x11_3, rfl, HA, HK3, HO_8, HB⟩ := hrel
              cases gk with
              | zero => exact absurd HA.out (by simp [thalwegref05_Pack.l1])
              | succ k3 =>
                have H := HA.out
                clear HA
                simp only [thalwegref05_Pack.l1] at H
                by_cases c13 : x11_3 < (l0.length : Int)
                · rw [if_pos c13] at H
                  have c13b0 : decide (x11_3 < (l0.length : Int)) = true := decide_eq_true c13
                  clear c13
                  by_cases c14 : (wrap64 (x11_3 - x10_2)) < 32
                  · rw [if_pos c14] at H
                    have c14b0 : decide ((wrap64 (x11_3 - x10_2)) < 32) = true := decide_eq_true c14; clear c14
                    by_cases c15 : 0 ≤ x10_2
                    rotate_left
                    · rw [if_neg c15] at H
                      exact absurd H (by simp)
                    rw [if_pos c15] at H
                    have c15b0 := eq_true c15
                    have c15b1 : decide (0 ≤ x10_2) = true := decide_eq_true c15; clear c15
                    by_cases c16 : x10_2 ≤ (wrap64 (x11_3 + 1))
                    rotate_left
                    · rw [if_neg c16] at H
                      exact absurd H (by simp)
                    rw [if_pos c16] at H
                    have c16b0 := eq_true c16
                    have c16b1 : decide (x10_2 ≤ (wrap64 (x11_3 + 1))) = true := decide_eq_true c16
                    by_cases c17 : (wrap64 (x11_3 + 1)) ≤ (l0.length : Int)
                    rotate_left
                    · rw [if_neg c17] at H
                      exact absurd H (by simp)
                    rw [if_pos c17] at H
                    have c17b0 := eq_true c17
                    have c17b1 : decide ((wrap64 (x11_3 + 1)) ≤ (l0.length : Int)) = true := decide_eq_true c17
                    obtain ⟨y381, hy381⟩ : ∃ y_ : List (S45), y_ = ((l0.take ((wrap64 (x11_3 + 1)) : Int).toNat).drop (x10_2 : Int).toNat) := ⟨_, rfl⟩
                    replace H : ((thalwegref05_size.f k3 y381).bind fun t385 => (if t385 ≤ a2 then (thalwegref05_Pack.l1 k3 l0 a2 x8_2 x9_2 x10_2 (wrap64 (x11_3 + 1))) else (if x10_2 ≤ x11_3 then (if x11_3 ≤ (l0.length : Int) then ((thalwegref04_Own.f ((l0.take (x11_3 : Int).toNat).drop (x10_2 : Int).toNat)).bind fun t390 => (if x8_2.length < 4398046511104 then ((thalwegref03_Next.f x9_2).bind fun t396 => (thalwegref05_Pack.l0 k3 l0 a2 (x8_2 ++ [(⟨x9_2, t390⟩ : S24)]) t396 x11_3)) else (none))) else (none)) else (none)))) = some (r1, r2) := by first | (rw [hy381]; with_reducible exact H) | (have H2_ := (Option.bind_some _ _).symm.trans H; rw [hy381]; with_reducible exact H2_) | (have H2_ := (Option.bind_some _ _).symm.trans H; with_reducible exact H2_) | with_reducible exact H | (rw [hy381]; exact H) | exact H
                    have Ny381 := YF hy381; clear hy381; replace H := Option.bind_eq_some_iff.mp H; obtain ⟨t385, A180, H⟩ := H
                    replace H : (if t385 ≤ a2 then (thalwegref05_Pack.l1 k3 l0 a2 x8_2 x9_2 x10_2 (wrap64 (x11_3 + 1))) else (if x10_2 ≤ x11_3 then (if x11_3 ≤ (l0.length : Int) then ((thalwegref04_Own.f ((l0.take (x11_3 : Int).toNat).drop (x10_2 : Int).toNat)).bind fun t390 => (if x8_2.length < 4398046511104 then ((thalwegref03_Next.f x9_2).bind fun t396 => (thalwegref05_Pack.l0 k3 l0 a2 (x8_2 ++ [(⟨x9_2, t390⟩ : S24)]) t396 x11_3)) else (none))) else (none)) else (none))) = some (r1, r2) := H
                    have A18 := YF A180; clear A180
                    by_cases c19 : t385 ≤ a2
                    · rw [if_pos c19] at H
                      have c19b0 : decide (t385 ≤ a2) = true := decide_eq_true c19; clear c19
                      have H' := YF H
                      clear H
                      have q20 : ((wrap64 (x11_3 + 1)) : Int) ≤ ((l0.length : Int) : Int) := of_decide_eq_true (by first | (with_reducible assumption) | assumption)
                      obtain ⟨i020, hi020, _, hsz20, _⟩ := info_parts info45
                      have hroom20 : l0.length ≤ c0 := HC0.out
                      have hC20 : Kd.C k45 _ A0 l0.length l0 := HR0.out
                      have ql20 : (x10_2 : Int) ≤ ((wrap64 (x11_3 + 1)) : Int) := of_decide_eq_true (by first | (with_reducible assumption) | assumption)
                      have q020 : (0 : Int) ≤ (x10_2 : Int) := of_decide_eq_true (by first | (with_reducible assumption) | assumption)
                      have hcut20 := cut_mid (P := Try.prog) 22 45 .i64 .i64 Try.underlying22 hi020 12 hsz20 A0 l0.length c0 x10_2 (wrap64 (x11_3 + 1)) q020 ql20 q20 hroom20
                      have hr20 := Kd.C_mid (lo := (x10_2 : Int).toNat) (hi := ((wrap64 (x11_3 + 1)) : Int).toNat) (c := c0) hC20 (by omega) (by omega) hroom20
                      obtain ⟨A20, hA20⟩ : ∃ A1, A1 = (if c0 = (x10_2 : Int).toNat then A0 else (A0 : Option Addr).map (·.add ((x10_2 : Int).toNat * 12))) := ⟨_, rfl⟩
                      obtain ⟨c20, hc20⟩ : ∃ c1, c1 = c0 - (x10_2 : Int).toNat := ⟨_, rfl⟩
                      have hy20 : y381.length = ((wrap64 (x11_3 + 1)) : Int).toNat - (x10_2 : Int).toNat := (by rw [Ny381.out, YI, YH] <;> omega)
                      rw [show ((l0).take ((wrap64 (x11_3 + 1)) : Int).toNat).drop (x10_2 : Int).toNat = y381 from Ny381.out.symm] at hr20
                      replace hr20 : Kd.C k45 _ A20 y381.length y381 := (by rw [hA20]; exact hr20)
                      rw [← hy20, ← hA20, ← hc20] at hcut20
                      have HR384 := YF hr20
                      have HC384 := YF (show y381.length ≤ c20 from by rw [hy20, hc20]; exact Nat.sub_le_sub_right (Nat.le_trans (by omega) hroom20) _)
                      clear hr20 hC20 hroom20 hi020 hsz20 hc20; have KY20 := YF hy20; have KA20 := YF hA20; clear hy20 hA20
                      replace q20 := eq_true q20
                      go_wp2_with (first | (go_at_call 28; (with_reducible refine (thalwegref05_size.calls k3 _ _ y381 t385 _ ?side1 ?side2 A18.out).mono ?_); (case side1 => repeat (first | exact (Kd.C_below HR384.out HB.out) | (with_reducible refine Kd.C_alloc ?_ _) | (with_reducible refine Kd.C_drewN ?_ _) | (with_reducible refine Kd.C_drew ?_))); (case side2 => exact HC384.out); rintro e w21 ⟨rfl, hb⟩; have n0_ := YF (Kd.S_below (by (with_reducible repeat (first | apply Kd.S_alloc | apply Kd.S_drewN | apply Kd.S_drew)); exact HO_8.out) hb); have n1_ := YF (YD (by repeat (first | (with_reducible first | exact HB.out | apply YA | apply YB | apply YC) | exact HB.out)) hb); clear HO_8; clear HB; have HO_8 := n0_; have HB := n1_; clear n0_ n1_; (try clear hb); (try clear hb2); (try clear hk); (try clear hi)))
                      go_roundg k3
                      case measure => have := HJ3.out; have := HK2.out; have := HK3.out; omega
                      case rel => exact ⟨(wrap64 (x11_3 + 1)), (by first | rfl | (simp; done) | (simp [*]; done)), H', ⟨by have := HJ3.out; have := HK2.out; have := HK3.out; omega⟩, ⟨by (with_reducible repeat (first | apply Kd.S_alloc | apply Kd.S_drewN | apply Kd.S_drew)); exact HO_8.out⟩, ⟨by repeat (first | (with_reducible first | exact HB.out | apply YA | apply YB | apply YC) | exact HB.out)⟩⟩
                    rw [if_neg c19] at H; have c19b0 : decide (t385 ≤ a2) = false := decide_eq_false c19; clear c19
                    have c22b0 := eq_true (of_decide_eq_true (by first | (with_reducible assumption) | assumption) : 0 ≤ x10_2)
                    by_cases c23 : x10_2 ≤ x11_3
                    rotate_left
                    · rw [if_neg c23] at H
                      exact absurd H (by simp)
                    rw [if_pos c23] at H
                    have c23b0 := eq_true c23
                    have c23b1 : decide (x10_2 ≤ x11_3) = true := decide_eq_true c23; clear c23
                    by_cases c24 : x11_3 ≤ (l0.length : Int)
                    rotate_left
                    · rw [if_neg c24] at H
                      exact absurd H (by simp)
                    rw [if_pos c24] at H
                    have c24b0 := eq_true c24
                    have c24b1 : decide (x11_3 ≤ (l0.length : Int)) = true := decide_eq_true c24
                    clear c24
                    obtain ⟨y386, hy386⟩ : ∃ y_ : List (S45), y_ = ((l0.take (x11_3 : Int).toNat).drop (x10_2 : Int).toNat) := ⟨_, rfl⟩
                    replace H : ((thalwegref04_Own.f y386).bind fun t390 => (if x8_2.length < 4398046511104 then ((thalwegref03_Next.f x9_2).bind fun t396 => (thalwegref05_Pack.l0 k3 l0 a2 (x8_2 ++ [(⟨x9_2, t390⟩ : S24)]) t396 x11_3)) else (none))) = some (r1, r2) := by first | (rw [hy386]; with_reducible exact H) | (have H2_ := (Option.bind_some _ _).symm.trans H; rw [hy386]; with_reducible exact H2_) | (have H2_ := (Option.bind_some _ _).symm.trans H; with_reducible exact H2_) | with_reducible exact H | (rw [hy386]; exact H) | exact H
                    have Ny386 := YF hy386; clear hy386; replace H := Option.bind_eq_some_iff.mp H; obtain ⟨t390, A250, H⟩ := H
                    replace H : (if x8_2.length < 4398046511104 then ((thalwegref03_Next.f x9_2).bind fun t396 => (thalwegref05_Pack.l0 k3 l0 a2 (x8_2 ++ [(⟨x9_2, t390⟩ : S24)]) t396 x11_3)) else (none)) = some (r1, r2) := H
                    have A25 := YF A250; clear A250
                    by_cases c26 : x8_2.length < 4398046511104
                    rotate_left
                    · rw [if_neg c26] at H
                      exact absurd H (by simp)
                    rw [if_pos c26] at H; have LMc26 := YF c26; clear c26
                    obtain ⟨y393, hy393⟩ : ∃ y_ : List (S24), y_ = (x8_2 ++ [(⟨x9_2, t390⟩ : S24)]) := ⟨_, rfl⟩
                    replace H : ((thalwegref03_Next.f x9_2).bind fun t396 => (thalwegref05_Pack.l0 k3 l0 a2 y393 t396 x11_3)) = some (r1, r2) := by first | (rw [hy393]; with_reducible exact H) | (have H2_ := (Option.bind_some _ _).symm.trans H; rw [hy393]; with_reducible exact H2_) | (have H2_ := (Option.bind_some _ _).symm.trans H; with_reducible exact H2_) | with_reducible exact H | (rw [hy393]; exact H) | exact H
                    have Ny393 := YF hy393; clear hy393; replace H := Option.bind_eq_some_iff.mp H; obtain ⟨t396, A270, H⟩ := H
                    replace H : (thalwegref05_Pack.l0 k3 l0 a2 y393 t396 x11_3) = some (r1, r2) := H
                    have A27 := YF A270; clear A270
                    have H' := YF H
                    clear H
                    have q28 : ((wrap64 (x11_3 + 1)) : Int) ≤ ((l0.length : Int) : Int) := of_decide_eq_true (by first | (with_reducible assumption) | assumption)
                    obtain ⟨i028, hi028, _, hsz28, _⟩ := info_parts info45
                    have hroom28 : l0.length ≤ c0 := HC0.out
                    have hC28 : Kd.C k45 _ A0 l0.length l0 := HR0.out
                    have ql28 : (x10_2 : Int) ≤ ((wrap64 (x11_3 + 1)) : Int) := of_decide_eq_true (by first | (with_reducible assumption) | assumption)
                    have q028 : (0 : Int) ≤ (x10_2 : Int) := of_decide_eq_true (by first | (with_reducible assumption) | assumption)
                    have hcut28 := cut_mid (P := Try.prog) 22 45 .i64 .i64 Try.underlying22 hi028 12 hsz28 A0 l0.length c0 x10_2 (wrap64 (x11_3 + 1)) q028 ql28 q28 hroom28
                    have hr28 := Kd.C_mid (lo := (x10_2 : Int).toNat) (hi := ((wrap64 (x11_3 + 1)) : Int).toNat) (c := c0) hC28 (by omega) (by omega) hroom28
                    obtain ⟨A28, hA28⟩ : ∃ A1, A1 = (if c0 = (x10_2 : Int).toNat then A0 else (A0 : Option Addr).map (·.add ((x10_2 : Int).toNat * 12))) := ⟨_, rfl⟩
                    obtain ⟨c28, hc28⟩ : ∃ c1, c1 = c0 - (x10_2 : Int).toNat := ⟨_, rfl⟩
                    have hy28 : y381.length = ((wrap64 (x11_3 + 1)) : Int).toNat - (x10_2 : Int).toNat := (by rw [Ny381.out, YI, YH] <;> omega)
                    rw [show ((l0).take ((wrap64 (x11_3 + 1)) : Int).toNat).drop (x10_2 : Int).toNat = y381 from Ny381.out.symm] at hr28
                    replace hr28 : Kd.C k45 _ A28 y381.length y381 := (by rw [hA28]; exact hr28)
                    rw [← hy28, ← hA28, ← hc28] at hcut28
                    have HR384 := YF hr28
                    have HC384 := YF (show y381.length ≤ c28 from by rw [hy28, hc28]; exact Nat.sub_le_sub_right (Nat.le_trans (by omega) hroom28) _)
                    clear hr28 hC28 hroom28 hi028 hsz28 hc28; have KY28 := YF hy28; have KA28 := YF hA28; clear hy28 hA28
                    replace q28 := eq_true q28
                    go_wp2_with (first | (go_at_call 28; (with_reducible refine (thalwegref05_size.calls k3 _ _ y381 t385 _ ?side1 ?side2 A18.out).mono ?_); (case side1 => repeat (first | exact (Kd.C_below HR384.out HB.out) | (with_reducible refine Kd.C_alloc ?_ _) | (with_reducible refine Kd.C_drewN ?_ _) | (with_reducible refine Kd.C_drew ?_))); (case side2 => exact HC384.out); rintro e w29 ⟨rfl, hb⟩; have n0_ := YF (Kd.S_below (by (with_reducible repeat (first | apply Kd.S_alloc | apply Kd.S_drewN | apply Kd.S_drew)); exact HO_8.out) hb); have n1_ := YF (YD (by repeat (first | (with_reducible first | exact HB.out | apply YA | apply YB | apply YC) | exact HB.out)) hb); clear HO_8; clear HB; have HO_8 := n0_; have HB := n1_; clear n0_ n1_; (try clear hb); (try clear hb2); (try clear hk); (try clear hi); have q30 : (x11_3 : Int) ≤ ((l0.length : Int) : Int) := of_decide_eq_true (by first | (with_reducible assumption) | assumption); obtain ⟨i030, hi030, _, hsz30, _⟩ := info_parts info45; have hroom30 : l0.length ≤ c0 := HC0.out; have hC30 : Kd.C k45 _ A0 l0.length l0 := HR0.out; have ql30 : (x10_2 : Int) ≤ (x11_3 : Int) := of_decide_eq_true (by first | (with_reducible assumption) | assumption); have q030 : (0 : Int) ≤ (x10_2 : Int) := of_decide_eq_true (by first | (with_reducible assumption) | assumption); have hcut30 := cut_mid (P := Try.prog) 22 45 .i64 .i64 Try.underlying22 hi030 12 hsz30 A0 l0.length c0 x10_2 x11_3 q030 ql30 q30 hroom30; have hr30 := Kd.C_mid (lo := (x10_2 : Int).toNat) (hi := (x11_3 : Int).toNat) (c := c0) hC30 (by omega) (by omega) hroom30; obtain ⟨A30, hA30⟩ : ∃ A1, A1 = (if c0 = (x10_2 : Int).toNat then A0 else (A0 : Option Addr).map (·.add ((x10_2 : Int).toNat * 12))) := ⟨_, rfl⟩; obtain ⟨c30, hc30⟩ : ∃ c1, c1 = c0 - (x10_2 : Int).toNat := ⟨_, rfl⟩; have hy30 : y386.length = (x11_3 : Int).toNat - (x10_2 : Int).toNat := (by rw [Ny386.out, YI, YH] <;> omega); rw [show ((l0).take (x11_3 : Int).toNat).drop (x10_2 : Int).toNat = y386 from Ny386.out.symm] at hr30; replace hr30 : Kd.C k45 _ A30 y386.length y386 := (by rw [hA30]; exact hr30); rw [← hy30, ← hA30, ← hc30] at hcut30; have HR389 := YF hr30; have HC389 := YF (show y386.length ≤ c30 from by rw [hy30, hc30]; exact Nat.sub_le_sub_right (Nat.le_trans (by omega) hroom30) _); clear hr30 hC30 hroom30 hi030 hsz30 hc30; have KY30 := YF hy30; have KA30 := YF hA30; clear hy30 hA30; replace q30 := eq_true q30) | ((with_reducible refine gate_callee (f := 8) rfl ?_); refine goesL_ (some 62) rfl rfl Try.func8 (by kernel_rfl) rfl #[.slice A30 y386.length c30] rfl (by (try simp only [YG, List.map_cons, List.map_nil]); first | done | rfl | (simp only [YI, YH]; rfl)) ?_; (with_reducible refine (thalwegref04_Own.calls _ _ y386 t390 _ ?side1 ?side2 A25.out).mono ?_); (case side1 => repeat (first | exact (Kd.C_below HR389.out HB.out) | (with_reducible refine Kd.C_alloc ?_ _) | (with_reducible refine Kd.C_drewN ?_ _) | (with_reducible refine Kd.C_drew ?_))); (case side2 => exact HC389.out); rintro e w31 ⟨v391, rfl, ho0, hb⟩; refine ⟨_, rfl, ?_⟩; have n0_ := YF (Kd.S_elder' (by (with_reducible repeat (first | apply Kd.S_alloc | apply Kd.S_drewN | apply Kd.S_drew)); exact HO_8.out) (Kd.R_base ho0) hb); have n1_ := YF (Kd.R_lower ho0 (YE (by repeat (first | (with_reducible first | exact HB.out | apply YA | apply YB | apply YC) | exact HB.out)))); have n2_ := YF (YD (by repeat (first | (with_reducible first | exact HB.out | apply YA | apply YB | apply YC) | exact HB.out)) hb); clear HO_8; clear HB; have HO_8 := n0_; have HO392 := n1_; have HB := n2_; clear n0_ n1_ n2_; (try clear hb); (try clear hb2); (try clear hk); (try clear hi); (try clear ho0); obtain ⟨Ao32, co32, eo32⟩ := Kd.R_slice HO392.out; subst eo32) | ((with_reducible refine gate_builtin (b := .append) (xs := #[.tmp 56, .tmp 64]) rfl ?_); at_builtin; refine Kd.S_append k24 (w0 := w) w.heap.size rfl (.tmp 56) (.tmp 64) 34 24 (.agg #[(.int .i64 0), (.slice none 0 0)]) 32 rfl Try.underlying34 info24 rfl (by decide) (by omega) u8 x8_2 (⟨x9_2, t390⟩ : S24) [.int .i64 x9_2, .slice Ao32 t390.length co32] (fun _ => True) (fun k_ => some k_ = (.slice Ao32 t390.length co32 : Value).ownBlock) rfl rfl ?aP (fun k_ hk_ => ((Kd.R_mono (ok' := fun k_ => ((fun _ => True)) k_ ∧ some k_ ≠ (u8 : Value).ownBlock) (Kd.R_apart' (HO392.out) (Kd.S_typed HO_8.out) (by decide)) (fun k_ hk => ⟨trivial, hk.2⟩))).1 k_ hk_.symm) ?aF ?aO ?aB ?aS ?aL ?_; (case aP => exact k24_mkM _ _ _ (⟨x9_2, t390⟩ : S24) (Kd.R_mono (Kd.R_tight rfl (Kd.R_mono (ok' := fun k_ => ((fun _ => True)) k_ ∧ some k_ ≠ (u8 : Value).ownBlock) (Kd.R_apart' (HO392.out) (Kd.S_typed HO_8.out) (by decide)) (fun k_ hk => ⟨trivial, hk.2⟩))) (fun _ h_ => h_))); (case aB => exact (by repeat (first | (with_reducible first | exact HB.out | apply YA | apply YB | apply YC) | exact HB.out))); (case aF => exact (fun _ _ => trivial)); (case aO => exact (by (with_reducible repeat (first | apply Kd.S_alloc | apply Kd.S_drewN | apply Kd.S_drew)); exact Kd.S_mono HO_8.out (fun k_ hk => ⟨trivial, fun e_ => hk.2 e_⟩))); (case aS => exact (YE (by repeat (first | (with_reducible first | exact HB.out | apply YA | apply YB | apply YC) | exact HB.out)))); (case aL => have := LMc26.out; omega); intro v394 w33 ho hb hg hat; rw [← Ny393.out] at ho; have n0_ := YF (hb); have n1_ := YF (ho); clear HB; clear HO_8; clear HO392; have HB := n0_; have HO395 := n1_; clear n0_ n1_; clear ho hb hg hat) | ((with_reducible refine gate_callee (f := 30) rfl ?_); refine goesL_ (some 67) rfl rfl Try.func30 (by kernel_rfl) rfl #[.int .i64 x9_2] rfl (by (try simp only [YG, List.map_cons, List.map_nil]); first | done | rfl | (simp only [YI, YH]; rfl)) ?_; (with_reducible refine (thalwegref03_Next.calls x9_2 t396 _ A27.out).mono ?_); rintro e w' ⟨rfl, ⟨nd, rfl⟩⟩; refine ⟨_, rfl, ?_⟩))
                    go_roundg k3
                    case measure => have := HJ3.out; have := HK2.out; have := HK3.out; omega
                    case rel => exact ⟨(y393), (t396), (x11_3), (by first | rfl | (simp; done) | (simp [*]; done)), (by first | rfl | (simp; done) | (simp [*]; done)), H', ⟨by have := HJ3.out; have := HK2.out; have := HK3.out; omega⟩, ⟨by (with_reducible repeat (first | apply Kd.S_alloc | apply Kd.S_drewN | apply Kd.S_drew)); exact HO395.out⟩, ⟨by repeat (first | (with_reducible first | exact HB.out | apply YA | apply YB | apply YC) | exact HB.out)⟩⟩
                  rw [if_neg c14] at H; have c14b0 : decide ((wrap64 (x11_3 - x10_2)) < 32) = false := decide_eq_false c14; clear c14
                  by_cases c34 : 0 ≤ x10_2
                  rotate_left
                  · rw [if_neg c34] at H
                    exact absurd H (by simp)
                  rw [if_pos c34] at H
                  have c34b0 := eq_true c34
                  have c34b1 : decide (0 ≤ x10_2) = true := decide_eq_true c34; clear c34
                  by_cases c35 : x10_2 ≤ x11_3
                  rotate_left
                  · rw [if_neg c35] at H
                    exact absurd H (by simp)
                  rw [if_pos c35] at H
                  have c35b0 := eq_true c35
                  have c35b1 : decide (x10_2 ≤ x11_3) = true := decide_eq_true c35; clear c35
                  by_cases c36 : x11_3 ≤ (l0.length : Int)
                  rotate_left
                  · rw [if_neg c36] at H
                    exact absurd H (by simp)
                  rw [if_pos c36] at H
                  have c36b0 := eq_true c36
                  have c36b1 : decide (x11_3 ≤ (l0.length : Int)) = true := decide_eq_true c36
                  clear c36
                  obtain ⟨y397, hy397⟩ : ∃ y_ : List (S45), y_ = ((l0.take (x11_3 : Int).toNat).drop (x10_2 : Int).toNat) := ⟨_, rfl⟩
                  replace H : ((thalwegref04_Own.f y397).bind fun t401 => (if x8_2.length < 4398046511104 then ((thalwegref03_Next.f x9_2).bind fun t407 => (thalwegref05_Pack.l0 k3 l0 a2 (x8_2 ++ [(⟨x9_2, t401⟩ : S24)]) t407 x11_3)) else (none))) = some (r1, r2) := by first | (rw [hy397]; with_reducible exact H) | (have H2_ := (Option.bind_some _ _).symm.trans H; rw [hy397]; with_reducible exact H2_) | (have H2_ := (Option.bind_some _ _).symm.trans H; with_reducible exact H2_) | with_reducible exact H | (rw [hy397]; exact H) | exact H
                  have Ny397 := YF hy397; clear hy397; replace H := Option.bind_eq_some_iff.mp H; obtain ⟨t401, A370, H⟩ := H
                  replace H : (if x8_2.length < 4398046511104 then ((thalwegref03_Next.f x9_2).bind fun t407 => (thalwegref05_Pack.l0 k3 l0 a2 (x8_2 ++ [(⟨x9_2, t401⟩ : S24)]) t407 x11_3)) else (none)) = some (r1, r2) := H
                  have A37 := YF A370; clear A370
                  by_cases c38 : x8_2.length < 4398046511104
                  rotate_left
                  · rw [if_neg c38] at H
                    exact absurd H (by simp)
                  rw [if_pos c38] at H; have LMc38 := YF c38; clear c38
                  obtain ⟨y404, hy404⟩ : ∃ y_ : List (S24), y_ = (x8_2 ++ [(⟨x9_2, t401⟩ : S24)]) := ⟨_, rfl⟩
                  replace H : ((thalwegref03_Next.f x9_2).bind fun t407 => (thalwegref05_Pack.l0 k3 l0 a2 y404 t407 x11_3)) = some (r1, r2) := by first | (rw [hy404]; with_reducible exact H) | (have H2_ := (Option.bind_some _ _).symm.trans H; rw [hy404]; with_reducible exact H2_) | (have H2_ := (Option.bind_some _ _).symm.trans H; with_reducible exact H2_) | with_reducible exact H | (rw [hy404]; exact H) | exact H
                  have Ny404 := YF hy404; clear hy404; replace H := Option.bind_eq_some_iff.mp H; obtain ⟨t407, A390, H⟩ := H
                  replace H : (thalwegref05_Pack.l0 k3 l0 a2 y404 t407 x11_3) = some (r1, r2) := H
                  have A39 := YF A390; clear A390
                  have H' := YF H
                  clear H
                  have q40 : (x11_3 : Int) ≤ ((l0.length : Int) : Int) := of_decide_eq_true (by first | (with_reducible assumption) | assumption)
                  obtain ⟨i040, hi040, _, hsz40, _⟩ := info_parts info45
                  have hroom40 : l0.length ≤ c0 := HC0.out
                  have hC40 : Kd.C k45 _ A0 l0.length l0 := HR0.out
                  have ql40 : (x10_2 : Int) ≤ (x11_3 : Int) := of_decide_eq_true (by first | (with_reducible assumption) | assumption)
                  have q040 : (0 : Int) ≤ (x10_2 : Int) := of_decide_eq_true (by first | (with_reducible assumption) | assumption)
                  have hcut40 := cut_mid (P := Try.prog) 22 45 .i64 .i64 Try.underlying22 hi040 12 hsz40 A0 l0.length c0 x10_2 x11_3 q040 ql40 q40 hroom40
                  have hr40 := Kd.C_mid (lo := (x10_2 : Int).toNat) (hi := (x11_3 : Int).toNat) (c := c0) hC40 (by omega) (by omega) hroom40
                  obtain ⟨A40, hA40⟩ : ∃ A1, A1 = (if c0 = (x10_2 : Int).toNat then A0 else (A0 : Option Addr).map (·.add ((x10_2 : Int).toNat * 12))) := ⟨_, rfl⟩
                  obtain ⟨c40, hc40⟩ : ∃ c1, c1 = c0 - (x10_2 : Int).toNat := ⟨_, rfl⟩
                  have hy40 : y397.length = (x11_3 : Int).toNat - (x10_2 : Int).toNat := (by rw [Ny397.out, YI, YH] <;> omega)
                  rw [show ((l0).take (x11_3 : Int).toNat).drop (x10_2 : Int).toNat = y397 from Ny397.out.symm] at hr40
                  replace hr40 : Kd.C k45 _ A40 y397.length y397 := (by rw [hA40]; exact hr40)
                  rw [← hy40, ← hA40, ← hc40] at hcut40
                  have HR400 := YF hr40
                  have HC400 := YF (show y397.length ≤ c40 from by rw [hy40, hc40]; exact Nat.sub_le_sub_right (Nat.le_trans (by omega) hroom40) _)
                  clear hr40 hC40 hroom40 hi040 hsz40 hc40; have KY40 := YF hy40; have KA40 := YF hA40; clear hy40 hA40
                  replace q40 := eq_true q40
                  go_wp2_with (first | ((with_reducible refine gate_callee (f := 8) rfl ?_); refine goesL_ (some 62) rfl rfl Try.func8 (by kernel_rfl) rfl #[.slice A40 y397.length c40] rfl (by (try simp only [YG, List.map_cons, List.map_nil]); first | done | rfl | (simp only [YI, YH]; rfl)) ?_; (with_reducible refine (thalwegref04_Own.calls _ _ y397 t401 _ ?side1 ?side2 A37.out).mono ?_); (case side1 => repeat (first | exact (Kd.C_below HR400.out HB.out) | (with_reducible refine Kd.C_alloc ?_ _) | (with_reducible refine Kd.C_drewN ?_ _) | (with_reducible refine Kd.C_drew ?_))); (case side2 => exact HC400.out); rintro e w41 ⟨v402, rfl, ho0, hb⟩; refine ⟨_, rfl, ?_⟩; have n0_ := YF (Kd.S_elder' (by (with_reducible repeat (first | apply Kd.S_alloc | apply Kd.S_drewN | apply Kd.S_drew)); exact HO_8.out) (Kd.R_base ho0) hb); have n1_ := YF (Kd.R_lower ho0 (YE (by repeat (first | (with_reducible first | exact HB.out | apply YA | apply YB | apply YC) | exact HB.out)))); have n2_ := YF (YD (by repeat (first | (with_reducible first | exact HB.out | apply YA | apply YB | apply YC) | exact HB.out)) hb); clear HO_8; clear HB; have HO_8 := n0_; have HO403 := n1_; have HB := n2_; clear n0_ n1_ n2_; (try clear hb); (try clear hb2); (try clear hk); (try clear hi); (try clear ho0); obtain ⟨Ao42, co42, eo42⟩ := Kd.R_slice HO403.out; subst eo42) | ((with_reducible refine gate_builtin (b := .append) (xs := #[.tmp 56, .tmp 64]) rfl ?_); at_builtin; refine Kd.S_append k24 (w0 := w) w.heap.size rfl (.tmp 56) (.tmp 64) 34 24 (.agg #[(.int .i64 0), (.slice none 0 0)]) 32 rfl Try.underlying34 info24 rfl (by decide) (by omega) u8 x8_2 (⟨x9_2, t401⟩ : S24) [.int .i64 x9_2, .slice Ao42 t401.length co42] (fun _ => True) (fun k_ => some k_ = (.slice Ao42 t401.length co42 : Value).ownBlock) rfl rfl ?aP (fun k_ hk_ => ((Kd.R_mono (ok' := fun k_ => ((fun _ => True)) k_ ∧ some k_ ≠ (u8 : Value).ownBlock) (Kd.R_apart' (HO403.out) (Kd.S_typed HO_8.out) (by decide)) (fun k_ hk => ⟨trivial, hk.2⟩))).1 k_ hk_.symm) ?aF ?aO ?aB ?aS ?aL ?_; (case aP => exact k24_mkM _ _ _ (⟨x9_2, t401⟩ : S24) (Kd.R_mono (Kd.R_tight rfl (Kd.R_mono (ok' := fun k_ => ((fun _ => True)) k_ ∧ some k_ ≠ (u8 : Value).ownBlock) (Kd.R_apart' (HO403.out) (Kd.S_typed HO_8.out) (by decide)) (fun k_ hk => ⟨trivial, hk.2⟩))) (fun _ h_ => h_))); (case aB => exact (by repeat (first | (with_reducible first | exact HB.out | apply YA | apply YB | apply YC) | exact HB.out))); (case aF => exact (fun _ _ => trivial)); (case aO => exact (by (with_reducible repeat (first | apply Kd.S_alloc | apply Kd.S_drewN | apply Kd.S_drew)); exact Kd.S_mono HO_8.out (fun k_ hk => ⟨trivial, fun e_ => hk.2 e_⟩))); (case aS => exact (YE (by repeat (first | (with_reducible first | exact HB.out | apply YA | apply YB | apply YC) | exact HB.out)))); (case aL => have := LMc38.out; omega); intro v405 w43 ho hb hg hat; rw [← Ny404.out] at ho; have n0_ := YF (hb); have n1_ := YF (ho); clear HB; clear HO_8; clear HO403; have HB := n0_; have HO406 := n1_; clear n0_ n1_; clear ho hb hg hat) | ((with_reducible refine gate_callee (f := 30) rfl ?_); refine goesL_ (some 67) rfl rfl Try.func30 (by kernel_rfl) rfl #[.int .i64 x9_2] rfl (by (try simp only [YG, List.map_cons, List.map_nil]); first | done | rfl | (simp only [YI, YH]; rfl)) ?_; (with_reducible refine (thalwegref03_Next.calls x9_2 t407 _ A39.out).mono ?_); rintro e w' ⟨rfl, ⟨nd, rfl⟩⟩; refine ⟨_, rfl, ?_⟩))
                  go_roundg k3
                  case measure => have := HJ3.out; have := HK2.out; have := HK3.out; omega
                  case rel => exact ⟨(y404), (t407), (x11_3), (by first | rfl | (simp; done) | (simp [*]; done)), (by first | rfl | (simp; done) | (simp [*]; done)), H', ⟨by have := HJ3.out; have := HK2.out; have := HK3.out; omega⟩, ⟨by (with_reducible repeat (first | apply Kd.S_alloc | apply Kd.S_drewN | apply Kd.S_drew)); exact HO406.out⟩, ⟨by repeat (first | (with_reducible first | exact HB.out | apply YA | apply YB | apply YC) | exact HB.out)⟩⟩
                rw [if_neg c13] at H
                have c13b0 : decide (x11_3 < (l0.length : Int)) = false := decide_eq_false c13
                clear c13
                by_cases c44 : 0 ≤ x10_2
                rotate_left
                · rw [if_neg c44] at H
                  exact absurd H (by simp)
                rw [if_pos c44] at H
                have c44b0 := eq_true c44
                have c44b1 : decide (0 ≤ x10_2) = true := decide_eq_true c44; clear c44
                by_cases c45 : x10_2 ≤ x11_3
                rotate_left
                · rw [if_neg c45] at H
                  exact absurd H (by simp)
                rw [if_pos c45] at H
                have c45b0 := eq_true c45
                have c45b1 : decide (x10_2 ≤ x11_3) = true := decide_eq_true c45; clear c45
                by_cases c46 : x11_3 ≤ (l0.length : Int)
                rotate_left
                · rw [if_neg c46] at H
                  exact absurd H (by simp)
                rw [if_pos c46] at H
                have c46b0 := eq_true c46
                have c46b1 : decide (x11_3 ≤ (l0.length : Int)) = true := decide_eq_true c46
                clear c46
                obtain ⟨y408, hy408⟩ : ∃ y_ : List (S45), y_ = ((l0.take (x11_3 : Int).toNat).drop (x10_2 : Int).toNat) := ⟨_, rfl⟩
                replace H : ((thalwegref04_Own.f y408).bind fun t412 => (if x8_2.length < 4398046511104 then ((thalwegref03_Next.f x9_2).bind fun t418 => (thalwegref05_Pack.l0 k3 l0 a2 (x8_2 ++ [(⟨x9_2, t412⟩ : S24)]) t418 x11_3)) else (none))) = some (r1, r2) := by first | (rw [hy408]; with_reducible exact H) | (have H2_ := (Option.bind_some _ _).symm.trans H; rw [hy408]; with_reducible exact H2_) | (have H2_ := (Option.bind_some _ _).symm.trans H; with_reducible exact H2_) | with_reducible exact H | (rw [hy408]; exact H) | exact H
                have Ny408 := YF hy408; clear hy408; replace H := Option.bind_eq_some_iff.mp H; obtain ⟨t412, A470, H⟩ := H
                replace H : (if x8_2.length < 4398046511104 then ((thalwegref03_Next.f x9_2).bind fun t418 => (thalwegref05_Pack.l0 k3 l0 a2 (x8_2 ++ [(⟨x9_2, t412⟩ : S24)]) t418 x11_3)) else (none)) = some (r1, r2) := H
                have A47 := YF A470; clear A470
                by_cases c48 : x8_2.length < 4398046511104
                rotate_left
                · rw [if_neg c48] at H
                  exact absurd H (by simp)
                rw [if_pos c48] at H; have LMc48 := YF c48; clear c48
                obtain ⟨y415, hy415⟩ : ∃ y_ : List (S24), y_ = (x8_2 ++ [(⟨x9_2, t412⟩ : S24)]) := ⟨_, rfl⟩
                replace H : ((thalwegref03_Next.f x9_2).bind fun t418 => (thalwegref05_Pack.l0 k3 l0 a2 y415 t418 x11_3)) = some (r1, r2) := by first | (rw [hy415]; with_reducible exact H) | (have H2_ := (Option.bind_some _ _).symm.trans H; rw [hy415]; with_reducible exact H2_) | (have H2_ := (Option.bind_some _ _).symm.trans H; with_reducible exact H2_) | with_reducible exact H | (rw [hy415]; exact H) | exact H
                have Ny415 := YF hy415; clear hy415; replace H := Option.bind_eq_some_iff.mp H; obtain ⟨t418, A490, H⟩ := H
                replace H : (thalwegref05_Pack.l0 k3 l0 a2 y415 t418 x11_3) = some (r1, r2) := H
                have A49 := YF A490; clear A490
                have H' := YF H
                clear H
                have q50 : (x11_3 : Int) ≤ ((l0.length : Int) : Int) := of_decide_eq_true (by first | (with_reducible assumption) | assumption)
                obtain ⟨i050, hi050, _, hsz50, _⟩ := info_parts info45
                have hroom50 : l0.length ≤ c0 := HC0.out
                have hC50 : Kd.C k45 _ A0 l0.length l0 := HR0.out
                have ql50 : (x10_2 : Int) ≤ (x11_3 : Int) := of_decide_eq_true (by first | (with_reducible assumption) | assumption)
                have q050 : (0 : Int) ≤ (x10_2 : Int) := of_decide_eq_true (by first | (with_reducible assumption) | assumption)
                have hcut50 := cut_mid (P := Try.prog) 22 45 .i64 .i64 Try.underlying22 hi050 12 hsz50 A0 l0.length c0 x10_2 x11_3 q050 ql50 q50 hroom50
                have hr50 := Kd.C_mid (lo := (x10_2 : Int).toNat) (hi := (x11_3 : Int).toNat) (c := c0) hC50 (by omega) (by omega) hroom50
                obtain ⟨A50, hA50⟩ : ∃ A1, A1 = (if c0 = (x10_2 : Int).toNat then A0 else (A0 : Option Addr).map (·.add ((x10_2 : Int).toNat * 12))) := ⟨_, rfl⟩
                obtain ⟨c50, hc50⟩ : ∃ c1, c1 = c0 - (x10_2 : Int).toNat := ⟨_, rfl⟩
                have hy50 : y408.length = (x11_3 : Int).toNat - (x10_2 : Int).toNat := (by rw [Ny408.out, YI, YH] <;> omega)
                rw [show ((l0).take (x11_3 : Int).toNat).drop (x10_2 : Int).toNat = y408 from Ny408.out.symm] at hr50
                replace hr50 : Kd.C k45 _ A50 y408.length y408 := (by rw [hA50]; exact hr50)
                rw [← hy50, ← hA50, ← hc50] at hcut50
                have HR411 := YF hr50
                have HC411 := YF (show y408.length ≤ c50 from by rw [hy50, hc50]; exact Nat.sub_le_sub_right (Nat.le_trans (by omega) hroom50) _)
                clear hr50 hC50 hroom50 hi050 hsz50 hc50; have KY50 := YF hy50; have KA50 := YF hA50; clear hy50 hA50
                replace q50 := eq_true q50
                go_wp2_with (first | ((with_reducible refine gate_callee (f := 8) rfl ?_); refine goesL_ (some 62) rfl rfl Try.func8 (by kernel_rfl) rfl #[.slice A50 y408.length c50] rfl (by (try simp only [YG, List.map_cons, List.map_nil]); first | done | rfl | (simp only [YI, YH]; rfl)) ?_; (with_reducible refine (thalwegref04_Own.calls _ _ y408 t412 _ ?side1 ?side2 A47.out).mono ?_); (case side1 => repeat (first | exact (Kd.C_below HR411.out HB.out) | (with_reducible refine Kd.C_alloc ?_ _) | (with_reducible refine Kd.C_drewN ?_ _) | (with_reducible refine Kd.C_drew ?_))); (case side2 => exact HC411.out); rintro e w51 ⟨v413, rfl, ho0, hb⟩; refine ⟨_, rfl, ?_⟩; have n0_ := YF (Kd.S_elder' (by (with_reducible repeat (first | apply Kd.S_alloc | apply Kd.S_drewN | apply Kd.S_drew)); exact HO_8.out) (Kd.R_base ho0) hb); have n1_ := YF (Kd.R_lower ho0 (YE (by repeat (first | (with_reducible first | exact HB.out | apply YA | apply YB | apply YC) | exact HB.out)))); have n2_ := YF (YD (by repeat (first | (with_reducible first | exact HB.out | apply YA | apply YB | apply YC) | exact HB.out)) hb); clear HO_8; clear HB; have HO_8 := n0_; have HO414 := n1_; have HB := n2_; clear n0_ n1_ n2_; (try clear hb); (try clear hb2); (try clear hk); (try clear hi); (try clear ho0); obtain ⟨Ao52, co52, eo52⟩ := Kd.R_slice HO414.out; subst eo52) | ((with_reducible refine gate_builtin (b := .append) (xs := #[.tmp 56, .tmp 64]) rfl ?_); at_builtin; refine Kd.S_append k24 (w0 := w) w.heap.size rfl (.tmp 56) (.tmp 64) 34 24 (.agg #[(.int .i64 0), (.slice none 0 0)]) 32 rfl Try.underlying34 info24 rfl (by decide) (by omega) u8 x8_2 (⟨x9_2, t412⟩ : S24) [.int .i64 x9_2, .slice Ao52 t412.length co52] (fun _ => True) (fun k_ => some k_ = (.slice Ao52 t412.length co52 : Value).ownBlock) rfl rfl ?aP (fun k_ hk_ => ((Kd.R_mono (ok' := fun k_ => ((fun _ => True)) k_ ∧ some k_ ≠ (u8 : Value).ownBlock) (Kd.R_apart' (HO414.out) (Kd.S_typed HO_8.out) (by decide)) (fun k_ hk => ⟨trivial, hk.2⟩))).1 k_ hk_.symm) ?aF ?aO ?aB ?aS ?aL ?_; (case aP => exact k24_mkM _ _ _ (⟨x9_2, t412⟩ : S24) (Kd.R_mono (Kd.R_tight rfl (Kd.R_mono (ok' := fun k_ => ((fun _ => True)) k_ ∧ some k_ ≠ (u8 : Value).ownBlock) (Kd.R_apart' (HO414.out) (Kd.S_typed HO_8.out) (by decide)) (fun k_ hk => ⟨trivial, hk.2⟩))) (fun _ h_ => h_))); (case aB => exact (by repeat (first | (with_reducible first | exact HB.out | apply YA | apply YB | apply YC) | exact HB.out))); (case aF => exact (fun _ _ => trivial)); (case aO => exact (by (with_reducible repeat (first | apply Kd.S_alloc | apply Kd.S_drewN | apply Kd.S_drew)); exact Kd.S_mono HO_8.out (fun k_ hk => ⟨trivial, fun e_ => hk.2 e_⟩))); (case aS => exact (YE (by repeat (first | (with_reducible first | exact HB.out | apply YA | apply YB | apply YC) | exact HB.out)))); (case aL => have := LMc48.out; omega); intro v416 w53 ho hb hg hat; rw [← Ny415.out] at ho; have n0_ := YF (hb); have n1_ := YF (ho); clear HB; clear HO_8; clear HO414; have HB := n0_; have HO417 := n1_; clear n0_ n1_; clear ho hb hg hat) | ((with_reducible refine gate_callee (f := 30) rfl ?_); refine goesL_ (some 67) rfl rfl Try.func30 (by kernel_rfl) rfl #[.int .i64 x9_2] rfl (by (try simp only [YG, List.map_cons, List.map_nil]); first | done | rfl | (simp only [YI, YH]; rfl)) ?_; (with_reducible refine (thalwegref03_Next.calls x9_2 t418 _ A49.out).mono ?_); rintro e w' ⟨rfl, ⟨nd, rfl⟩⟩; refine ⟨_, rfl, ?_⟩))
                go_roundg k3
                case measure => have := HJ3.out; have := HK2.out; have := HK3.out; omega
                case rel => exact ⟨(y415), (t418), (x11_3), (by first | rfl | (simp; done) | (simp [*]; done)), (by first | rfl | (simp; done) | (simp [*]; done)), H', ⟨by have := HJ3.out; have := HK2.out; have := HK3.out; omega⟩, ⟨by (with_reducible repeat (first | apply Kd.S_alloc | apply Kd.S_drewN | apply Kd.S_drew)); exact HO417.out⟩, ⟨by repeat (first | (with_reducible first | exact HB.out | apply YA | apply YB | apply YC) | exact HB.out)⟩⟩
          rw [if_neg c12] at H
          have c12b0 : decide (x10_2 < (l0.length : Int)) = false := decide_eq_false c12
          clear c12
          simp only [Option.some.injEq, Prod.mk.injEq] at H
          obtain ⟨rfl, rfl⟩ := H
          go_wp2
          go_ret2
          exact ⟨_, by first | rfl | (simp [errW_none, errW_some] <;> rfl) | (simp [*, errW_none, errW_some] <;> rfl), by (with_reducible repeat (first | apply Kd.S_alloc | apply Kd.S_drewN | apply Kd.S_drew)); exact HO_8.out, by repeat (first | (with_reducible first | exact HB.out | apply YA | apply YB | apply YC) | exact HB.out)⟩
end Go.Proofs.Ytfigbjjaffkidaa.P
namespace Go.Proofs.Ytfigbjjaffkidaa.P
open Go.RowKit YtfigbjjaffkidaaW.PrintWords YtfigbjjaffkidaaW.PrintLast YtfigbjjaffkidaaW.PrintMore
open YtfigbjjaffkidaaW.PrintWords.Aside0 renaming mk → YA
attribute [local go_sem] max2_int min2_int max_two min_two max_three min_three max_four min_four   -- for this text's walks alone
def thalwegref05_Same.l0 : Nat → List (S24) → List (S24) → Int → Option (Bool)
  | 0, _, _, _ => none
  | k + 1, x0, x1, x5 => if x5 < (x0.length : Int) then (if 0 ≤ x5 then (if x5 < (x1.length : Int) then (if ((rd_T24 x0 x5).f0) = ((rd_T24 x1 x5).f0) then ((thalwegref04_Same.f k ((rd_T24 x0 x5).f1) ((rd_T24 x1 x5).f1)).bind fun t423 => (if t423 = true then (thalwegref05_Same.l0 k x0 x1 (wrap64 (x5 + 1))) else (some false))) else (some false)) else (none)) else (none)) else (some true)
def thalwegref05_Same.f (k : Nat) (l0 : List (S24)) (l1 : List (S24)) : Option (Bool) := if (l0.length : Int) = (l1.length : Int) then (thalwegref05_Same.l0 k l0 l1 0) else (some false)
set_option maxHeartbeats 8000000 in
set_option maxRecDepth 100000 in
theorem thalwegref05_Same.calls (k : Nat) (A0 : Option Addr) (c0 : Nat) (l0 : List (S24)) (A1 : Option Addr) (c1 : Nat) (l1 : List (S24)) (r : Bool) (w : World) (hr0 : Kd.C k24 w A0 l0.length l0) (hc0 : l0.length ≤ c0) (hr1 : Kd.C k24 w A1 l1.length l1) (hc1 : l1.length ≤ c1) (h : thalwegref05_Same.f k l0 l1 = some r) :
    Calls Try.prog 17 #[.slice A0 l0.length c0, .slice A1 l1.length c1] w fun e w' => e = .returned (.bool r) ∧ Drawn0 w w' := by
  have HR0 := YA hr0; have HC0 := YA hc0; clear hr0 hc0; have HR1 := YA hr1; have HC1 := YA hc1; clear hr1 hc1
  have H : (if (l0.length : Int) = (l1.length : Int) then (thalwegref05_Same.l0 k l0 l1 0) else (some false)) = some r := h
  clear h
  by_cases c3 : (l0.length : Int) = (l1.length : Int)
  · rw [if_pos c3] at H
    have c3b0 : ((l0.length : Int) == (l1.length : Int)) = true := beq_iff_eq.mpr c3
    have c3b1 : ((l0.length : Int) != (l1.length : Int)) = false := bne_eq_false_iff_eq.mpr c3
    have c3b2 : (l0.length == l1.length) = true := by first | simpa using c3 | (simp at c3 ⊢; omega)
    clear c3
    have H' := YA H
    clear H
    go_enter Try.func17, Try.ntmps17
    go_wp2
    repeat (go_quiet (fail); try go_wp2)
    go_loopg [5] k (fun kq v5 w' => ∃ (x5_1 : Int), v5 = .int .i64 x5_1 ∧ Aside0 (thalwegref05_Same.l0 kq l0 l1 x5_1 = some r) ∧ Aside0 (kq ≤ k) ∧ Drawn0 w w')
    case atStart => exact ⟨(0), (by first | rfl | (simp; done) | (simp [*]; done)), H', ⟨Nat.le_refl _⟩, by repeat (first | exact Drawn0.refl _ | apply Drawn0.step)⟩
    case round =>
      clear H'
      try clear c1; try clear p2
      try clear c3; try clear c3b0
      try clear c3b1; try clear c3b2
      obtain ⟨x5_1, rfl, HA, HK1, ⟨m1, rfl⟩⟩ := hrel
      cases gk with
      | zero => exact absurd HA.out (by simp [thalwegref05_Same.l0])
      | succ k1 =>
        have H := HA.out
        clear HA
        simp only [thalwegref05_Same.l0] at H
        by_cases c4 : x5_1 < (l0.length : Int)
        · rw [if_pos c4] at H
          have c4b0 : decide (x5_1 < (l0.length : Int)) = true := decide_eq_true c4
          clear c4
          by_cases c5 : 0 ≤ x5_1
          rotate_left
          · rw [if_neg c5] at H
            exact absurd H (by simp)
          rw [if_pos c5] at H; have c5b0 : decide (0 ≤ x5_1) = true := decide_eq_true c5; clear c5
          by_cases c6 : x5_1 < (l1.length : Int)
          rotate_left
          · rw [if_neg c6] at H
            exact absurd H (by simp)
          rw [if_pos c6] at H
          have c6b0 : decide (x5_1 < (l1.length : Int)) = true := decide_eq_true c6
          clear c6
          by_cases c7 : ((rd_T24 l0 x5_1).f0) = ((rd_T24 l1 x5_1).f0)
          · rw [if_pos c7] at H
            have c7b0 : (((rd_T24 l0 x5_1).f0) == ((rd_T24 l1 x5_1).f0)) = true := beq_iff_eq.mpr c7
            have c7b1 : (((rd_T24 l0 x5_1).f0) != ((rd_T24 l1 x5_1).f0)) = false := bne_eq_false_iff_eq.mpr c7
            clear c7; replace H := Option.bind_eq_some_iff.mp H; obtain ⟨t423, A80, H⟩ := H
            replace H : (if t423 = true then (thalwegref05_Same.l0 k1 l0 l1 (wrap64 (x5_1 + 1))) else (some false)) = some r := H
            have A8 := YA A80; clear A80
            by_cases c9 : t423 = true
            · subst c9
              have H1 : (thalwegref05_Same.l0 k1 l0 l1 (wrap64 (x5_1 + 1))) = some r := by rw [if_pos rfl] at H; exact H
              clear H
              have H := H1
              clear H1
              have H' := YA H
              clear H
              have p419 : 0 ≤ (x5_1 : Int) := of_decide_eq_true (by first | (with_reducible assumption) | assumption)
              have q419 : x5_1 < (l0.length : Int) := of_decide_eq_true (by first | (with_reducible assumption) | assumption)
              obtain ⟨ad419, A419_1, c419_1, e419, hx419_0, hx419_1, hl419_1, hi419_1⟩ := at_T24 HR0.out x5_1 p419 q419
              cases e419
              have HR419_1 := YA hi419_1; have HC419_1 := YA hl419_1; clear hi419_1 hl419_1
              replace p419 := eq_true p419
              replace q419 := eq_true q419
              have p420 : 0 ≤ (x5_1 : Int) := of_decide_eq_true (by first | (with_reducible assumption) | assumption)
              have q420 : x5_1 < (l1.length : Int) := of_decide_eq_true (by first | (with_reducible assumption) | assumption)
              obtain ⟨ad420, A420_1, c420_1, e420, hx420_0, hx420_1, hl420_1, hi420_1⟩ := at_T24 HR1.out x5_1 p420 q420
              cases e420
              have HR420_1 := YA hi420_1; have HC420_1 := YA hl420_1; clear hi420_1 hl420_1
              replace p420 := eq_true p420
              replace q420 := eq_true q420
              have p421 : 0 ≤ (x5_1 : Int) := of_decide_eq_true (by first | (with_reducible assumption) | assumption)
              have q421 : x5_1 < (l0.length : Int) := of_decide_eq_true (by first | (with_reducible assumption) | assumption)
              obtain ⟨ad421, A421_1, c421_1, e421, hx421_0, hx421_1, hl421_1, hi421_1⟩ := at_T24 HR0.out x5_1 p421 q421
              obtain rfl : ad419 = ad421 := (by injection e421)
              have HR421_1 := YA hi421_1; have HC421_1 := YA hl421_1; clear hi421_1 hl421_1
              replace p421 := eq_true p421
              replace q421 := eq_true q421
              have ea_ := Option.some.inj (hx419_1.symm.trans hx421_1)
              injection ea_ with ea_ en_ ec_
              subst ea_; subst ec_; clear en_
              have p422 : 0 ≤ (x5_1 : Int) := of_decide_eq_true (by first | (with_reducible assumption) | assumption)
              have q422 : x5_1 < (l1.length : Int) := of_decide_eq_true (by first | (with_reducible assumption) | assumption)
              obtain ⟨ad422, A422_1, c422_1, e422, hx422_0, hx422_1, hl422_1, hi422_1⟩ := at_T24 HR1.out x5_1 p422 q422
              obtain rfl : ad420 = ad422 := (by injection e422)
              have HR422_1 := YA hi422_1; have HC422_1 := YA hl422_1; clear hi422_1 hl422_1
              replace p422 := eq_true p422
              replace q422 := eq_true q422
              have ea_ := Option.some.inj (hx420_1.symm.trans hx422_1)
              injection ea_ with ea_ en_ ec_
              subst ea_; subst ec_; clear en_
              go_wp2_with (first | (go_at_call 14; (with_reducible refine (thalwegref04_Same.calls k1 _ _ ((rd_T24 l0 x5_1).f1) _ _ ((rd_T24 l1 x5_1).f1) true _ ?side1 ?side2 ?side3 ?side4 A8.out).mono ?_); (case side1 => repeat (first | exact HR421_1.out | (with_reducible refine Kd.C_alloc ?_ _) | (with_reducible refine Kd.C_drewN ?_ _) | (with_reducible refine Kd.C_drew ?_))); (case side2 => exact HC421_1.out); (case side3 => repeat (first | exact HR422_1.out | (with_reducible refine Kd.C_alloc ?_ _) | (with_reducible refine Kd.C_drewN ?_ _) | (with_reducible refine Kd.C_drew ?_))); (case side4 => exact HC422_1.out); rintro e w' ⟨rfl, ⟨nd, rfl⟩⟩; (try first | exact ⟨rfl, _, World.drewN_drewN _ _ _⟩ | exact ⟨rfl, _, Eq.trans (World.drewN_drewN _ _ _) (congrArg (World.drewN _) (Nat.add_assoc _ _ _))⟩)))
              repeat (go_quiet (first | (go_at_call 14; (with_reducible refine (thalwegref04_Same.calls k1 _ _ ((rd_T24 l0 x5_1).f1) _ _ ((rd_T24 l1 x5_1).f1) true _ ?side1 ?side2 ?side3 ?side4 A8.out).mono ?_); (case side1 => repeat (first | exact HR421_1.out | (with_reducible refine Kd.C_alloc ?_ _) | (with_reducible refine Kd.C_drewN ?_ _) | (with_reducible refine Kd.C_drew ?_))); (case side2 => exact HC421_1.out); (case side3 => repeat (first | exact HR422_1.out | (with_reducible refine Kd.C_alloc ?_ _) | (with_reducible refine Kd.C_drewN ?_ _) | (with_reducible refine Kd.C_drew ?_))); (case side4 => exact HC422_1.out); rintro e w' ⟨rfl, ⟨nd, rfl⟩⟩; (try first | exact ⟨rfl, _, World.drewN_drewN _ _ _⟩ | exact ⟨rfl, _, Eq.trans (World.drewN_drewN _ _ _) (congrArg (World.drewN _) (Nat.add_assoc _ _ _))⟩))); try go_wp2_with (first | (go_at_call 14; (with_reducible refine (thalwegref04_Same.calls k1 _ _ ((rd_T24 l0 x5_1).f1) _ _ ((rd_T24 l1 x5_1).f1) true _ ?side1 ?side2 ?side3 ?side4 A8.out).mono ?_); (case side1 => repeat (first | exact HR421_1.out | (with_reducible refine Kd.C_alloc ?_ _) | (with_reducible refine Kd.C_drewN ?_ _) | (with_reducible refine Kd.C_drew ?_))); (case side2 => exact HC421_1.out); (case side3 => repeat (first | exact HR422_1.out | (with_reducible refine Kd.C_alloc ?_ _) | (with_reducible refine Kd.C_drewN ?_ _) | (with_reducible refine Kd.C_drew ?_))); (case side4 => exact HC422_1.out); rintro e w' ⟨rfl, ⟨nd, rfl⟩⟩; (try first | exact ⟨rfl, _, World.drewN_drewN _ _ _⟩ | exact ⟨rfl, _, Eq.trans (World.drewN_drewN _ _ _) (congrArg (World.drewN _) (Nat.add_assoc _ _ _))⟩))))
              go_roundg k1
              case measure => have := HK1.out; omega
              case rel => exact ⟨(wrap64 (x5_1 + 1)), (by first | rfl | (simp; done) | (simp [*]; done)), H', ⟨by have := HK1.out; omega⟩, by repeat (first | exact Drawn0.refl _ | apply Drawn0.step)⟩
            replace c9 := Bool.eq_false_iff.mpr c9
            subst c9
            have H1 : (some false) = some r := by rw [if_neg (show ¬ (false = true) by decide)] at H; exact H
            clear H
            have H := H1
            clear H1
            obtain rfl := Option.some.inj H
            have p419 : 0 ≤ (x5_1 : Int) := of_decide_eq_true (by first | (with_reducible assumption) | assumption)
            have q419 : x5_1 < (l0.length : Int) := of_decide_eq_true (by first | (with_reducible assumption) | assumption)
            obtain ⟨ad419, A419_1, c419_1, e419, hx419_0, hx419_1, hl419_1, hi419_1⟩ := at_T24 HR0.out x5_1 p419 q419
            cases e419
            have HR419_1 := YA hi419_1; have HC419_1 := YA hl419_1; clear hi419_1 hl419_1
            replace p419 := eq_true p419
            replace q419 := eq_true q419
            have p420 : 0 ≤ (x5_1 : Int) := of_decide_eq_true (by first | (with_reducible assumption) | assumption)
            have q420 : x5_1 < (l1.length : Int) := of_decide_eq_true (by first | (with_reducible assumption) | assumption)
            obtain ⟨ad420, A420_1, c420_1, e420, hx420_0, hx420_1, hl420_1, hi420_1⟩ := at_T24 HR1.out x5_1 p420 q420
            cases e420
            have HR420_1 := YA hi420_1; have HC420_1 := YA hl420_1; clear hi420_1 hl420_1
            replace p420 := eq_true p420
            replace q420 := eq_true q420
            have p421 : 0 ≤ (x5_1 : Int) := of_decide_eq_true (by first | (with_reducible assumption) | assumption)
            have q421 : x5_1 < (l0.length : Int) := of_decide_eq_true (by first | (with_reducible assumption) | assumption)
            obtain ⟨ad421, A421_1, c421_1, e421, hx421_0, hx421_1, hl421_1, hi421_1⟩ := at_T24 HR0.out x5_1 p421 q421
            obtain rfl : ad419 = ad421 := (by injection e421)
            have HR421_1 := YA hi421_1; have HC421_1 := YA hl421_1; clear hi421_1 hl421_1
            replace p421 := eq_true p421
            replace q421 := eq_true q421
            have ea_ := Option.some.inj (hx419_1.symm.trans hx421_1)
            injection ea_ with ea_ en_ ec_
            subst ea_; subst ec_; clear en_
            have p422 : 0 ≤ (x5_1 : Int) := of_decide_eq_true (by first | (with_reducible assumption) | assumption)
            have q422 : x5_1 < (l1.length : Int) := of_decide_eq_true (by first | (with_reducible assumption) | assumption)
            obtain ⟨ad422, A422_1, c422_1, e422, hx422_0, hx422_1, hl422_1, hi422_1⟩ := at_T24 HR1.out x5_1 p422 q422
            obtain rfl : ad420 = ad422 := (by injection e422)
            have HR422_1 := YA hi422_1; have HC422_1 := YA hl422_1; clear hi422_1 hl422_1
            replace p422 := eq_true p422
            replace q422 := eq_true q422
            have ea_ := Option.some.inj (hx420_1.symm.trans hx422_1)
            injection ea_ with ea_ en_ ec_
            subst ea_; subst ec_; clear en_
            go_wp2_with (first | (go_at_call 14; (with_reducible refine (thalwegref04_Same.calls k1 _ _ ((rd_T24 l0 x5_1).f1) _ _ ((rd_T24 l1 x5_1).f1) false _ ?side1 ?side2 ?side3 ?side4 A8.out).mono ?_); (case side1 => repeat (first | exact HR421_1.out | (with_reducible refine Kd.C_alloc ?_ _) | (with_reducible refine Kd.C_drewN ?_ _) | (with_reducible refine Kd.C_drew ?_))); (case side2 => exact HC421_1.out); (case side3 => repeat (first | exact HR422_1.out | (with_reducible refine Kd.C_alloc ?_ _) | (with_reducible refine Kd.C_drewN ?_ _) | (with_reducible refine Kd.C_drew ?_))); (case side4 => exact HC422_1.out); rintro e w' ⟨rfl, ⟨nd, rfl⟩⟩; (try first | exact ⟨rfl, _, World.drewN_drewN _ _ _⟩ | exact ⟨rfl, _, Eq.trans (World.drewN_drewN _ _ _) (congrArg (World.drewN _) (Nat.add_assoc _ _ _))⟩)))
            repeat (go_quiet (first | (go_at_call 14; (with_reducible refine (thalwegref04_Same.calls k1 _ _ ((rd_T24 l0 x5_1).f1) _ _ ((rd_T24 l1 x5_1).f1) false _ ?side1 ?side2 ?side3 ?side4 A8.out).mono ?_); (case side1 => repeat (first | exact HR421_1.out | (with_reducible refine Kd.C_alloc ?_ _) | (with_reducible refine Kd.C_drewN ?_ _) | (with_reducible refine Kd.C_drew ?_))); (case side2 => exact HC421_1.out); (case side3 => repeat (first | exact HR422_1.out | (with_reducible refine Kd.C_alloc ?_ _) | (with_reducible refine Kd.C_drewN ?_ _) | (with_reducible refine Kd.C_drew ?_))); (case side4 => exact HC422_1.out); rintro e w' ⟨rfl, ⟨nd, rfl⟩⟩; (try first | exact ⟨rfl, _, World.drewN_drewN _ _ _⟩ | exact ⟨rfl, _, Eq.trans (World.drewN_drewN _ _ _) (congrArg (World.drewN _) (Nat.add_assoc _ _ _))⟩))); try go_wp2_with (first | (go_at_call 14; (with_reducible refine (thalwegref04_Same.calls k1 _ _ ((rd_T24 l0 x5_1).f1) _ _ ((rd_T24 l1 x5_1).f1) false _ ?side1 ?side2 ?side3 ?side4 A8.out).mono ?_); (case side1 => repeat (first | exact HR421_1.out | (with_reducible refine Kd.C_alloc ?_ _) | (with_reducible refine Kd.C_drewN ?_ _) | (with_reducible refine Kd.C_drew ?_))); (case side2 => exact HC421_1.out); (case side3 => repeat (first | exact HR422_1.out | (with_reducible refine Kd.C_alloc ?_ _) | (with_reducible refine Kd.C_drewN ?_ _) | (with_reducible refine Kd.C_drew ?_))); (case side4 => exact HC422_1.out); rintro e w' ⟨rfl, ⟨nd, rfl⟩⟩; (try first | exact ⟨rfl, _, World.drewN_drewN _ _ _⟩ | exact ⟨rfl, _, Eq.trans (World.drewN_drewN _ _ _) (congrArg (World.drewN _) (Nat.add_assoc _ _ _))⟩))))
            go_ret
            exact ⟨by first | rfl | (simp; done) | (simp [*]; done), by repeat (first | exact Drawn0.refl _ | apply Drawn0.step)⟩
          rw [if_neg c7] at H
          have c7b0 : (((rd_T24 l0 x5_1).f0) == ((rd_T24 l1 x5_1).f0)) = false := beq_eq_false_iff_ne.mpr c7
          have c7b1 : (((rd_T24 l0 x5_1).f0) != ((rd_T24 l1 x5_1).f0)) = true := bne_iff_ne.mpr c7
          obtain rfl := Option.some.inj H
          have p419 : 0 ≤ (x5_1 : Int) := of_decide_eq_true (by first | (with_reducible assumption) | assumption)
          have q419 : x5_1 < (l0.length : Int) := of_decide_eq_true (by first | (with_reducible assumption) | assumption)
          obtain ⟨ad419, A419_1, c419_1, e419, hx419_0, hx419_1, hl419_1, hi419_1⟩ := at_T24 HR0.out x5_1 p419 q419
          cases e419
          have HR419_1 := YA hi419_1; have HC419_1 := YA hl419_1; clear hi419_1 hl419_1
          replace p419 := eq_true p419
          replace q419 := eq_true q419
          have p420 : 0 ≤ (x5_1 : Int) := of_decide_eq_true (by first | (with_reducible assumption) | assumption)
          have q420 : x5_1 < (l1.length : Int) := of_decide_eq_true (by first | (with_reducible assumption) | assumption)
          obtain ⟨ad420, A420_1, c420_1, e420, hx420_0, hx420_1, hl420_1, hi420_1⟩ := at_T24 HR1.out x5_1 p420 q420
          cases e420
          have HR420_1 := YA hi420_1; have HC420_1 := YA hl420_1; clear hi420_1 hl420_1
          replace p420 := eq_true p420
          replace q420 := eq_true q420
          go_wp2
          repeat (go_quiet (fail); try go_wp2)
          go_ret
          exact ⟨by first | rfl | (simp; done) | (simp [*]; done), by repeat (first | exact Drawn0.refl _ | apply Drawn0.step)⟩
        rw [if_neg c4] at H
        have c4b0 : decide (x5_1 < (l0.length : Int)) = false := decide_eq_false c4
        clear c4
        obtain rfl := Option.some.inj H
        go_wp2
        repeat (go_quiet (fail); try go_wp2)
        go_ret
        exact ⟨by first | rfl | (simp; done) | (simp [*]; done), by repeat (first | exact Drawn0.refl _ | apply Drawn0.step)⟩
  rw [if_neg c3] at H
  have c3b0 : ((l0.length : Int) == (l1.length : Int)) = false := beq_eq_false_iff_ne.mpr c3
  have c3b1 : ((l0.length : Int) != (l1.length : Int)) = true := bne_iff_ne.mpr c3
  have c3b2 : (l0.length == l1.length) = false := by first | simpa using c3 | (simp at c3 ⊢; omega)
  obtain rfl := Option.some.inj H
  go_enter Try.func17, Try.ntmps17
  go_wp2
  repeat (go_quiet (fail); try go_wp2)
  go_ret
  exact ⟨by first | rfl | (simp; done) | (simp [*]; done), by repeat (first | exact Drawn0.refl _ | apply Drawn0.step)⟩
end Go.Proofs.Ytfigbjjaffkidaa.P
namespace Go.Proofs.Ytfigbjjaffkidaa.P
open Go.RowKit YtfigbjjaffkidaaW.PrintWords YtfigbjjaffkidaaW.PrintLast YtfigbjjaffkidaaW.PrintMore
open YtfigbjjaffkidaaW.PrintWords renaming below_alloc → YA, pw_below_drewN → YB, below_drew1 → YC, below_step → YD
open YtfigbjjaffkidaaW.PrintWords.Aside0 renaming mk → YE
open List renaming map_toArray → YF, length_take → YG, length_drop → YH
open YtfigbjjaffkidaaW.PrintWords.Kd renaming R_alloc → YI, R_drewN → YJ, R_drew → YK
attribute [local go_sem] max2_int min2_int max_two min_two max_three min_three max_four min_four   -- for this text's walks alone
def thalweglaw05_BatchPacks.j0 : Nat → List (S45) → Int → Int → Bool → Option (Bool)
  | 0, _, _, _, _ => none
  | k + 1, x0, x1, x2, x24 => if x24 = true then (some true) else ((thalwegref04_Own.f x0).bind fun t424 => ((batch_Pack.f k t424 x1 x2).bind fun bt427 => ((thalwegref05_Pack.f k x0 x1 x2).bind fun bt431 => ((thalweglaw05_awake.f k).bind fun t435 => (if t435 = true then ((thalwegref05_Same.f k bt427.1 bt431.1).bind fun t436 => (if t436 = true then (if bt427.2 = bt431.2 then ((thalwegref04_Same.f k t424 x0).bind fun t437 => (some t437)) else (none)) else (none))) else (none))))))
def thalweglaw05_BatchPacks.f (k : Nat) (l0 : List (S45)) (a1 : Int) (a2 : Int) : Option (Bool) := if (l0.length : Int) > 120 then (if (l0.length : Int) ≤ 1024 then (thalweglaw05_BatchPacks.j0 k l0 a1 a2 true) else (thalweglaw05_BatchPacks.j0 k l0 a1 a2 (decide ((l0.length : Int) > 1100)))) else (thalweglaw05_BatchPacks.j0 k l0 a1 a2 (decide ((l0.length : Int) > 1100)))
set_option maxHeartbeats 8000000 in
set_option maxRecDepth 100000 in
theorem thalweglaw05_BatchPacks.calls (k : Nat) (A0 : Option Addr) (c0 : Nat) (l0 : List (S45)) (a1 : Int) (a2 : Int) (r : Bool) (w : World) (hr0 : Kd.C k45 w A0 l0.length l0) (hc0 : l0.length ≤ c0) (h : thalweglaw05_BatchPacks.f k l0 a1 a2 = some r) :
    Calls Try.prog 4 #[.slice A0 l0.length c0, .int .i64 a1, .int .i64 a2] w fun e w' => e = .returned (.bool r) ∧ Below w.heap.size w w' := by
  have HR0 := YE hr0; have HC0 := YE hc0; clear hr0 hc0
  have HB := YE (Below.refl w.heap.size w)
  have H : (if (l0.length : Int) > 120 then (if (l0.length : Int) ≤ 1024 then (thalweglaw05_BatchPacks.j0 k l0 a1 a2 true) else (thalweglaw05_BatchPacks.j0 k l0 a1 a2 (decide ((l0.length : Int) > 1100)))) else (thalweglaw05_BatchPacks.j0 k l0 a1 a2 (decide ((l0.length : Int) > 1100)))) = some r := h
  clear h; have HC4 := YE H; clear H
  go_enter Try.func4, Try.ntmps4
  go_upto_region 1 with (fail)
  go_cut [24] (fun v24 wc => ∃ (kq : Nat) (x24_3 : Bool), v24 = .bool x24_3 ∧ Aside0 (thalweglaw05_BatchPacks.j0 kq l0 a1 a2 x24_3 = some r) ∧ Aside0 (kq ≤ k) ∧ Aside0 (Below w.heap.size w wc))
  case first =>
    have H := HC4.out
    clear HC4
    by_cases c5 : (l0.length : Int) > 120
    · rw [if_pos c5] at H
      have c5b0 : decide (120 < (l0.length : Int)) = true := decide_eq_true c5
      have c5b1 : decide (120 < l0.length) = true := decide_eq_true (by omega)
      clear c5
      (first | rw [c5b0] | (simp only [i64_w, i32_w]; rw [c5b0]) | skip)
      by_cases c6 : (l0.length : Int) ≤ 1024
      · rw [if_pos c6] at H
        have c6b0 : decide ((l0.length : Int) ≤ 1024) = true := decide_eq_true c6
        have c6b1 : decide (l0.length ≤ 1024) = true := decide_eq_true (by omega)
        clear c6
        have H' := YE H
        clear H
        go_wp2
        go_meet
        case rel => exact ⟨_, (true), (by first | rfl | (simp; done) | (simp [*]; done)), H', ⟨by first | omega | exact Nat.le_refl _⟩, ⟨by repeat (first | (with_reducible first | exact HB.out | apply YA | apply YB | apply YC) | exact HB.out)⟩⟩
      rw [if_neg c6] at H
      have c6b0 : decide ((l0.length : Int) ≤ 1024) = false := decide_eq_false c6
      have c6b1 : decide (l0.length ≤ 1024) = false := decide_eq_false (by omega)
      clear c6
      have H' := YE H
      clear H
      go_wp2
      go_meet
      case rel => exact ⟨_, (decide ((l0.length : Int) > 1100)), (by first | rfl | (simp; done) | (simp [*]; done)), H', ⟨by first | omega | exact Nat.le_refl _⟩, ⟨by repeat (first | (with_reducible first | exact HB.out | apply YA | apply YB | apply YC) | exact HB.out)⟩⟩
    rw [if_neg c5] at H
    have c5b0 : decide (120 < (l0.length : Int)) = false := decide_eq_false c5
    have c5b1 : decide (120 < l0.length) = false := decide_eq_false (by omega)
    clear c5
    (first | rw [c5b0] | (simp only [i64_w, i32_w]; rw [c5b0]) | skip)
    have H' := YE H
    clear H
    go_wp2
    go_meet
    case rel => exact ⟨_, (decide ((l0.length : Int) > 1100)), (by first | rfl | (simp; done) | (simp [*]; done)), H', ⟨by first | omega | exact Nat.le_refl _⟩, ⟨by repeat (first | (with_reducible first | exact HB.out | apply YA | apply YB | apply YC) | exact HB.out)⟩⟩
  case rest =>
    clear HC4
    try clear p2; try clear c4
    try clear c5; try clear c5b0
    try clear c5b1; try clear c6
    try clear c6b0; try clear c6b1
    obtain ⟨kq, x24_3, rfl, HA, HJ3, HB⟩ := hcut
    cases kq with
    | zero => exact absurd HA.out (by simp [thalweglaw05_BatchPacks.j0])
    | succ kj3 =>
      have H := HA.out
      clear HA
      simp only [thalweglaw05_BatchPacks.j0] at H
      by_cases c7 : x24_3 = true
      · subst c7
        have H1 : (some true) = some r := by rw [if_pos rfl] at H; exact H
        clear H
        have H := H1
        clear H1
        obtain rfl := Option.some.inj H
        go_wp2
        go_ret
        exact ⟨by first | rfl | (simp [errW_none, errW_some] <;> rfl) | (simp [*, errW_none, errW_some] <;> rfl), by repeat (first | (with_reducible first | exact HB.out | apply YA | apply YB | apply YC) | exact HB.out)⟩
      replace c7 := Bool.eq_false_iff.mpr c7
      subst c7
      have H1 : ((thalwegref04_Own.f l0).bind fun t424 => ((batch_Pack.f kj3 t424 a1 a2).bind fun bt427 => ((thalwegref05_Pack.f kj3 l0 a1 a2).bind fun bt431 => ((thalweglaw05_awake.f kj3).bind fun t435 => (if t435 = true then ((thalwegref05_Same.f kj3 bt427.1 bt431.1).bind fun t436 => (if t436 = true then (if bt427.2 = bt431.2 then ((thalwegref04_Same.f kj3 t424 l0).bind fun t437 => (some t437)) else (none)) else (none))) else (none)))))) = some r := by rw [if_neg (show ¬ (false = true) by decide)] at H; exact H
      clear H
      have H := H1
      clear H1; replace H := Option.bind_eq_some_iff.mp H; obtain ⟨t424, A80, H⟩ := H
      replace H : ((batch_Pack.f kj3 t424 a1 a2).bind fun bt427 => ((thalwegref05_Pack.f kj3 l0 a1 a2).bind fun bt431 => ((thalweglaw05_awake.f kj3).bind fun t435 => (if t435 = true then ((thalwegref05_Same.f kj3 bt427.1 bt431.1).bind fun t436 => (if t436 = true then (if bt427.2 = bt431.2 then ((thalwegref04_Same.f kj3 t424 l0).bind fun t437 => (some t437)) else (none)) else (none))) else (none))))) = some r := H
      have A8 := YE A80; clear A80; replace H := Option.bind_eq_some_iff.mp H
      obtain ⟨⟨t427, t428⟩, A90, H⟩ := H
      replace H : ((thalwegref05_Pack.f kj3 l0 a1 a2).bind fun bt431 => ((thalweglaw05_awake.f kj3).bind fun t435 => (if t435 = true then ((thalwegref05_Same.f kj3 t427 bt431.1).bind fun t436 => (if t436 = true then (if t428 = bt431.2 then ((thalwegref04_Same.f kj3 t424 l0).bind fun t437 => (some t437)) else (none)) else (none))) else (none)))) = some r := H
      have A9 := YE A90; clear A90; replace H := Option.bind_eq_some_iff.mp H
      obtain ⟨⟨t431, t432⟩, A100, H⟩ := H
      replace H : ((thalweglaw05_awake.f kj3).bind fun t435 => (if t435 = true then ((thalwegref05_Same.f kj3 t427 t431).bind fun t436 => (if t436 = true then (if t428 = t432 then ((thalwegref04_Same.f kj3 t424 l0).bind fun t437 => (some t437)) else (none)) else (none))) else (none))) = some r := H
      have A10 := YE A100; clear A100; replace H := Option.bind_eq_some_iff.mp H; obtain ⟨t435, A110, H⟩ := H
      replace H : (if t435 = true then ((thalwegref05_Same.f kj3 t427 t431).bind fun t436 => (if t436 = true then (if t428 = t432 then ((thalwegref04_Same.f kj3 t424 l0).bind fun t437 => (some t437)) else (none)) else (none))) else (none)) = some r := H
      have A11 := YE A110; clear A110
      by_cases c12 : t435 = true
      · subst c12
        have H1 : ((thalwegref05_Same.f kj3 t427 t431).bind fun t436 => (if t436 = true then (if t428 = t432 then ((thalwegref04_Same.f kj3 t424 l0).bind fun t437 => (some t437)) else (none)) else (none))) = some r := by rw [if_pos rfl] at H; exact H
        clear H
        have H := H1
        clear H1; replace H := Option.bind_eq_some_iff.mp H; obtain ⟨t436, A130, H⟩ := H
        replace H : (if t436 = true then (if t428 = t432 then ((thalwegref04_Same.f kj3 t424 l0).bind fun t437 => (some t437)) else (none)) else (none)) = some r := H
        have A13 := YE A130; clear A130
        by_cases c14 : t436 = true
        · subst c14
          have H1 : (if t428 = t432 then ((thalwegref04_Same.f kj3 t424 l0).bind fun t437 => (some t437)) else (none)) = some r := by rw [if_pos rfl] at H; exact H
          clear H
          have H := H1
          clear H1
          by_cases c15 : t428 = t432
          rotate_left
          · rw [if_neg c15] at H
            exact absurd H (by simp)
          rw [if_pos c15] at H
          have c15b0 : (t428 == t432) = true := beq_iff_eq.mpr c15
          have c15b1 : (t428 != t432) = false := bne_eq_false_iff_eq.mpr c15
          clear c15; replace H := Option.bind_eq_some_iff.mp H; obtain ⟨t437, A160, H⟩ := H
          replace H : (some t437) = some r := H
          have A16 := YE A160; clear A160
          obtain rfl := Option.some.inj H
          go_wp2_with (first | ((with_reducible refine gate_callee (f := 8) rfl ?_); refine goesL_ (some 26) rfl rfl Try.func8 (by kernel_rfl) rfl #[.slice A0 l0.length c0] rfl (by (try simp only [YF, List.map_cons, List.map_nil]); first | done | rfl | (simp only [YH, YG]; rfl)) ?_; (with_reducible refine (thalwegref04_Own.calls _ _ l0 t424 _ ?side1 ?side2 A8.out).mono ?_); (case side1 => repeat (first | exact (Kd.C_below HR0.out HB.out) | (with_reducible refine Kd.C_alloc ?_ _) | (with_reducible refine Kd.C_drewN ?_ _) | (with_reducible refine Kd.C_drew ?_))); (case side2 => exact HC0.out); rintro e w17 ⟨v425, rfl, ho0, hb⟩; refine ⟨_, rfl, ?_⟩; have n0_ := YE (Kd.R_lower ho0 (below_size (by repeat (first | (with_reducible first | exact HB.out | apply YA | apply YB | apply YC) | exact HB.out)))); have n1_ := YE (YD (by repeat (first | (with_reducible first | exact HB.out | apply YA | apply YB | apply YC) | exact HB.out)) hb); clear HB; have HO426 := n0_; have HB := n1_; clear n0_ n1_; (try clear hb); (try clear hb2); (try clear hk); (try clear hi); (try clear ho0); obtain ⟨Ao18, co18, eo18⟩ := Kd.R_slice HO426.out; subst eo18) | ((with_reducible refine gate_callee (f := 15) rfl ?_); refine goesL_ (some 31) rfl rfl Try.func15 (by kernel_rfl) rfl #[.slice Ao18 t424.length co18, .int .i64 a1, .int .i64 a2] rfl (by (try simp only [YF, List.map_cons, List.map_nil]); first | done | rfl | (simp only [YH, YG]; rfl)) ?_; (with_reducible refine (batch_Pack.calls kj3 _ _ t424 a1 a2 t427 t428 _ ?side1 ?side2 A9.out).mono ?_); (case side1 => repeat (first | exact (Kd.R_reads' HO426.out).2.2 | (with_reducible refine Kd.C_alloc ?_ _) | (with_reducible refine Kd.C_drewN ?_ _) | (with_reducible refine Kd.C_drew ?_))); (case side2 => exact (Kd.R_reads' HO426.out).2.1); rintro e w19 ⟨v429, rfl, ho0, hb⟩; refine ⟨_, rfl, ?_⟩; have n0_ := YE (Kd.R_below (by (with_reducible repeat (first | apply YI | apply YJ | apply YK)); exact HO426.out) hb); have n1_ := YE (Kd.S_lower (Kd.S_new' ho0 (Kd.R_lt (by (with_reducible repeat (first | apply YI | apply YJ | apply YK)); exact HO426.out))) (below_size (by repeat (first | (with_reducible first | exact HB.out | apply YA | apply YB | apply YC) | exact HB.out)))); have n2_ := YE (YD (by repeat (first | (with_reducible first | exact HB.out | apply YA | apply YB | apply YC) | exact HB.out)) hb); clear HO426; clear HB; have HO426 := n0_; have HO430 := n1_; have HB := n2_; clear n0_ n1_ n2_; (try clear hb); (try clear hb2); (try clear hk); (try clear hi); (try clear ho0)) | ((with_reducible refine gate_callee (f := 16) rfl ?_); refine goesL_ (some 38) rfl rfl Try.func16 (by kernel_rfl) rfl #[.slice A0 l0.length c0, .int .i64 a1, .int .i64 a2] rfl (by (try simp only [YF, List.map_cons, List.map_nil]); first | done | rfl | (simp only [YH, YG]; rfl)) ?_; (with_reducible refine (thalwegref05_Pack.calls kj3 _ _ l0 a1 a2 t431 t432 _ ?side1 ?side2 A10.out).mono ?_); (case side1 => repeat (first | exact (Kd.C_below HR0.out HB.out) | (with_reducible refine Kd.C_alloc ?_ _) | (with_reducible refine Kd.C_drewN ?_ _) | (with_reducible refine Kd.C_drew ?_))); (case side2 => exact HC0.out); rintro e w20 ⟨v433, rfl, ho0, hb⟩; refine ⟨_, rfl, ?_⟩; have n0_ := YE (Kd.R_below (by (with_reducible repeat (first | apply YI | apply YJ | apply YK)); exact HO426.out) hb); have n1_ := YE (Kd.S_elder' (by (with_reducible repeat (first | apply Kd.S_alloc | apply Kd.S_drewN | apply Kd.S_drew)); exact HO430.out) (Kd.S_base ho0) hb); have n2_ := YE (Kd.S_lower (Kd.S_new' (Kd.S_new' ho0 (Kd.R_lt (by (with_reducible repeat (first | apply YI | apply YJ | apply YK)); exact HO426.out))) (Kd.S_lt (by (with_reducible repeat (first | apply Kd.S_alloc | apply Kd.S_drewN | apply Kd.S_drew)); exact HO430.out))) (below_size (by repeat (first | (with_reducible first | exact HB.out | apply YA | apply YB | apply YC) | exact HB.out)))); have n3_ := YE (YD (by repeat (first | (with_reducible first | exact HB.out | apply YA | apply YB | apply YC) | exact HB.out)) hb); clear HO426; clear HO430; clear HB; have HO426 := n0_; have HO430 := n1_; have HO434 := n2_; have HB := n3_; clear n0_ n1_ n2_ n3_; (try clear hb); (try clear hb2); (try clear hk); (try clear hi); (try clear ho0)) | ((with_reducible refine gate_callee (f := 11) rfl ?_); refine goesL_ (some 41) rfl rfl Try.func11 (by kernel_rfl) rfl #[] rfl (by (try simp only [YF, List.map_cons, List.map_nil]); first | done | rfl | (simp only [YH, YG]; rfl)) ?_; (with_reducible refine (thalweglaw05_awake.calls kj3  true _ A11.out).mono ?_); rintro e w21 ⟨rfl, hb⟩; refine ⟨_, rfl, ?_⟩; have n0_ := YE (Kd.R_below (by (with_reducible repeat (first | apply YI | apply YJ | apply YK)); exact HO426.out) hb); have n1_ := YE (Kd.S_below (by (with_reducible repeat (first | apply Kd.S_alloc | apply Kd.S_drewN | apply Kd.S_drew)); exact HO430.out) hb); have n2_ := YE (Kd.S_below (by (with_reducible repeat (first | apply Kd.S_alloc | apply Kd.S_drewN | apply Kd.S_drew)); exact HO434.out) hb); have n3_ := YE (YD (by repeat (first | (with_reducible first | exact HB.out | apply YA | apply YB | apply YC) | exact HB.out)) hb); clear HO426; clear HO430; clear HO434; clear HB; have HO426 := n0_; have HO430 := n1_; have HO434 := n2_; have HB := n3_; clear n0_ n1_ n2_ n3_; (try clear hb); (try clear hb2); (try clear hk); (try clear hi); obtain ⟨Ao22, co22, eo22⟩ := Kd.S_slice HO430.out; subst eo22; obtain ⟨Ao23, co23, eo23⟩ := Kd.S_slice HO434.out; subst eo23) | (go_at_call 17; (with_reducible refine (thalwegref05_Same.calls kj3 _ _ t427 _ _ t431 true _ ?side1 ?side2 ?side3 ?side4 A13.out).mono ?_); (case side1 => repeat (first | exact (Kd.S_reads' HO430.out).2.2 | (with_reducible refine Kd.C_alloc ?_ _) | (with_reducible refine Kd.C_drewN ?_ _) | (with_reducible refine Kd.C_drew ?_))); (case side2 => exact (Kd.S_reads' HO430.out).2.1); (case side3 => repeat (first | exact (Kd.S_reads' HO434.out).2.2 | (with_reducible refine Kd.C_alloc ?_ _) | (with_reducible refine Kd.C_drewN ?_ _) | (with_reducible refine Kd.C_drew ?_))); (case side4 => exact (Kd.S_reads' HO434.out).2.1); rintro e w' ⟨rfl, ⟨nd, rfl⟩⟩) | (go_at_call 14; (with_reducible refine (thalwegref04_Same.calls kj3 _ _ t424 _ _ l0 t437 _ ?side1 ?side2 ?side3 ?side4 A16.out).mono ?_); (case side1 => repeat (first | exact (Kd.R_reads' HO426.out).2.2 | (with_reducible refine Kd.C_alloc ?_ _) | (with_reducible refine Kd.C_drewN ?_ _) | (with_reducible refine Kd.C_drew ?_))); (case side2 => exact (Kd.R_reads' HO426.out).2.1); (case side3 => repeat (first | exact (Kd.C_below HR0.out (by repeat (first | (with_reducible first | exact HB.out | apply YA | apply YB | apply YC) | exact HB.out))) | (with_reducible refine Kd.C_alloc ?_ _) | (with_reducible refine Kd.C_drewN ?_ _) | (with_reducible refine Kd.C_drew ?_))); (case side4 => exact HC0.out); rintro e w' ⟨rfl, ⟨nd, rfl⟩⟩))
          go_ret
          exact ⟨by first | rfl | (simp [errW_none, errW_some] <;> rfl) | (simp [*, errW_none, errW_some] <;> rfl), by repeat (first | (with_reducible first | exact HB.out | apply YA | apply YB | apply YC) | exact HB.out)⟩
        replace c14 := Bool.eq_false_iff.mpr c14
        subst c14
        have H1 : (none) = some r := by rw [if_neg (show ¬ (false = true) by decide)] at H; exact H
        clear H
        have H := H1
        clear H1
        exact absurd H (by simp)
      replace c12 := Bool.eq_false_iff.mpr c12
      subst c12
      have H1 : (none) = some r := by rw [if_neg (show ¬ (false = true) by decide)] at H; exact H
      clear H
      have H := H1
      clear H1
      exact absurd H (by simp)
end Go.Proofs.Ytfigbjjaffkidaa.P
namespace Go.Proofs.Ytfigbjjaffkidaa.P
open Go.RowKit YtfigbjjaffkidaaW.PrintWords
def thalweglaw05_BatchPacks.Pure : Prop := ∀ (l0 : List S45) (a1 : Int) (a2 : Int), (l0.length ≤ maxLen ∧ ∀ x0_ ∈ l0, ((Lit.int .i64 x0_.f0).wf = true ∧ (Lit.int .i64 x0_.f1).wf = true ∧ (True ∧ (Lit.int .i64 x0_.f2.f1).wf = true ∧ (Lit.int .i64 x0_.f2.f2).wf = true ∧ (Lit.int .i64 x0_.f2.f3).wf = true ∧ (Lit.int .i64 x0_.f2.f4).wf = true ∧ (Lit.int .i64 x0_.f2.f5).wf = true) ∧ ((Lit.int .i64 x0_.f3.f0).wf = true ∧ (Lit.int .i64 x0_.f3.f1).wf = true ∧ (Lit.int .i64 x0_.f3.f2).wf = true) ∧ (Lit.int .i64 x0_.f4).wf = true)) → (Lit.int .i64 a1).wf = true → (Lit.int .i64 a2).wf = true → ∃ k, thalweglaw05_BatchPacks.f k l0 a1 a2 = some true
end Go.Proofs.Ytfigbjjaffkidaa.P
namespace Go.Proofs.Ytfigbjjaffkidaa.P
open Go.RowKit YtfigbjjaffkidaaW.PrintWords YtfigbjjaffkidaaW.PrintLast YtfigbjjaffkidaaW.PrintMore
theorem wire_Int_eq (v : Int) : wire_Int.f v = some (intSpec v) := by
  unfold wire_Int.f wire_bytes.f intSpec
  rw [wrap_u64, if_pos (by omega)]
  rfl
end Go.Proofs.Ytfigbjjaffkidaa.P
namespace Go.Proofs.Ytfigbjjaffkidaa.P
open Go.RowKit YtfigbjjaffkidaaW.PrintWords YtfigbjjaffkidaaW.PrintLast YtfigbjjaffkidaaW.PrintMore
theorem intSpec_length (v : Int) : (intSpec v).length = 8 := be_length _ _
theorem ob_no (a0 a1 : Int) (a2 : Bool) (a3 a4 a5 a6 a7 a8 a9 a10 a11 c : Int) (h : Ev (fun k => object_Check.f k a0 a1 a2 a3 a4 a5 a6 a7 a8 a9 a10 a11) c) (hc : c ≠ 0) :
    Ev (fun k => object_Bytes.f k a0 a1 a2 a3 a4 a5 a6 a7 a8 a9 a10 a11) ([], c) := by
  unfold object_Bytes.f
  refine Ev.bind h ?_
  simp only [if_neg hc]
  exact Ev.now _
theorem os_ev (a0 a1 : Int) (a2 : Bool) (a3 a4 a5 a6 a7 a8 a9 a10 a11 : Int) (out : List Int × Int) (h : Ev (fun k => object_Bytes.f k a0 a1 a2 a3 a4 a5 a6 a7 a8 a9 a10 a11) out) :
    Ev (fun k => object_Size.f k a0 a1 a2 a3 a4 a5 a6 a7 a8 a9 a10 a11) (out.1.length : Int) := by
  unfold object_Size.f
  exact Ev.bind h (Ev.now _)
end Go.Proofs.Ytfigbjjaffkidaa.P
namespace Go.Proofs.Ytfigbjjaffkidaa.P
open Go.RowKit YtfigbjjaffkidaaW.PrintWords YtfigbjjaffkidaaW.PrintLast YtfigbjjaffkidaaW.PrintMore
def RH (n : Bool) (a b c d e : Int) : Prop := (0 ≤ e ∧ e < 64) ∧ ((n = true ∧ a = 0 ∧ b = 0 ∧ c = 0 ∧ d = 0) ∨ (n = false ∧ 0 ≤ a ∧ a ≤ 4611686018427387903 ∧ 0 ≤ b ∧ b < 64 ∧ 0 ≤ c ∧ c ≤ 1 ∧ -1099511627776 ≤ d ∧ d ≤ 1099511627776))
instance (n : Bool) (a b c d e : Int) : Decidable (RH n a b c d e) := by unfold RH; infer_instance
theorem hj_eq (k : Nat) (n x : Bool) (a b c d e : Int) : height_Check.j0 (k + 1) x n a b c d e = some (if x = true ∧ ((n = true ∧ a = 0 ∧ b = 0 ∧ c = 0 ∧ d = 0) ∨ (n = false ∧ 0 ≤ a ∧ a ≤ 4611686018427387903 ∧ 0 ≤ b ∧ b < 64 ∧ 0 ≤ c ∧ c ≤ 1 ∧ -1099511627776 ≤ d ∧ d ≤ 1099511627776)) then 0 else 1) := by
  simp only [height_Check.j0, height_Null.f, Option.bind_some]
  cases n <;> cases x <;> simp only [Bool.true_and, beq_self_eq_true, Bool.and_true, Bool.and_eq_true, beq_iff_eq, if_true, Bool.false_eq_true, if_false, true_and, false_and, or_false, false_or, Bool.true_eq_false, reduceCtorEq]
  · repeat' split
    all_goals first
      | rfl
      | (exfalso; omega)
  · by_cases h : a = 0 ∧ b = 0 ∧ c = 0 ∧ d = 0
    · rw [if_pos h, if_pos h]
    · rw [if_neg h, if_neg h]
theorem hc_eq (n : Bool) (a b c d e : Int) : Ev (fun k => height_Check.f k n a b c d e) (if RH n a b c d e then 0 else 1) := by
  unfold height_Check.f
  refine Ev.from 1 fun k => ?_
  rw [hj_eq, hj_eq]
  unfold RH
  by_cases h : e ≥ 0
  · rw [if_pos h]
    congr 1
    have h0 : 0 ≤ e := h
    simp only [decide_eq_true_eq, h0, true_and]
  · rw [if_neg h]
    have : ¬ 0 ≤ e := h
    simp only [this, false_and, Bool.false_eq_true]
theorem ha_eq (a b c d e : Int) : ∃ t : Bool × Int × Int × Int × Int × Int × Int, Ev (fun k => height_At.f k a b c d e) t ∧ t.2.2.2.2.2.2 = (if RH false a b c d e then 0 else 1) := by
  unfold height_At.f
  by_cases h : RH false a b c d e
  · have := hc_eq false a b c d e
    rw [if_pos h] at this
    rw [if_pos h]
    exact ⟨(false, a, b, c, d, e, 0), Ev.bind this (by simp only [if_true]; exact Ev.now _), rfl⟩
  · have := hc_eq false a b c d e
    rw [if_neg h] at this
    rw [if_neg h]
    exact ⟨(false, 0, 0, 0, 0, 0, 1), Ev.bind this (by simp only [if_neg (show ¬ (1 : Int) = 0 by decide)]; exact Ev.now _), rfl⟩
theorem ev_eq {α : Type} {g : Nat → Option α} {a b : α} (h : Ev g a) (e : a = b) : Ev g b := e ▸ h
end Go.Proofs.Ytfigbjjaffkidaa.P
namespace Go.Proofs.Ytfigbjjaffkidaa.P
open Go.RowKit YtfigbjjaffkidaaW.PrintWords YtfigbjjaffkidaaW.PrintLast YtfigbjjaffkidaaW.PrintMore
def RO (a0 a1 : Int) (a2 : Bool) (a3 a4 a5 a6 a7 a8 a9 a10 a11 : Int) : Prop := (0 ≤ a1 ∧ a1 < 64) ∧
  ((a0 = 1 ∧ (a8 = 0 ∧ a9 = 0 ∧ a10 = 0) ∧ (a2 = false ∧ a3 = 0 ∧ a4 = 0 ∧ a5 = 0 ∧ a6 = 0 ∧ a7 = 0) ∧ a11 = 0) ∨
   (a0 = 2 ∧ (a8 = 0 ∧ a9 = 0 ∧ a10 = 0) ∧ a11 = 0 ∧ RH a2 a3 a4 a5 a6 a7) ∨
   (a0 = 3 ∧ (a2 = false ∧ a3 = 0 ∧ a4 = 0 ∧ a5 = 0 ∧ a6 = 0 ∧ a7 = 0) ∧ a11 = 0 ∧ RH false a8 a9 a10 0 0) ∨
   (a0 = 4 ∧ (a8 = 0 ∧ a9 = 0 ∧ a10 = 0) ∧ 0 ≤ a11 ∧ a11 ≤ 65535 ∧ RH a2 a3 a4 a5 a6 a7 ∧ a2 = false))
instance (a0 a1 : Int) (a2 : Bool) (a3 a4 a5 a6 a7 a8 a9 a10 a11 : Int) : Decidable (RO a0 a1 a2 a3 a4 a5 a6 a7 a8 a9 a10 a11) := by unfold RO; infer_instance
theorem oj1_eq (x4 : Bool) (a0 a1 : Int) (a2 : Bool) (a3 a4 a5 a6 a7 a8 a9 a10 a11 : Int) (b2 : Bool) (b3 b4 b5 b6 b7 b8 b9 b10 b11 : Int) :
    Ev (fun k => object_Check.j1 k x4 a0 a1 a2 a3 a4 a5 a6 a7 a8 a9 a10 a11 0 0 b2 b3 b4 b5 b6 b7 b8 b9 b10 b11) (if x4 = true ∧ RH a2 a3 a4 a5 a6 a7 ∧ (b8 = 0 ∧ b9 = 0 ∧ b10 = 0) ∧ b11 = 0 then 0 else 1) := by
  refine Ev.step (f := fun k => _) (fun k => by simp only [object_Check.j1]; rfl) ?_
  cases x4 with
  | false => simp only [Bool.false_eq_true, if_false, false_and]; exact Ev.now _
  | true =>
    simp only [if_true, true_and]
    refine Ev.bind (hc_eq a2 a3 a4 a5 a6 a7) ?_
    by_cases h : RH a2 a3 a4 a5 a6 a7
    · simp only [if_pos h, if_true, h, true_and]
      by_cases g : (b8 = 0 ∧ b9 = 0 ∧ b10 = 0) ∧ b11 = 0
      · obtain ⟨⟨rfl, rfl, rfl⟩, rfl⟩ := g
        simp only [and_self, if_true]
        exact Ev.now _
      · rw [if_neg g]
        have : (!((0 : Int) == 0) || (!((0 : Int) == 0) || ((!(b8 == 0) || (!(b9 == 0) || (!(b10 == 0)))) || (!(b11 == 0))))) = true := by
          rw [← Bool.not_eq_false]
          intro hf
          simp only [Bool.or_eq_false_iff, Bool.not_eq_false', beq_iff_eq] at hf
          exact g ⟨⟨hf.2.2.1.1, hf.2.2.1.2.1, hf.2.2.1.2.2⟩, hf.2.2.2⟩
        simp only [if_pos this]
        exact Ev.now _
    · simp only [if_neg h, h, false_and, if_false, show ¬ (1 : Int) = 0 by decide]
      exact Ev.now _
theorem oc_eq (a0 a1 : Int) (a2 : Bool) (a3 a4 a5 a6 a7 a8 a9 a10 a11 : Int) : Ev (fun k => object_Check.f k a0 a1 a2 a3 a4 a5 a6 a7 a8 a9 a10 a11) (if RO a0 a1 a2 a3 a4 a5 a6 a7 a8 a9 a10 a11 then 0 else 1) := by
  have hj : ∀ x : Bool, Ev (fun k => object_Check.j0 k x a0 a1 a2 a3 a4 a5 a6 a7 a8 a9 a10 a11 0 0 a2 a3 a4 a5 a6 a7 a8 a9 a10 a11) (if x = true ∧
    ((a0 = 1 ∧ (a8 = 0 ∧ a9 = 0 ∧ a10 = 0) ∧ (a2 = false ∧ a3 = 0 ∧ a4 = 0 ∧ a5 = 0 ∧ a6 = 0 ∧ a7 = 0) ∧ a11 = 0) ∨
     (a0 = 2 ∧ (a8 = 0 ∧ a9 = 0 ∧ a10 = 0) ∧ a11 = 0 ∧ RH a2 a3 a4 a5 a6 a7) ∨
     (a0 = 3 ∧ (a2 = false ∧ a3 = 0 ∧ a4 = 0 ∧ a5 = 0 ∧ a6 = 0 ∧ a7 = 0) ∧ a11 = 0 ∧ RH false a8 a9 a10 0 0) ∨
     (a0 = 4 ∧ (a8 = 0 ∧ a9 = 0 ∧ a10 = 0) ∧ 0 ≤ a11 ∧ a11 ≤ 65535 ∧ RH a2 a3 a4 a5 a6 a7 ∧ a2 = false)) then 0 else 1) := by
    intro x
    refine Ev.step (f := fun k => _) (fun k => by simp only [object_Check.j0]; rfl) ?_
    by_cases h1 : a0 = 1
    · subst h1
      simp only [if_true, show ¬ (1 : Int) = 2 by decide, show ¬ (1 : Int) = 3 by decide, show ¬ (1 : Int) = 4 by decide, false_and, or_false, true_and]
      cases x with
      | false => simp only [Bool.false_eq_true, if_false, false_and]; exact Ev.now _
      | true =>
        simp only [if_true, true_and]
        by_cases g : (a8 = 0 ∧ a9 = 0 ∧ a10 = 0) ∧ (a2 = false ∧ a3 = 0 ∧ a4 = 0 ∧ a5 = 0 ∧ a6 = 0 ∧ a7 = 0) ∧ a11 = 0
        · rw [if_pos g]
          obtain ⟨⟨rfl, rfl, rfl⟩, ⟨rfl, rfl, rfl, rfl, rfl, rfl⟩, rfl⟩ := g
          exact Ev.now _
        · rw [if_neg g]
          have : (!((0 : Int) == 0) || (!((0 : Int) == 0) || ((a2 || (!(a3 == 0) || (!(a4 == 0) || (!(a5 == 0) || (!(a6 == 0) || (!(a7 == 0))))))) || ((!(a8 == 0) || (!(a9 == 0) || (!(a10 == 0)))) || (!(a11 == 0)))))) = true := by
            rw [← Bool.not_eq_false]
            intro hf
            simp only [Bool.or_eq_false_iff, Bool.not_eq_false', beq_iff_eq] at hf
            obtain ⟨_, _, ⟨u2, u3, u4, u5, u6, u7⟩, ⟨u8, u9, u10⟩, u11⟩ := hf
            exact g ⟨⟨u8, u9, u10⟩, ⟨u2, u3, u4, u5, u6, u7⟩, u11⟩
          simp only [if_pos this]
          exact Ev.now _
    by_cases h4 : a0 = 4
    · subst h4
      simp only [if_true, if_neg h1, show ¬ (4 : Int) = 1 by decide, show ¬ (4 : Int) = 2 by decide, show ¬ (4 : Int) = 3 by decide, false_and, false_or, true_and]
      cases x with
      | false =>
        simp only [Bool.false_eq_true, if_false, false_and]
        refine ev_eq (oj1_eq _ _ _ _ _ _ _ _ _ _ _ _ _ _ _ _ _ _ _ _ _ _ _) ?_
        simp only [Bool.false_eq_true, false_and, if_false]
      | true =>
        simp only [if_true, true_and]
        cases a2 with
        | true =>
          simp only [if_true, Bool.true_eq_false, and_false, if_false]
          refine ev_eq (oj1_eq _ _ _ _ _ _ _ _ _ _ _ _ _ _ _ _ _ _ _ _ _ _ _) ?_
          simp only [Bool.false_eq_true, false_and, if_false]
        | false =>
          simp only [Bool.false_eq_true, if_false, and_true]
          by_cases g : a11 ≥ 0
          · simp only [if_pos g]
            refine ev_eq (oj1_eq _ _ _ _ _ _ _ _ _ _ _ _ _ _ _ _ _ _ _ _ _ _ _) ?_
            have g0 : 0 ≤ a11 := g
            simp only [decide_eq_true_eq, g0, true_and, and_true]
            congr 1
            apply propext
            constructor
            · rintro ⟨u, v, w⟩; exact ⟨w, u, v⟩
            · rintro ⟨w, u, v⟩; exact ⟨u, v, w⟩
          · simp only [if_neg g]
            refine ev_eq (oj1_eq _ _ _ _ _ _ _ _ _ _ _ _ _ _ _ _ _ _ _ _ _ _ _) ?_
            have g' : ¬ 0 ≤ a11 := g
            simp only [g', Bool.false_eq_true, false_and, and_false, if_false]
    by_cases h2 : a0 = 2
    · subst h2
      simp only [if_neg h1, if_neg h4, if_true, show ¬ (2 : Int) = 1 by decide, show ¬ (2 : Int) = 4 by decide, show ¬ (2 : Int) = 3 by decide, false_and, false_or, or_false, true_and]
      refine ev_eq (oj1_eq _ _ _ _ _ _ _ _ _ _ _ _ _ _ _ _ _ _ _ _ _ _ _) ?_
      congr 1
      apply propext
      constructor
      · rintro ⟨u, v, w, z⟩; exact ⟨u, w, z, v⟩
      · rintro ⟨u, w, z, v⟩; exact ⟨u, v, w, z⟩
    by_cases h3 : a0 = 3
    · subst h3
      simp only [if_neg h1, if_neg h4, if_neg h2, if_true, show ¬ (3 : Int) = 1 by decide, show ¬ (3 : Int) = 4 by decide, show ¬ (3 : Int) = 2 by decide, false_and, false_or, or_false, true_and]
      obtain ⟨t, ht, he⟩ := ha_eq a8 a9 a10 0 0
      refine Ev.bind ht ?_
      rw [he]
      cases x with
      | false => simp only [Bool.false_eq_true, if_false, false_and]; exact Ev.now _
      | true =>
        simp only [if_true, true_and]
        by_cases h : RH false a8 a9 a10 0 0
        · simp only [if_pos h, h, if_true, and_true]
          by_cases g : (a2 = false ∧ a3 = 0 ∧ a4 = 0 ∧ a5 = 0 ∧ a6 = 0 ∧ a7 = 0) ∧ a11 = 0
          · rw [if_pos g]
            obtain ⟨⟨rfl, rfl, rfl, rfl, rfl, rfl⟩, rfl⟩ := g
            exact Ev.now _
          · rw [if_neg g]
            have : (!((0 : Int) == 0) || (!((0 : Int) == 0) || ((a2 || (!(a3 == 0) || (!(a4 == 0) || (!(a5 == 0) || (!(a6 == 0) || (!(a7 == 0))))))) || (!(a11 == 0))))) = true := by
              rw [← Bool.not_eq_false]
              intro hf
              simp only [Bool.or_eq_false_iff, Bool.not_eq_false', beq_iff_eq] at hf
              obtain ⟨_, _, ⟨u2, u3, u4, u5, u6, u7⟩, u11⟩ := hf
              exact g ⟨⟨u2, u3, u4, u5, u6, u7⟩, u11⟩
            simp only [if_pos this]
            exact Ev.now _
        · simp only [if_neg h, h, show ¬ (1 : Int) = 0 by decide, if_false, and_false]
          exact Ev.now _
    · simp only [if_neg h1, if_neg h4, if_neg h2, if_neg h3, h1, h2, h3, h4, false_and, or_false, and_false, if_false]
      exact Ev.now _
  unfold object_Check.f RO
  by_cases h : a1 ≥ 0
  · simp only [if_pos h]
    refine ev_eq (hj _) ?_
    have g0 : 0 ≤ a1 := h
    simp only [decide_eq_true_eq, g0, true_and]
  · simp only [if_neg h]
    refine ev_eq (hj _) ?_
    have h' : ¬ 0 ≤ a1 := h
    simp only [h', Bool.false_eq_true, false_and, and_false, if_false]
end Go.Proofs.Ytfigbjjaffkidaa.P
namespace Go.Proofs.Ytfigbjjaffkidaa.P
open Go.RowKit YtfigbjjaffkidaaW.PrintWords YtfigbjjaffkidaaW.PrintLast YtfigbjjaffkidaaW.PrintMore
def hB (n : Bool) (a b c d e : Int) : List Int := if n = true then [0, e % 256] else [1] ++ intSpec a ++ [b % 256, c % 256] ++ intSpec d ++ [e % 256]
theorem hB_length (n : Bool) (a b c d e : Int) : (hB n a b c d e).length = if n = true then 2 else 20 := by
  unfold hB
  cases n
  · simp only [Bool.false_eq_true, if_false, List.length_append, intSpec_length, List.length_cons, List.length_nil]
  · rfl
theorem hb_eq (n : Bool) (a b c d e : Int) (h : RH n a b c d e) : Ev (fun k => height_Bytes.f k n a b c d e) (hB n a b c d e, 0) := by
  have hc := hc_eq n a b c d e
  rw [if_pos h] at hc
  unfold height_Bytes.f hB
  refine Ev.bind hc ?_
  cases n with
  | true =>
    simp only [if_true, List.length_nil, List.nil_append, Option.bind_some, List.length_singleton]
    simp only [show (0 : Nat) < 140737488355328 by decide, show (1 : Nat) < 140737488355328 by decide, if_true]
    exact Ev.now _
  | false =>
    simp only [if_true, Bool.false_eq_true, if_false, List.length_nil, List.nil_append, Option.bind_some, List.length_singleton, wire_Int_eq, List.length_append, intSpec_length, List.length_cons]
    simp only [show (0 : Nat) < 140737488355328 by decide, Nat.reduceAdd, Nat.reduceLT, if_true]
    exact Ev.now _
def oB (a0 a1 : Int) (a2 : Bool) (a3 a4 a5 a6 a7 a8 a9 a10 a11 : Int) : List Int :=
  [a0 % 256, a1 % 256] ++ (if a0 = 1 then [] else if a0 = 3 then intSpec a8 ++ [a9 % 256, a10 % 256] else if a0 = 4 then hB a2 a3 a4 a5 a6 a7 ++ [a11 / 256 % 256, a11 % 256] else hB a2 a3 a4 a5 a6 a7)
theorem obx (a0 a1 : Int) (a2 : Bool) (a3 a4 a5 a6 a7 a8 a9 a10 a11 : Int) (h : RO a0 a1 a2 a3 a4 a5 a6 a7 a8 a9 a10 a11) :
    Ev (fun k => object_Bytes.f k a0 a1 a2 a3 a4 a5 a6 a7 a8 a9 a10 a11) (oB a0 a1 a2 a3 a4 a5 a6 a7 a8 a9 a10 a11, 0) := by
  have hc := oc_eq a0 a1 a2 a3 a4 a5 a6 a7 a8 a9 a10 a11
  rw [if_pos h] at hc
  unfold object_Bytes.f
  refine Ev.bind hc ?_
  simp only [if_true, Option.bind_some]
  rcases h.2 with ⟨rfl, _⟩ | ⟨rfl, _, _, hh⟩ | ⟨rfl, _⟩ | ⟨rfl, _, _, _, hh, rfl⟩
  · simp only [if_neg (show ¬ (1 : Int) = 2 by decide), show ((1 : Int) == 4) = false by decide]
    refine Ev.step (f := fun k => _) (fun k => by simp only [object_Bytes.j0]; rfl) ?_
    simp only [Bool.false_eq_true, if_false, if_neg (show ¬ (1 : Int) = 3 by decide), if_neg (show ¬ (1 : Int) = 4 by decide)]
    exact Ev.now _
  · simp only [show ((2 : Int) == 2) = true by decide, if_true]
    refine Ev.step (f := fun k => _) (fun k => by simp only [object_Bytes.j0]; rfl) ?_
    simp only [if_true]
    refine Ev.bind (hb_eq _ _ _ _ _ _ hh) ?_
    have hl := hB_length a2 a3 a4 a5 a6 a7
    have : [2 % 256, a1 % 256].length + (hB a2 a3 a4 a5 a6 a7).length < 140737488355328 := by rw [hl]; simp; split <;> omega
    simp only [if_true, if_pos this, Option.bind_some, if_neg (show ¬ (2 : Int) = 4 by decide)]
    exact Ev.now _
  · simp only [if_neg (show ¬ (3 : Int) = 2 by decide), show ((3 : Int) == 4) = false by decide]
    refine Ev.step (f := fun k => _) (fun k => by simp only [object_Bytes.j0]; rfl) ?_
    simp only [Bool.false_eq_true, if_false, if_true, wire_Int_eq, Option.bind_some, List.length_append, intSpec_length, List.length_cons, List.length_nil, Nat.reduceAdd, Nat.reduceLT, if_neg (show ¬ (3 : Int) = 4 by decide)]
    refine ev_eq (Ev.now _) ?_
    unfold oB
    rw [if_neg (show ¬ (3 : Int) = 1 by decide), if_pos rfl, List.append_assoc]
  · simp only [if_neg (show ¬ (4 : Int) = 2 by decide), show ((4 : Int) == 4) = true by decide]
    refine Ev.step (f := fun k => _) (fun k => by simp only [object_Bytes.j0]; rfl) ?_
    simp only [if_true]
    refine Ev.bind (hb_eq _ _ _ _ _ _ hh) ?_
    have h20 : (hB false a3 a4 a5 a6 a7).length = 20 := by rw [hB_length]; rfl
    simp only [List.length_append, List.length_cons, List.length_nil, h20, Nat.reduceAdd, Nat.reduceLT, if_true, Option.bind_some]
    refine ev_eq (Ev.now _) ?_
    unfold oB
    rw [if_neg (show ¬ (4 : Int) = 1 by decide), if_neg (show ¬ (4 : Int) = 3 by decide), if_pos rfl, List.append_assoc]
theorem obn (a0 a1 : Int) (a2 : Bool) (a3 a4 a5 a6 a7 a8 a9 a10 a11 : Int) (h : ¬ RO a0 a1 a2 a3 a4 a5 a6 a7 a8 a9 a10 a11) :
    Ev (fun k => object_Bytes.f k a0 a1 a2 a3 a4 a5 a6 a7 a8 a9 a10 a11) ([], 1) := by
  have hc := oc_eq a0 a1 a2 a3 a4 a5 a6 a7 a8 a9 a10 a11
  rw [if_neg h] at hc
  exact ob_no _ _ _ _ _ _ _ _ _ _ _ _ _ hc (by decide)
end Go.Proofs.Ytfigbjjaffkidaa.P
namespace Go.Proofs.Ytfigbjjaffkidaa.P
open Go.RowKit YtfigbjjaffkidaaW.PrintWords YtfigbjjaffkidaaW.PrintLast YtfigbjjaffkidaaW.PrintMore
theorem intSpec_be (v : Int) : intSpec v = be 8 v := by
  unfold intSpec
  have h := be_add 8 (v % 18446744073709551616) (v / 18446744073709551616)
  rw [show (256 : Int) ^ 8 = 18446744073709551616 by decide] at h
  rw [← h]
  congr 1
  omega
theorem int_left (v : Int) (h0 : -9223372036854775808 ≤ v) (h1 : v ≤ 9223372036854775807) :
    (Int.tmod v 256 < 0 → (wrap64 (Int.tmod v 256 + 256)) % 256 = v % 256 ∧ wrap64 (Int.tdiv (wrap64 (v - wrap64 (Int.tmod v 256 + 256))) 256) = v / 256) ∧
    (¬ Int.tmod v 256 < 0 → Int.tmod v 256 % 256 = v % 256 ∧ wrap64 (Int.tdiv (wrap64 (v - Int.tmod v 256)) 256) = v / 256) := by
  have hm : Int.tmod v 256 = v % 256 ∨ (Int.tmod v 256 = v % 256 - 256 ∧ v < 0 ∧ v % 256 ≠ 0) := by
    rw [Int.tmod_eq_emod]
    split
    · left; omega
    · rename_i hc
      rw [not_or] at hc
      by_cases hz : v % 256 = 0
      · exact absurd (Int.dvd_of_emod_eq_zero hz) hc.2
      · right; refine ⟨by simp, by omega, hz⟩
  have hdiv : ∀ a q : Int, a = 256 * q → Int.tdiv a 256 = q := fun a q h => by rw [h, Int.mul_tdiv_cancel_left _ (by decide)]
  constructor
  · intro hneg
    rcases hm with hm | ⟨hm, hv, hz⟩
    · omega
    · rw [hm, w64 (x := v % 256 - 256 + 256) (by omega) (by omega)]
      refine ⟨by omega, ?_⟩
      by_cases hlow : -9223372036854775808 ≤ v - (v % 256 - 256 + 256)
      · rw [w64 (x := v - _) (by omega) (by omega), hdiv _ (v / 256) (by omega), w64 (by omega) (by omega)]
      · exact absurd (show v % 256 = 0 by omega) hz
  · intro hpos
    rcases hm with hm | ⟨hm, hv, hz⟩
    · rw [hm]
      refine ⟨by omega, ?_⟩
      rw [w64 (x := v - _) (by omega) (by omega), hdiv _ (v / 256) (by omega), w64 (by omega) (by omega)]
    · omega
theorem refInt_l0 (v : Int) (h0 : -9223372036854775808 ≤ v) (h1 : v ≤ 9223372036854775807) : ∀ (d i : Nat), i + d = 7 →
    Ev (fun k => thalwegref01_Int.l0 k (v / 256 ^ i) (List.replicate (8 - i) 0 ++ be i v) (7 - (i : Int))) (be 8 v) := by
  have fin : ∀ (x : Int) (l : List Int), Ev (fun k => thalwegref01_Int.l0 k x l (-1)) l := fun x l => Ev.from 1 fun k => by
    simp only [thalwegref01_Int.l0]
    rw [if_neg (by decide)]
  have lo : ∀ i : Nat, -9223372036854775808 ≤ v / 256 ^ i ∧ v / 256 ^ i ≤ 9223372036854775807 := by
    intro i
    have hp := pow256_pos i
    generalize (256 : Int) ^ i = p at *
    have h2 := Int.emod_add_mul_ediv v p
    have h3 := Int.emod_nonneg v (show p ≠ 0 by omega)
    have h4 := Int.emod_lt_of_pos v hp
    have hup : v ≤ 0 → v / p ≤ 0 := by
      intro hv
      rcases Int.le_total (v / p) 0 with hq | hq
      · exact hq
      · rcases Int.lt_or_le 0 (v / p) with hq2 | hq2
        · have h5 : p * 1 ≤ p * (v / p) := Int.mul_le_mul_of_nonneg_left (by omega) (by omega)
          omega
        · exact hq2
    have hlo : v ≤ 0 → v ≤ v / p := by
      intro hv
      rcases Int.lt_or_le (v / p) v with hq | hq
      · have h5 : p * (v / p + 1) ≤ 1 * (v / p + 1) := Int.mul_le_mul_of_nonpos_right (by omega) (by omega)
        rw [Int.mul_add] at h5
        omega
      · exact hq
    constructor
    · rcases Int.le_total 0 v with hv | hv
      · have := Int.ediv_nonneg hv (Int.le_of_lt hp); omega
      · have := hlo hv; omega
    · rcases Int.le_total 0 v with hv | hv
      · have := Int.ediv_le_self p hv; omega
      · have := hup hv; omega
  intro d
  induction d with
  | zero =>
    intro i hi
    obtain rfl : i = 7 := by omega
    obtain ⟨hneg, hpos⟩ := int_left (v / 256 ^ 7) (lo 7).1 (lo 7).2
    have hs : ∀ x : Int, x = v / 256 ^ 7 % 256 → (List.replicate (8 - 7) (0 : Int) ++ be 7 v).set 0 x = be 8 v := by
      intro x hx
      rw [hx, show be 8 v = (v / 256 ^ 7 % 256) :: be 7 v from be_cons 7 v]
      exact be_set 0 _ _
    have hlen : (List.replicate (8 - 7) (0 : Int) ++ be 7 v).length = 8 := by rw [List.length_append, List.length_replicate, be_length]
    have t3 : (0 : Int) < ((List.replicate (8 - 7) (0 : Int) ++ be 7 v).length : Int) := by rw [hlen]; decide
    have hw : wrap64 ((0 : Int) - 1) = -1 := by unfold wrap64; omega
    have e0 : (7 : Int) - ((7 : Nat) : Int) = 0 := by decide
    refine Ev.step (f := fun k => _) (fun k => by simp only [thalwegref01_Int.l0]; rfl) ?_
    simp only [e0, if_pos (show (0 : Int) ≥ 0 by decide), if_pos (show (0 : Int) ≤ 0 by decide), if_pos t3, hw, if_true, Option.bind_some, Int.toNat_zero]
    by_cases c : Int.tmod (v / 256 ^ 7) 256 < 0
    · simp only [if_pos c, hs _ (hneg c).1]
      exact fin _ _
    · simp only [if_neg c, hs _ (hpos c).1]
      exact fin _ _
  | succ d ih =>
    intro i hi
    have hn2 := ih (i + 1) (by omega)
    obtain ⟨hneg, hpos⟩ := int_left (v / 256 ^ i) (lo i).1 (lo i).2
    have hs : ∀ x : Int, x = v / 256 ^ i % 256 → (List.replicate (8 - i) (0 : Int) ++ be i v).set (7 - (i : Int)).toNat x = List.replicate (8 - (i + 1)) 0 ++ be (i + 1) v := by
      intro x hx
      rw [hx, be_cons, show (7 - (i : Int)).toNat = 8 - (i + 1) by omega, show 8 - i = (8 - (i + 1)) + 1 by omega]
      exact be_set _ _ _
    have hlen : (List.replicate (8 - i) (0 : Int) ++ be i v).length = 8 := by rw [List.length_append, List.length_replicate, be_length]; omega
    have t1 : (7 : Int) - i ≥ 0 := by omega
    have t2 : 0 ≤ (7 : Int) - i := t1
    have t3 : (7 : Int) - i < ((List.replicate (8 - i) (0 : Int) ++ be i v).length : Int) := by rw [hlen]; omega
    have t4 : ¬ (7 : Int) - i = 0 := by omega
    have hw : wrap64 ((7 : Int) - i - 1) = 7 - ((i + 1 : Nat) : Int) := by rw [w64 (by omega) (by omega)]; omega
    have hdd : v / 256 ^ i / 256 = v / 256 ^ (i + 1) := by rw [Int.ediv_ediv_of_nonneg (Int.le_of_lt (pow256_pos i)), ← Int.pow_succ]
    refine Ev.step (f := fun k => _) (fun k => by simp only [thalwegref01_Int.l0]; rfl) ?_
    simp only [if_pos t1, if_pos t2, if_pos t3, hw, if_neg t4, Option.bind_some]
    by_cases c : Int.tmod (v / 256 ^ i) 256 < 0
    · simp only [if_pos c, hs _ (hneg c).1, (hneg c).2, hdd]
      exact hn2
    · simp only [if_neg c, hs _ (hpos c).1, (hpos c).2, hdd]
      exact hn2
theorem refInt_ev (v : Int) (hv : (Lit.int .i64 v).wf = true) : Ev (fun k => thalwegref01_Int.f k v) (intSpec v) := by
  have hb := bnd64 hv
  unfold thalwegref01_Int.f
  simp only [if_pos (show 8 ≤ 281474976710656 by decide)]
  rw [intSpec_be]
  have h := refInt_l0 v hb.1 hb.2 7 0 (by omega)
  simpa [be] using h
end Go.Proofs.Ytfigbjjaffkidaa.P
namespace Go.Proofs.Ytfigbjjaffkidaa.P
open Go.RowKit YtfigbjjaffkidaaW.PrintWords YtfigbjjaffkidaaW.PrintLast YtfigbjjaffkidaaW.PrintMore
theorem rows_get (rows : List (List Int)) (i : Int) (h0 : 0 ≤ i) (h1 : i < rows.length) : rows.drop i.toNat = rd_L7 rows i :: rows.drop (i + 1).toNat := by
  have hi : i.toNat < rows.length := by omega
  rw [List.drop_eq_getElem_cons hi, show (i + 1).toNat = i.toNat + 1 by omega]
  congr 1
  unfold rd_L7
  rw [List.getD_eq_getElem?_getD, List.getElem?_eq_getElem hi]
  rfl
theorem both_l0 (rows : List (List Int)) (hr : rows.length ≤ 1000) : ∀ (d : Nat) (i : Int) (acc : List Int), 0 ≤ i → (rows.length : Int) - i = d → acc.length + (rows.drop i.toNat).flatten.length < 140737488355328 →
    Ev (fun k => thalwegref01_Both.l0 k rows acc i) (acc ++ (rows.drop i.toNat).flatten) := by
  intro d
  induction d with
  | zero =>
    intro i acc h0 hd hl
    refine Ev.from 1 fun k => ?_
    simp only [thalwegref01_Both.l0]
    rw [if_neg (by omega), List.drop_eq_nil_of_le (by omega)]
    simp
  | succ d ih =>
    intro i acc h0 hd hl
    have h1 : i < (rows.length : Int) := by omega
    refine Ev.step (f := fun k => _) (fun k => by simp only [thalwegref01_Both.l0]; rfl) ?_
    rw [rows_get rows i h0 h1] at hl ⊢
    simp only [List.flatten_cons, List.length_append] at hl ⊢
    have hc : acc.length + (rd_L7 rows i).length < 140737488355328 := by omega
    simp only [if_pos h1, if_pos h0, if_pos hc, w64 (x := i + 1) (by omega) (by omega)]
    have := ih (i + 1) (acc ++ rd_L7 rows i) (by omega) (by omega) (by rw [List.length_append]; omega)
    rw [← List.append_assoc]
    exact this
theorem both_ev (rows : List (List Int)) (hr : rows.length ≤ 1000) (hl : rows.flatten.length < 140737488355328) : Ev (fun k => thalwegref01_Both.f k rows) rows.flatten := by
  unfold thalwegref01_Both.f
  have := both_l0 rows hr rows.length 0 [] (by omega) (by omega) (by simpa using hl)
  simpa using this
end Go.Proofs.Ytfigbjjaffkidaa.P
namespace Go.Proofs.Ytfigbjjaffkidaa.P
open Go.RowKit YtfigbjjaffkidaaW.PrintWords YtfigbjjaffkidaaW.PrintLast YtfigbjjaffkidaaW.PrintMore
theorem bool_same0 {p q : Prop} [Decidable p] [Decidable q] (h : p ↔ q) : (decide p) = (decide q) := by
  by_cases hp : p
  · rw [decide_eq_true hp, decide_eq_true (h.mp hp)]
  · rw [decide_eq_false hp, decide_eq_false (fun hq => hp (h.mpr hq))]
theorem rj_eq (k : Nat) (n x : Bool) (a b c d e : Int) : thalwegref02_Right.j0 (k + 1) x n a b c d e = some (decide (x = false ∧ ((n = true ∧ a = 0 ∧ b = 0 ∧ c = 0 ∧ d = 0) ∨ (n = false ∧ 0 ≤ a ∧ a ≤ 4611686018427387903 ∧ 0 ≤ b ∧ b < 64 ∧ 0 ≤ c ∧ c ≤ 1 ∧ -1099511627776 ≤ d ∧ d ≤ 1099511627776)))) := by
  simp only [thalwegref02_Right.j0]
  cases n <;> cases x <;> simp only [if_true, Bool.false_eq_true, if_false, true_and, false_and, or_false, false_or, Bool.true_eq_false, reduceCtorEq, decide_false]
  · repeat' split
    all_goals
      congr 1
      first
        | (rw [eq_comm, decide_eq_false_iff_not]; omega)
        | (apply bool_same0; omega)
  · congr 1
    rw [Bool.eq_iff_iff, decide_eq_true_eq]
    simp only [Bool.and_eq_true, beq_iff_eq]
theorem rr_eq (n : Bool) (a b c d e : Int) : Ev (fun k => thalwegref02_Right.f k n a b c d e) (decide (RH n a b c d e)) := by
  unfold thalwegref02_Right.f
  refine Ev.from 1 fun k => ?_
  rw [rj_eq, rj_eq]
  unfold RH
  by_cases h : e < 0
  · rw [if_pos h]
    have : ¬ 0 ≤ e := by omega
    simp only [this, false_and, Bool.true_eq_false]
  · rw [if_neg h]
    have h0 : 0 ≤ e := by omega
    simp only [decide_eq_false_iff_not, ge_iff_le, Int.not_le, h0, true_and]
theorem rb_eq (n : Bool) (a b c d e : Int) (h : RH n a b c d e) (wa : (Lit.int .i64 a).wf = true) (wd : (Lit.int .i64 d).wf = true) : Ev (fun k => thalwegref02_Bytes.f k n a b c d e) (hB n a b c d e, 0) := by
  have hc := rr_eq n a b c d e
  rw [decide_eq_true h] at hc
  unfold thalwegref02_Bytes.f hB
  refine Ev.bind hc ?_
  cases n with
  | true => simp only [if_true]; exact Ev.now _
  | false =>
    simp only [if_true, Bool.false_eq_true, if_false]
    refine Ev.bind (refInt_ev a wa) ?_
    refine Ev.bind (refInt_ev d wd) ?_
    refine Ev.bind (both_ev _ (by simp) (by simp [intSpec_length])) ?_
    refine ev_eq (Ev.now _) ?_
    simp
end Go.Proofs.Ytfigbjjaffkidaa.P
namespace Go.Proofs.Ytfigbjjaffkidaa.P
open Go.RowKit YtfigbjjaffkidaaW.PrintWords YtfigbjjaffkidaaW.PrintLast YtfigbjjaffkidaaW.PrintMore
theorem ror_eq (a0 a1 : Int) (a2 : Bool) (a3 a4 a5 a6 a7 a8 a9 a10 a11 : Int) : Ev (fun k => thalwegref04_Right.f k a0 a1 a2 a3 a4 a5 a6 a7 a8 a9 a10 a11) (decide (RO a0 a1 a2 a3 a4 a5 a6 a7 a8 a9 a10 a11)) := by
  have hlev : ((a8 == 0 && (a9 == 0 && (a10 == 0))) = true) = (a8 = 0 ∧ a9 = 0 ∧ a10 = 0) := by
    simp only [Bool.and_eq_true, beq_iff_eq]
  have hhei : ((!a2 && (a3 == 0 && (a4 == 0 && (a5 == 0 && (a6 == 0 && (a7 == 0)))))) = true) = (a2 = false ∧ a3 = 0 ∧ a4 = 0 ∧ a5 = 0 ∧ a6 = 0 ∧ a7 = 0) := by
    simp only [Bool.and_eq_true, beq_iff_eq, Bool.not_eq_true']
  have hj : ∀ x : Bool, Ev (fun k => thalwegref04_Right.j0 k x a0 a1 a2 a3 a4 a5 a6 a7 a8 a9 a10 a11) (decide (x = false ∧
    ((a0 = 1 ∧ (a8 = 0 ∧ a9 = 0 ∧ a10 = 0) ∧ (a2 = false ∧ a3 = 0 ∧ a4 = 0 ∧ a5 = 0 ∧ a6 = 0 ∧ a7 = 0) ∧ a11 = 0) ∨
     (a0 = 2 ∧ (a8 = 0 ∧ a9 = 0 ∧ a10 = 0) ∧ a11 = 0 ∧ RH a2 a3 a4 a5 a6 a7) ∨
     (a0 = 3 ∧ (a2 = false ∧ a3 = 0 ∧ a4 = 0 ∧ a5 = 0 ∧ a6 = 0 ∧ a7 = 0) ∧ a11 = 0 ∧ RH false a8 a9 a10 0 0) ∨
     (a0 = 4 ∧ (a8 = 0 ∧ a9 = 0 ∧ a10 = 0) ∧ 0 ≤ a11 ∧ a11 ≤ 65535 ∧ RH a2 a3 a4 a5 a6 a7 ∧ a2 = false)))) := by
    intro x
    refine Ev.step (f := fun k => _) (fun k => by simp only [thalwegref04_Right.j0]; rfl) ?_
    cases x with
    | true =>
      simp only [if_true, Bool.true_eq_false, false_and, decide_false]
      exact Ev.now _
    | false =>
      simp only [Bool.false_eq_true, if_false, true_and, hlev, hhei]
      by_cases h1 : a0 = 1
      · subst h1
        simp only [if_true, show ¬ (1 : Int) = 2 by decide, show ¬ (1 : Int) = 3 by decide, show ¬ (1 : Int) = 4 by decide, false_and, or_false, true_and]
        by_cases g : a8 = 0 ∧ a9 = 0 ∧ a10 = 0
        · simp only [if_pos g]
          by_cases g2 : a2 = false ∧ a3 = 0 ∧ a4 = 0 ∧ a5 = 0 ∧ a6 = 0 ∧ a7 = 0
          · simp only [if_pos g2]
            refine ev_eq (Ev.now _) ?_
            rw [Bool.eq_iff_iff, beq_iff_eq, decide_eq_true_eq]
            exact ⟨fun h => ⟨g, g2, h⟩, fun h => h.2.2⟩
          · simp only [if_neg g2]
            exact ev_eq (Ev.now _) (decide_eq_false fun h => g2 h.2.1).symm
        · simp only [if_neg g]
          exact ev_eq (Ev.now _) (decide_eq_false fun h => g h.1).symm
      by_cases h2 : a0 = 2
      · subst h2
        simp only [if_neg h1, if_true, show ¬ (2 : Int) = 1 by decide, show ¬ (2 : Int) = 3 by decide, show ¬ (2 : Int) = 4 by decide, false_and, false_or, or_false, true_and]
        by_cases g : a8 = 0 ∧ a9 = 0 ∧ a10 = 0
        · simp only [if_pos g]
          by_cases g2 : a11 = 0
          · simp only [if_pos g2]
            refine Ev.bind (rr_eq a2 a3 a4 a5 a6 a7) ?_
            refine ev_eq (Ev.now _) ?_
            exact bool_same0 ⟨fun h => ⟨g, g2, h⟩, fun h => h.2.2⟩
          · simp only [if_neg g2]
            exact ev_eq (Ev.now _) (decide_eq_false fun h => g2 h.2.1).symm
        · simp only [if_neg g]
          exact ev_eq (Ev.now _) (decide_eq_false fun h => g h.1).symm
      by_cases h3 : a0 = 3
      · subst h3
        simp only [if_neg h1, if_neg h2, if_true, show ¬ (3 : Int) = 1 by decide, show ¬ (3 : Int) = 2 by decide, show ¬ (3 : Int) = 4 by decide, false_and, false_or, or_false, true_and]
        by_cases g : a2 = false ∧ a3 = 0 ∧ a4 = 0 ∧ a5 = 0 ∧ a6 = 0 ∧ a7 = 0
        · simp only [if_pos g]
          by_cases g2 : a11 = 0
          · simp only [if_pos g2]
            refine Ev.bind (rr_eq false a8 a9 a10 0 0) ?_
            refine ev_eq (Ev.now _) ?_
            exact bool_same0 ⟨fun h => ⟨g, g2, h⟩, fun h => h.2.2⟩
          · simp only [if_neg g2]
            exact ev_eq (Ev.now _) (decide_eq_false fun h => g2 h.2.1).symm
        · simp only [if_neg g]
          exact ev_eq (Ev.now _) (decide_eq_false fun h => g h.1).symm
      by_cases h4 : a0 = 4
      · subst h4
        simp only [if_neg h1, if_neg h2, if_neg h3, if_true, show ¬ (4 : Int) = 1 by decide, show ¬ (4 : Int) = 2 by decide, show ¬ (4 : Int) = 3 by decide, false_and, false_or, or_false, true_and]
        by_cases g : a8 = 0 ∧ a9 = 0 ∧ a10 = 0
        · simp only [if_pos g]
          by_cases g2 : a11 ≥ 0
          · simp only [if_pos g2]
            by_cases g3 : a11 ≤ 65535
            · simp only [if_pos g3]
              unfold thalwegref02_Told.f
              refine Ev.bind (a := decide (RH a2 a3 a4 a5 a6 a7 ∧ a2 = false)) ?_ ?_
              · refine Ev.bind (rr_eq a2 a3 a4 a5 a6 a7) ?_
                by_cases hr : RH a2 a3 a4 a5 a6 a7
                · simp only [decide_eq_true hr, if_true]
                  refine ev_eq (Ev.now _) ?_
                  cases a2
                  · simp [hr]
                  · simp
                · simp only [decide_eq_false hr, Bool.false_eq_true, if_false]
                  exact ev_eq (Ev.now _) (decide_eq_false fun h => hr h.1).symm
              · refine ev_eq (Ev.now _) ?_
                exact bool_same0 ⟨fun h => ⟨g, g2, g3, h.1, h.2⟩, fun h => ⟨h.2.2.2.1, h.2.2.2.2⟩⟩
            · simp only [if_neg g3]
              exact ev_eq (Ev.now _) (decide_eq_false fun h => g3 h.2.2.1).symm
          · simp only [if_neg g2]
            exact ev_eq (Ev.now _) (decide_eq_false fun h => g2 h.2.1).symm
        · simp only [if_neg g]
          exact ev_eq (Ev.now _) (decide_eq_false fun h => g h.1).symm
      · simp only [if_neg h1, if_neg h2, if_neg h3, if_neg h4, h1, h2, h3, h4, false_and, or_false, decide_false]
        exact Ev.now _
  unfold thalwegref04_Right.f
  by_cases h : a1 < 0
  · simp only [if_pos h]
    refine ev_eq (hj _) (bool_same0 ⟨fun g => absurd g.1 (by decide), fun g => ?_⟩)
    have := g.1.1
    omega
  · simp only [if_neg h]
    refine ev_eq (hj _) (bool_same0 ⟨fun g => ⟨⟨by omega, ?_⟩, g.2⟩, fun g => ⟨?_, g.2⟩⟩)
    · have := of_decide_eq_false g.1
      omega
    · have := g.1.2
      exact decide_eq_false (by omega)
theorem robx (a0 a1 : Int) (a2 : Bool) (a3 a4 a5 a6 a7 a8 a9 a10 a11 : Int) (w3 : (Lit.int .i64 a3).wf = true) (w6 : (Lit.int .i64 a6).wf = true) (w8 : (Lit.int .i64 a8).wf = true) (h : RO a0 a1 a2 a3 a4 a5 a6 a7 a8 a9 a10 a11) :
    Ev (fun k => thalwegref04_Bytes.f k a0 a1 a2 a3 a4 a5 a6 a7 a8 a9 a10 a11) (oB a0 a1 a2 a3 a4 a5 a6 a7 a8 a9 a10 a11, 0) := by
  have hc := ror_eq a0 a1 a2 a3 a4 a5 a6 a7 a8 a9 a10 a11
  rw [decide_eq_true h] at hc
  unfold thalwegref04_Bytes.f
  refine Ev.bind hc ?_
  simp only [if_true, Option.bind_some]
  rcases h.2 with ⟨rfl, _⟩ | ⟨rfl, _, _, hh⟩ | ⟨rfl, _⟩ | ⟨rfl, _, hn0, hn1, hh, rfl⟩
  · simp only [if_neg (show ¬ (1 : Int) = 2 by decide), show ((1 : Int) == 4) = false by decide]
    refine Ev.step (f := fun k => _) (fun k => by simp only [thalwegref04_Bytes.j0]; rfl) ?_
    simp only [Bool.false_eq_true, if_false]
    refine Ev.step (f := fun k => _) (fun k => by simp only [thalwegref04_Bytes.j1]; rfl) ?_
    simp only [if_neg (show ¬ (1 : Int) = 3 by decide), if_neg (show ¬ (1 : Int) = 4 by decide)]
    exact Ev.now _
  · refine Ev.step (f := fun k => _) (fun k => by simp only [thalwegref04_Bytes.j0]; rfl) ?_
    simp only [if_true]
    refine Ev.bind (rb_eq _ _ _ _ _ _ hh w3 w6) ?_
    have hl := hB_length a2 a3 a4 a5 a6 a7
    have : [2 % 256, a1 % 256].length + (hB a2 a3 a4 a5 a6 a7).length < 140737488355328 := by rw [hl]; simp; split <;> omega
    simp only [if_pos this]
    refine Ev.step (f := fun k => _) (fun k => by simp only [thalwegref04_Bytes.j1]; rfl) ?_
    simp only [if_neg (show ¬ (2 : Int) = 3 by decide), if_neg (show ¬ (2 : Int) = 4 by decide)]
    exact Ev.now _
  · simp only [if_neg (show ¬ (3 : Int) = 2 by decide), show ((3 : Int) == 4) = false by decide]
    refine Ev.step (f := fun k => _) (fun k => by simp only [thalwegref04_Bytes.j0]; rfl) ?_
    simp only [Bool.false_eq_true, if_false]
    refine Ev.step (f := fun k => _) (fun k => by simp only [thalwegref04_Bytes.j1]; rfl) ?_
    simp only [if_true]
    refine Ev.bind (refInt_ev a8 w8) ?_
    simp only [Option.bind_some, List.length_append, intSpec_length, List.length_cons, List.length_nil, Nat.reduceAdd, Nat.reduceLT, if_true, if_neg (show ¬ (3 : Int) = 4 by decide)]
    refine ev_eq (Ev.now _) ?_
    unfold oB
    rw [if_neg (show ¬ (3 : Int) = 1 by decide), if_pos rfl, List.append_assoc]
  · simp only [if_neg (show ¬ (4 : Int) = 2 by decide), show ((4 : Int) == 4) = true by decide]
    refine Ev.step (f := fun k => _) (fun k => by simp only [thalwegref04_Bytes.j0]; rfl) ?_
    simp only [if_true]
    refine Ev.bind (rb_eq _ _ _ _ _ _ hh w3 w6) ?_
    have h20 : (hB false a3 a4 a5 a6 a7).length = 20 := by rw [hB_length]; rfl
    simp only [List.length_cons, List.length_nil, h20, Nat.reduceAdd, Nat.reduceLT, if_true]
    refine Ev.step (f := fun k => _) (fun k => by simp only [thalwegref04_Bytes.j1]; rfl) ?_
    simp only [if_neg (show ¬ (4 : Int) = 3 by decide), if_true, Option.bind_some, List.length_append, List.length_cons, List.length_nil, h20, Nat.reduceAdd, Nat.reduceLT]
    refine ev_eq (Ev.now _) ?_
    unfold oB
    rw [if_neg (show ¬ (4 : Int) = 1 by decide), if_neg (show ¬ (4 : Int) = 3 by decide), if_pos rfl, List.append_assoc, Int.tdiv_eq_ediv_of_nonneg hn0, Int.tmod_eq_emod_of_nonneg hn0, w64 (x := a11 / 256) (by omega) (by omega), Int.emod_emod_of_dvd _ (by decide)]
theorem robn (a0 a1 : Int) (a2 : Bool) (a3 a4 a5 a6 a7 a8 a9 a10 a11 : Int) (h : ¬ RO a0 a1 a2 a3 a4 a5 a6 a7 a8 a9 a10 a11) :
    Ev (fun k => thalwegref04_Bytes.f k a0 a1 a2 a3 a4 a5 a6 a7 a8 a9 a10 a11) ([], 1) := by
  have hc := ror_eq a0 a1 a2 a3 a4 a5 a6 a7 a8 a9 a10 a11
  rw [decide_eq_false h] at hc
  unfold thalwegref04_Bytes.f
  refine Ev.bind hc ?_
  simp only [Bool.false_eq_true, if_false]
  exact Ev.now _
end Go.Proofs.Ytfigbjjaffkidaa.P
namespace Go.Proofs.Ytfigbjjaffkidaa.P
open Go.RowKit YtfigbjjaffkidaaW.PrintWords YtfigbjjaffkidaaW.PrintLast YtfigbjjaffkidaaW.PrintMore
open Classical
theorem awake05 : Ev (fun k => thalweglaw05_awake.f k) true := Ev.of (fun k => thalweglaw05_awake.mono k) (k := 30) (by decide +kernel)
def OR (o : S45) : Prop := RO o.f0 o.f1 o.f2.f0 o.f2.f1 o.f2.f2 o.f2.f3 o.f2.f4 o.f2.f5 o.f3.f0 o.f3.f1 o.f3.f2 o.f4
def OB (o : S45) : List Int := oB o.f0 o.f1 o.f2.f0 o.f2.f1 o.f2.f2 o.f2.f3 o.f2.f4 o.f2.f5 o.f3.f0 o.f3.f1 o.f3.f2 o.f4
def OW (o : S45) : Prop := (Lit.int .i64 o.f2.f1).wf = true ∧ (Lit.int .i64 o.f2.f4).wf = true ∧ (Lit.int .i64 o.f3.f0).wf = true
noncomputable def sz (o : S45) : Int := if OR o then ((OB o).length : Int) else 0
theorem sz_yes {o : S45} (h : OR o) : sz o = ((OB o).length : Int) := if_pos h
theorem sz_no {o : S45} (h : ¬ OR o) : sz o = 0 := if_neg h
theorem OB_length (o : S45) : 2 ≤ (OB o).length ∧ (OB o).length ≤ 24 := by
  unfold OB oB
  rw [List.length_append]
  have h := hB_length o.f2.f0 o.f2.f1 o.f2.f2 o.f2.f3 o.f2.f4 o.f2.f5
  have h2 : (hB o.f2.f0 o.f2.f1 o.f2.f2 o.f2.f3 o.f2.f4 o.f2.f5).length ≤ 20 := by rw [h]; split <;> omega
  simp only [List.length_cons, List.length_nil]
  split
  · simp
  split
  · simp [intSpec_length]
  split
  · simp only [List.length_append, List.length_cons, List.length_nil]; omega
  · omega
theorem sz_range (o : S45) : 0 ≤ sz o ∧ sz o ≤ 24 := by
  have := OB_length o
  by_cases h : OR o
  · rw [sz_yes h]; omega
  · rw [sz_no h]; omega
noncomputable def sums (l : List S45) : Int := (l.map sz).sum
theorem sums_nil : sums [] = 0 := rfl
theorem sums_cons (o : S45) (l : List S45) : sums (o :: l) = sz o + sums l := by simp [sums]
theorem sums_append (l m : List S45) : sums (l ++ m) = sums l + sums m := by simp [sums]
theorem sums_range (l : List S45) : 0 ≤ sums l ∧ sums l ≤ 24 * l.length := by
  induction l with
  | nil => simp [sums]
  | cons o l ih => have := sz_range o; rw [sums_cons, List.length_cons]; omega
def Rights (l : List S45) : Prop := ∀ o ∈ l, OR o
theorem obs_get (l : List S45) (i : Int) (h0 : 0 ≤ i) (h1 : i < l.length) : l.drop i.toNat = rd_T45 l i :: l.drop (i + 1).toNat := by
  have hi : i.toNat < l.length := by omega
  rw [List.drop_eq_getElem_cons hi, show (i + 1).toNat = i.toNat + 1 by omega]
  congr 1
  unfold rd_T45
  rw [List.getD_eq_getElem?_getD, List.getElem?_eq_getElem hi]
  rfl
theorem obs_mem (l : List S45) (i : Int) (h0 : 0 ≤ i) (h1 : i < l.length) : rd_T45 l i ∈ l := by
  have := List.mem_of_mem_drop (l := l) (i := i.toNat) (a := rd_T45 l i) (by rw [obs_get l i h0 h1]; exact List.mem_cons_self)
  exact this
theorem size_ev (o : S45) : Ev (fun k => object_Size.f k o.f0 o.f1 o.f2.f0 o.f2.f1 o.f2.f2 o.f2.f3 o.f2.f4 o.f2.f5 o.f3.f0 o.f3.f1 o.f3.f2 o.f4) (sz o) := by
  by_cases h : OR o
  · rw [sz_yes h]
    exact os_ev _ _ _ _ _ _ _ _ _ _ _ _ _ (obx _ _ _ _ _ _ _ _ _ _ _ _ h)
  · rw [sz_no h]
    exact os_ev _ _ _ _ _ _ _ _ _ _ _ _ _ (obn _ _ _ _ _ _ _ _ _ _ _ _ h)
theorem wrong_ev (o : S45) : Ev (fun k => batch_wrong.f k o.f0 o.f1 o.f2.f0 o.f2.f1 o.f2.f2 o.f2.f3 o.f2.f4 o.f2.f5 o.f3.f0 o.f3.f1 o.f3.f2 o.f4) (decide (¬ OR o)) := by
  unfold batch_wrong.f
  by_cases h : OR o
  · have hc := oc_eq o.f0 o.f1 o.f2.f0 o.f2.f1 o.f2.f2 o.f2.f3 o.f2.f4 o.f2.f5 o.f3.f0 o.f3.f1 o.f3.f2 o.f4
    rw [if_pos (show RO _ _ _ _ _ _ _ _ _ _ _ _ from h)] at hc
    refine Ev.bind hc (ev_eq (Ev.now _) ?_)
    rw [decide_eq_false (fun g => g h)]
    rfl
  · have hc := oc_eq o.f0 o.f1 o.f2.f0 o.f2.f1 o.f2.f2 o.f2.f3 o.f2.f4 o.f2.f5 o.f3.f0 o.f3.f1 o.f3.f2 o.f4
    rw [if_neg (show ¬ RO _ _ _ _ _ _ _ _ _ _ _ _ from h)] at hc
    refine Ev.bind hc (ev_eq (Ev.now _) ?_)
    rw [decide_eq_true h]
    rfl
theorem index_l0 (l : List S45) (hn : l.length ≤ 100000) : ∀ (d : Nat) (i : Int), 0 ≤ i → (l.length : Int) - i = d → ∃ r : Int, Ev (fun k => api_Object_40.l0 k l (l.length : Int) i) r ∧ (r ≥ 0 ↔ ¬ Rights (l.drop i.toNat)) := by
  intro d
  induction d with
  | zero =>
    intro i h0 hd
    refine ⟨-1, Ev.from 1 fun k => ?_, ?_⟩
    · simp only [api_Object_40.l0]
      rw [if_neg (by omega)]
    · rw [List.drop_eq_nil_of_le (by omega)]
      constructor
      · intro h; omega
      · intro h; exact absurd (fun o ho => by cases ho) h
  | succ d ih =>
    intro i h0 hd
    have h1 : i < (l.length : Int) := by omega
    rw [obs_get l i h0 h1]
    by_cases h : OR (rd_T45 l i)
    · obtain ⟨r, hr, hi⟩ := ih (i + 1) (by omega) (by omega)
      refine ⟨r, ?_, ?_⟩
      · refine Ev.step (f := fun k => _) (fun k => by simp only [api_Object_40.l0]; rfl) ?_
        simp only [if_pos h1, if_pos h0]
        refine Ev.bind (wrong_ev (rd_T45 l i)) ?_
        simp only [decide_eq_false (fun g : ¬ OR (rd_T45 l i) => g h), Bool.false_eq_true, if_false, w64 (x := i + 1) (by omega) (by omega)]
        exact hr
      · rw [hi]
        constructor
        · intro g g2; exact g fun o ho => g2 o (List.mem_cons_of_mem _ ho)
        · intro g g2
          refine g fun o ho => ?_
          rcases List.mem_cons.1 ho with rfl | ho
          · exact h
          · exact g2 o ho
    · refine ⟨i, ?_, ?_⟩
      · refine Ev.step (f := fun k => _) (fun k => by simp only [api_Object_40.l0]; rfl) ?_
        simp only [if_pos h1, if_pos h0]
        refine Ev.bind (wrong_ev (rd_T45 l i)) ?_
        simp only [decide_eq_true h, if_true]
        exact Ev.now _
      · exact ⟨fun _ g => h (g _ List.mem_cons_self), fun _ => h0⟩
theorem contains_ev (l : List S45) (hn : l.length ≤ 100000) : Ev (fun k => api_Object_25.f k l) (decide (¬ Rights l)) := by
  obtain ⟨r, hr, hi⟩ := index_l0 l hn l.length 0 (by omega) (by omega)
  unfold api_Object_25.f
  refine Ev.bind (show Ev (fun k => api_Object_40.f k l) r from hr) (ev_eq (Ev.now _) ?_)
  exact bool_same0 hi
theorem own_eq (l : List S45) (h : l.length ≤ 100000) : thalwegref04_Own.f l = some l := by
  unfold thalwegref04_Own.f
  rw [if_pos (by simp; omega)]
  rfl
theorem same_l0 (l : List S45) (h : l.length ≤ 100000) : ∀ (d : Nat) (i : Int), 0 ≤ i → (l.length : Int) - i = d → Ev (fun k => thalwegref04_Same.l0 k l l i) true := by
  intro d
  induction d with
  | zero =>
    intro i h0 hd
    refine Ev.from 1 fun k => ?_
    simp only [thalwegref04_Same.l0]
    rw [if_neg (by omega)]
  | succ d ih =>
    intro i h0 hd
    refine Ev.step (f := fun k => _) (fun k => by simp only [thalwegref04_Same.l0]; rfl) ?_
    simp only [if_pos (show i < (l.length : Int) by omega), if_pos h0, beq_self_eq_true, Bool.not_true, Bool.or_self, Bool.false_eq_true, if_false, w64 (x := i + 1) (by omega) (by omega)]
    exact ih (i + 1) (by omega) (by omega)
theorem same_ev (l : List S45) (h : l.length ≤ 100000) : Ev (fun k => thalwegref04_Same.f k l l) true := by
  unfold thalwegref04_Same.f
  simp only [if_true]
  exact same_l0 l h l.length 0 (by omega) (by omega)
theorem rsize_l0 (l : List S45) (hn : l.length ≤ 100000) (hw : ∀ o ∈ l, OW o) : ∀ (d : Nat) (i acc : Int), 0 ≤ i → (l.length : Int) - i = d → 0 ≤ acc → acc ≤ 3 + 24 * i →
    (Rights (l.drop i.toNat) → Ev (fun k => thalwegref05_size.l0 k l acc i) (acc + sums (l.drop i.toNat))) ∧ (¬ Rights (l.drop i.toNat) → Ev (fun k => thalwegref05_size.l0 k l acc i) (-1)) := by
  intro d
  induction d with
  | zero =>
    intro i acc h0 hd ha hb
    rw [List.drop_eq_nil_of_le (by omega)]
    refine ⟨fun _ => Ev.from 1 fun k => ?_, fun h => absurd (fun o ho => by cases ho) h⟩
    simp only [thalwegref05_size.l0]
    rw [if_neg (by omega), sums_nil, Int.add_zero]
  | succ d ih =>
    intro i acc h0 hd ha hb
    have h1 : i < (l.length : Int) := by omega
    have hz := OB_length (rd_T45 l i)
    obtain ⟨w1, w2, w3⟩ := hw _ (obs_mem l i h0 h1)
    rw [obs_get l i h0 h1, sums_cons, ← Int.add_assoc]
    by_cases h : OR (rd_T45 l i)
    · have hi := ih (i + 1) (acc + sz (rd_T45 l i)) (by omega) (by omega) (by rw [sz_yes h]; omega) (by rw [sz_yes h]; omega)
      have go : ∀ r, Ev (fun k => thalwegref05_size.l0 k l (acc + sz (rd_T45 l i)) (i + 1)) r → Ev (fun k => thalwegref05_size.l0 k l acc i) r := by
        intro r hr
        refine Ev.step (f := fun k => _) (fun k => by simp only [thalwegref05_size.l0]; rfl) ?_
        simp only [if_pos h1, if_pos h0]
        refine Ev.bind (robx _ _ _ _ _ _ _ _ _ _ _ _ w1 w2 w3 h) ?_
        rw [show oB (rd_T45 l i).f0 (rd_T45 l i).f1 (rd_T45 l i).f2.f0 (rd_T45 l i).f2.f1 (rd_T45 l i).f2.f2 (rd_T45 l i).f2.f3 (rd_T45 l i).f2.f4 (rd_T45 l i).f2.f5 (rd_T45 l i).f3.f0 (rd_T45 l i).f3.f1 (rd_T45 l i).f3.f2 (rd_T45 l i).f4 = OB (rd_T45 l i) from rfl]
        simp only [if_true, w64 (x := acc + ((OB (rd_T45 l i)).length : Int)) (by omega) (by omega), w64 (x := i + 1) (by omega) (by omega)]
        rw [sz_yes h] at hr
        exact hr
      refine ⟨fun g => go _ (hi.1 fun o ho => g o (List.mem_cons_of_mem _ ho)), fun g => go _ (hi.2 fun g2 => g fun o ho => ?_)⟩
      rcases List.mem_cons.1 ho with rfl | ho
      · exact h
      · exact g2 o ho
    · refine ⟨fun g => absurd (g _ List.mem_cons_self) h, fun _ => ?_⟩
      refine Ev.step (f := fun k => _) (fun k => by simp only [thalwegref05_size.l0]; rfl) ?_
      simp only [if_pos h1, if_pos h0]
      refine Ev.bind (robn _ _ _ _ _ _ _ _ _ _ _ _ h) ?_
      simp only [if_neg (show ¬ (1 : Int) = 0 by decide)]
      exact Ev.now _
theorem rsize_yes (l : List S45) (hn : l.length ≤ 100000) (hw : ∀ o ∈ l, OW o) (h : Rights l) : Ev (fun k => thalwegref05_size.f k l) (3 + sums l) := by
  unfold thalwegref05_size.f
  exact (rsize_l0 l hn hw l.length 0 3 (by omega) (by omega) (by omega) (by omega)).1 h
theorem rsize_no (l : List S45) (hn : l.length ≤ 100000) (hw : ∀ o ∈ l, OW o) (h : ¬ Rights l) : Ev (fun k => thalwegref05_size.f k l) (-1) := by
  unfold thalwegref05_size.f
  exact (rsize_l0 l hn hw l.length 0 3 (by omega) (by omega) (by omega) (by omega)).2 h
end Go.Proofs.Ytfigbjjaffkidaa.P
namespace Go.Proofs.Ytfigbjjaffkidaa.P
open Classical
open Go.RowKit YtfigbjjaffkidaaW.PrintWords YtfigbjjaffkidaaW.PrintLast YtfigbjjaffkidaaW.PrintMore
def nx (n : Int) : Int := (n + 1) % 65536
theorem next_eq (n : Int) (h : -9223372036854775808 ≤ n ∧ n ≤ 9223372036854775807) : serial_Next.f n = some (nx n) := by
  unfold serial_Next.f nx
  have hu : ∀ x : Int, IntKind.u16.wrap x = x % 65536 := fun x => by simp [IntKind.wrap, IntKind.bits, IntKind.signed]
  rw [hu, hu, w64 (by omega) (by omega)]
  congr 1
  omega
def fit (most : Int) (cur : List S45) (o : S45) : Prop := 3 + sums cur + sz o ≤ most ∧ cur.length < 32
noncomputable def packGo (most : Int) : List S45 → Int → List S45 → List S24
  | [], n, cur => if cur = [] then [] else [⟨n, cur⟩]
  | o :: l, n, cur => if fit most cur o then packGo most l n (cur ++ [o]) else ⟨n, cur⟩ :: packGo most l (nx n) [o]
theorem pack_nil (most n : Int) (cur : List S45) (h : cur ≠ []) : packGo most [] n cur = [⟨n, cur⟩] := by unfold packGo; rw [if_neg h]
theorem pack_nil0 (most n : Int) : packGo most [] n [] = [] := by unfold packGo; rw [if_pos rfl]
theorem pack_fit {most n : Int} {o : S45} {l cur : List S45} (h : fit most cur o) : packGo most (o :: l) n cur = packGo most l n (cur ++ [o]) := by rw [packGo, if_pos h]
theorem pack_new {most n : Int} {o : S45} {l cur : List S45} (h : ¬ fit most cur o) : packGo most (o :: l) n cur = ⟨n, cur⟩ :: packGo most l (nx n) [o] := by rw [packGo, if_neg h]
theorem fit_nil {most : Int} (h : 40 ≤ most) (o : S45) : fit most [] o := by
  have := sz_range o
  exact ⟨by rw [sums_nil]; omega, by simp⟩
theorem and16 (n : Int) (_h : -9223372036854775808 ≤ n ∧ n ≤ 9223372036854775807) : Go.bits .and .i64 n 65535 = n % 65536 := by
  show IntKind.i64.wrap ((BitVec.ofInt 64 n &&& BitVec.ofInt 64 65535).toNat : Int) = _
  rw [BitVec.toNat_and, BitVec.toNat_ofInt, show (BitVec.ofInt 64 65535).toNat = 2 ^ 16 - 1 from rfl, Nat.and_two_pow_sub_one_eq_mod, IntKind.wrap_i64]
  omega
theorem pack_l0 (l : List S45) (hn : l.length ≤ 2000) (most : Int) (hm : 40 ≤ most ∧ most ≤ 512) : ∀ (d : Nat) (i : Int) (out : List S24) (n : Int) (cur : List S45), 0 ≤ i → (l.length : Int) - i = d → (out.length : Int) ≤ i → cur.length ≤ 32 → 0 ≤ n → n ≤ 65535 → (cur = [] → i = 0) →
    Ev (fun k => batch_Pack.l0 k l most out (most - 3 - sums cur) l (l.length : Int) i n cur) (out ++ packGo most (l.drop i.toNat) n cur, 0) := by
  intro d
  induction d with
  | zero =>
    intro i out n cur h0 hd ho hc n0 n1 hz
    refine Ev.from 1 fun k => ?_
    simp only [batch_Pack.l0]
    rw [if_neg (by omega), List.drop_eq_nil_of_le (by omega)]
    by_cases h : cur = []
    · subst h
      rw [pack_nil0]
      simp
    · rw [pack_nil _ _ _ h, if_pos (by have := List.length_pos_iff.2 h; omega), if_pos (by omega)]
  | succ d ih =>
    intro i out n cur h0 hd ho hc n0 n1 hz
    have h1 : i < (l.length : Int) := by omega
    have hs := sz_range (rd_T45 l i)
    have hr := sums_range cur
    have hnx : 0 ≤ nx n ∧ nx n ≤ 65535 := by unfold nx; omega
    refine Ev.step (f := fun k => _) (fun k => by simp only [batch_Pack.l0]; rfl) ?_
    rw [obs_get l i h0 h1]
    simp only [if_pos h1, if_pos h0]
    refine Ev.bind (size_ev (rd_T45 l i)) ?_
    have hnew : ¬ fit most cur (rd_T45 l i) → Ev (fun k => (serial_Next.f n).bind fun t => batch_Pack.l0 k l most (out ++ [⟨n, cur⟩]) (wrap64 ((wrap64 (most - 3)) - sz (rd_T45 l i))) l (l.length : Int) (wrap64 (i + 1)) t [rd_T45 l i]) (out ++ packGo most (rd_T45 l i :: l.drop (i + 1).toNat) n cur, 0) := by
      intro hf
      rw [pack_new hf, show out ++ (⟨n, cur⟩ : S24) :: packGo most (l.drop (i + 1).toNat) (nx n) [rd_T45 l i] = (out ++ [⟨n, cur⟩]) ++ packGo most (l.drop (i + 1).toNat) (nx n) [rd_T45 l i] by simp]
      simp only [next_eq n (by omega), Option.bind_some, w64 (x := most - 3) (by omega) (by omega), w64 (x := most - 3 - sz (rd_T45 l i)) (by omega) (by omega), w64 (x := i + 1) (by omega) (by omega)]
      have := ih (i + 1) (out ++ [⟨n, cur⟩]) (nx n) [rd_T45 l i] (by omega) (by omega) (by simp; omega) (by simp) hnx.1 hnx.2 (by simp)
      rw [sums_cons, sums_nil, Int.add_zero] at this
      exact this
    have hout : out.length < 4398046511104 := by omega
    by_cases c1 : sz (rd_T45 l i) ≤ most - 3 - sums cur
    · simp only [if_pos c1]
      by_cases c2 : (cur.length : Int) < 32
      · have hf : fit most cur (rd_T45 l i) := ⟨by omega, by omega⟩
        rw [pack_fit hf]
        simp only [if_pos c2, if_pos (show cur.length < 1466015503701 by omega), w64 (x := most - 3 - sums cur - sz (rd_T45 l i)) (by omega) (by omega), w64 (x := i + 1) (by omega) (by omega)]
        have := ih (i + 1) out n (cur ++ [rd_T45 l i]) (by omega) (by omega) (by omega) (by simp; omega) n0 n1 (by simp)
        rw [sums_append, sums_cons, sums_nil, Int.add_zero, ← Int.sub_sub] at this
        exact this
      · simp only [if_neg c2, if_pos hout]
        exact hnew fun g => c2 (by have := g.2; omega)
    · simp only [if_neg c1, if_pos hout]
      exact hnew fun g => c1 (by have := g.1; omega)
def PK (most : Int) (l : List S45) : Prop := (40 ≤ most ∧ most ≤ 512) ∧ Rights l
theorem pack_yes (l : List S45) (hn : l.length ≤ 1024) (first most : Int) (hf : -9223372036854775808 ≤ first ∧ first ≤ 9223372036854775807) (h : PK most l) : Ev (fun k => batch_Pack.f k l first most) (packGo most l (first % 65536) [], 0) := by
  obtain ⟨hm, hr⟩ := h
  unfold batch_Pack.f
  simp only [if_neg (show ¬ most < 40 by omega), if_neg (show ¬ most > 512 by omega)]
  refine Ev.bind (contains_ev l (by omega)) ?_
  rw [decide_eq_false (fun g : ¬ Rights l => g hr)]
  refine Ev.step (f := fun k => _) (fun k => by simp only [batch_Pack.j0]; rfl) ?_
  simp only [Bool.false_eq_true, if_false, if_neg (show ¬ (l.length : Int) > 1024 by omega), w64 (x := most - 3) (by omega) (by omega), and16 first hf]
  have := pack_l0 l (by omega) most hm l.length 0 [] (first % 65536) [] (by omega) (by omega) (by simp) (by simp) (by omega) (by omega) (fun _ => rfl)
  rw [sums_nil, Int.sub_zero] at this
  exact this
theorem pack_no (l : List S45) (hn : l.length ≤ 100000) (first most : Int) (h : ¬ PK most l) : Ev (fun k => batch_Pack.f k l first most) ([], 1) := by
  have hj : Ev (fun k => batch_Pack.j0 k l first most true) ([], 1) := by
    refine Ev.step (f := fun k => _) (fun k => by simp only [batch_Pack.j0]; rfl) ?_
    simp only [if_true]
    exact Ev.now _
  unfold batch_Pack.f
  by_cases h1 : most < 40
  · simp only [if_pos h1]; exact hj
  by_cases h2 : most > 512
  · simp only [if_neg h1, if_pos h2]; exact hj
  simp only [if_neg h1, if_neg h2]
  refine Ev.bind (contains_ev l hn) ?_
  rw [decide_eq_true (show ¬ Rights l from fun g => h ⟨by omega, g⟩)]
  exact hj
theorem pack_long (l : List S45) (hn : 1024 < l.length) (hn2 : l.length ≤ 100000) (first most : Int) (h : PK most l) : Ev (fun k => batch_Pack.f k l first most) ([], 2) := by
  obtain ⟨hm, hr⟩ := h
  unfold batch_Pack.f
  simp only [if_neg (show ¬ most < 40 by omega), if_neg (show ¬ most > 512 by omega)]
  refine Ev.bind (contains_ev l hn2) ?_
  rw [decide_eq_false (fun g : ¬ Rights l => g hr)]
  refine Ev.step (f := fun k => _) (fun k => by simp only [batch_Pack.j0]; rfl) ?_
  simp only [Bool.false_eq_true, if_false, if_pos (show (l.length : Int) > 1024 by omega)]
  exact Ev.now _
end Go.Proofs.Ytfigbjjaffkidaa.P
namespace Go.Proofs.Ytfigbjjaffkidaa.P
open Classical
open Go.RowKit YtfigbjjaffkidaaW.PrintWords YtfigbjjaffkidaaW.PrintLast YtfigbjjaffkidaaW.PrintMore
theorem tm16 (a : Int) : Int.tmod a 65536 = if 0 ≤ a then a % 65536 else -((-a) % 65536) := by
  split
  · rename_i h
    exact Int.tmod_eq_emod_of_nonneg h
  · rename_i h
    have : Int.tmod a 65536 = -(Int.tmod (-a) 65536) := by rw [Int.neg_tmod, Int.neg_neg]
    rw [this, Int.tmod_eq_emod_of_nonneg (by omega)]
theorem left_eq (a : Int) (h : -9223372036854775808 ≤ a ∧ a ≤ 9223372036854775807) : thalwegref03_Left.f a = some (a % 65536) := by
  unfold thalwegref03_Left.f
  rw [tm16]
  by_cases h1 : 0 ≤ a
  · rw [if_pos h1, if_neg (by omega)]
  · rw [if_neg h1]
    by_cases h2 : -((-a) % 65536) < 0
    · rw [if_pos h2, w64 (by omega) (by omega)]
      congr 1
      omega
    · rw [if_neg h2]
      congr 1
      omega
theorem rnext_eq (n : Int) (h0 : 0 ≤ n) (h1 : n ≤ 65535) : thalwegref03_Next.f n = some (nx n) := by
  unfold thalwegref03_Next.f
  rw [left_eq n (by omega), Option.bind_some, Int.emod_eq_of_lt h0 (by omega), w64 (by omega) (by omega), Int.tmod_eq_emod_of_nonneg (by omega)]
  rfl
def seg (l : List S45) (a t : Int) : List S45 := (l.take t.toNat).drop a.toNat
theorem seg_length (l : List S45) (a t : Int) (h0 : 0 ≤ a) (ha : a ≤ t) (h : t ≤ l.length) : ((seg l a t).length : Int) = t - a := by rw [seg, List.length_drop, List.length_take]; omega
theorem seg_snoc (l : List S45) (a t : Int) (h0 : 0 ≤ a) (ha : a ≤ t) (h : t < l.length) : seg l a (t + 1) = seg l a t ++ [rd_T45 l t] := by
  have ht : t.toNat < l.length := by omega
  unfold seg
  rw [show (t + 1).toNat = t.toNat + 1 by omega, List.take_succ_eq_append_getElem ht, List.drop_append_of_le_length (by rw [List.length_take]; omega)]
  congr 2
  unfold rd_T45
  rw [List.getD_eq_getElem?_getD, List.getElem?_eq_getElem ht]
  rfl
theorem seg_one (l : List S45) (t : Int) (h0 : 0 ≤ t) (h : t < l.length) : seg l t (t + 1) = [rd_T45 l t] := by
  rw [seg_snoc l t t h0 (Int.le_refl _) h]
  have : seg l t t = [] := List.eq_nil_of_length_eq_zero (by have := seg_length l t t h0 (Int.le_refl _) (by omega); omega)
  rw [this]
  rfl
theorem seg_mem {l : List S45} {a t : Int} {o : S45} (h : o ∈ seg l a t) : o ∈ l := List.mem_of_mem_take (List.mem_of_mem_drop h)
theorem rpack_l1 (l : List S45) (hn : l.length ≤ 2000) (hr : Rights l) (hw : ∀ o ∈ l, OW o) (most : Int) (hm : 40 ≤ most ∧ most ≤ 512) : ∀ (d : Nat) (a t n : Int) (out : List S24), (l.length : Int) - t = d → 0 ≤ a → a < t → t ≤ l.length → t - a ≤ 32 → (out.length : Int) ≤ a → 0 ≤ n → n ≤ 65535 →
    Ev (fun k => thalwegref05_Pack.l1 k l most out n a t) (out ++ packGo most (l.drop t.toNat) n (seg l a t), 0) := by
  intro d
  induction d with
  | zero =>
    intro a t n out hd h0 ha ht h32 ho n0 n1
    have hlen := seg_length l a t h0 (by omega) ht
    have hne : seg l a t ≠ [] := fun g => by rw [g, List.length_nil] at hlen; omega
    have hz : l.drop t.toNat = [] := List.drop_eq_nil_of_le (by omega)
    rw [hz, pack_nil _ _ _ hne]
    have hfin : Ev (fun k => thalwegref05_Pack.l0 k l most (out ++ [⟨n, seg l a t⟩]) (nx n) t) (out ++ [⟨n, seg l a t⟩], 0) := by
      refine Ev.from 1 fun k => ?_
      simp only [thalwegref05_Pack.l0]
      rw [if_neg (by omega)]
    have hown := own_eq (seg l a t) (by omega)
    have hnxt := rnext_eq n n0 n1
    have hol : out.length < 4398046511104 := by omega
    have e : (List.drop a.toNat (List.take t.toNat l)) = seg l a t := rfl
    refine Ev.step (f := fun k => _) (fun k => by simp only [thalwegref05_Pack.l1]; rfl) ?_
    rw [e]
    simp only [if_neg (show ¬ t < (l.length : Int) by omega), if_pos h0, if_pos (show a ≤ t by omega), if_pos ht, hown, Option.bind_some, if_pos hol, hnxt]
    exact hfin
  | succ d ih =>
    intro a t n out hd h0 ha ht h32 ho n0 n1
    have htl : t < (l.length : Int) := by omega
    have hlen := seg_length l a t h0 (by omega) ht
    have hsnoc := seg_snoc l a t h0 (by omega) htl
    have hdrop := obs_get l t (by omega) htl
    have hnx : 0 ≤ nx n ∧ nx n ≤ 65535 := by unfold nx; omega
    have hown := own_eq (seg l a t) (by omega)
    have hnxt := rnext_eq n n0 n1
    have hol : out.length < 4398046511104 := by omega
    have ht1 := w64 (x := t + 1) (by omega) (by omega)
    rw [hdrop]
    have hnew : ¬ fit most (seg l a t) (rd_T45 l t) → Ev (fun k => thalwegref05_Pack.l0 k l most (out ++ [⟨n, seg l a t⟩]) (nx n) t) (out ++ packGo most (rd_T45 l t :: l.drop (t + 1).toNat) n (seg l a t), 0) := by
      intro hf
      rw [pack_new hf, show out ++ (⟨n, seg l a t⟩ : S24) :: packGo most (l.drop (t + 1).toNat) (nx n) [rd_T45 l t] = (out ++ [⟨n, seg l a t⟩]) ++ packGo most (l.drop (t + 1).toNat) (nx n) [rd_T45 l t] by simp]
      have := ih t (t + 1) (nx n) (out ++ [⟨n, seg l a t⟩]) (by omega) (by omega) (by omega) (by omega) (by omega) (by simp; omega) hnx.1 hnx.2
      rw [seg_one l t (by omega) htl] at this
      refine Ev.step (f := fun k => _) (fun k => by simp only [thalwegref05_Pack.l0]; rfl) ?_
      simp only [if_pos htl, ht1]
      exact this
    have e : (List.drop a.toNat (List.take t.toNat l)) = seg l a t := rfl
    have e1 : (List.drop a.toNat (List.take (t + 1).toNat l)) = seg l a (t + 1) := rfl
    have hl1 := seg_length l a (t + 1) h0 (by omega) (by omega)
    have hsz := rsize_yes (seg l a (t + 1)) (by omega) (fun o ho => hw o (seg_mem ho)) (fun o ho => hr o (seg_mem ho))
    have hs1 : sums (seg l a (t + 1)) = sums (seg l a t) + sz (rd_T45 l t) := by rw [hsnoc, sums_append, sums_cons, sums_nil, Int.add_zero]
    have hta := w64 (x := t - a) (by omega) (by omega)
    have hrec := ih a (t + 1) n out (by omega) h0 (by omega) (by omega)
    refine Ev.step (f := fun k => _) (fun k => by simp only [thalwegref05_Pack.l1]; rfl) ?_
    rw [ht1, hta, e, e1]
    simp only [if_pos htl]
    by_cases c1 : t - a < 32
    · simp only [if_pos c1, if_pos h0, if_pos (show a ≤ t + 1 by omega), if_pos (show t + 1 ≤ (l.length : Int) by omega)]
      refine Ev.bind hsz ?_
      rw [hs1]
      by_cases c2 : 3 + (sums (seg l a t) + sz (rd_T45 l t)) ≤ most
      · simp only [if_pos c2]
        rw [pack_fit (show fit most (seg l a t) (rd_T45 l t) from ⟨by omega, by omega⟩), ← hsnoc]
        exact hrec (by omega) (by omega) n0 n1
      · simp only [if_neg c2, if_pos (show a ≤ t by omega), if_pos ht, hown, Option.bind_some, if_pos hol, hnxt]
        exact hnew fun g => c2 (by have := g.1; omega)
    · simp only [if_neg c1, if_pos h0, if_pos (show a ≤ t by omega), if_pos ht, hown, Option.bind_some, if_pos hol, hnxt]
      exact hnew fun g => c1 (by have := g.2; omega)
theorem rpack_yes (l : List S45) (hn : l.length ≤ 1024) (hw : ∀ o ∈ l, OW o) (first most : Int) (hf : -9223372036854775808 ≤ first ∧ first ≤ 9223372036854775807) (h : PK most l) : Ev (fun k => thalwegref05_Pack.f k l first most) (packGo most l (first % 65536) [], 0) := by
  obtain ⟨hm, hr⟩ := h
  have hs := sums_range l
  unfold thalwegref05_Pack.f
  simp only [if_neg (show ¬ most < 40 by omega), if_neg (show ¬ most > 512 by omega)]
  refine Ev.bind (rsize_yes l (by omega) hw hr) ?_
  rw [decide_eq_false (show ¬ 3 + sums l < 0 by omega)]
  refine Ev.step (f := fun k => _) (fun k => by simp only [thalwegref05_Pack.j0]; rfl) ?_
  simp only [Bool.false_eq_true, if_false, if_neg (show ¬ (l.length : Int) > 1024 by omega), left_eq first hf, Option.bind_some]
  refine Ev.step (f := fun k => _) (fun k => by simp only [thalwegref05_Pack.l0]; rfl) ?_
  have h01 : wrap64 (0 + 1) = 1 := w64 (by omega) (by omega)
  rw [h01]
  by_cases h0 : (0 : Int) < (l.length : Int)
  · simp only [if_pos h0]
    have := rpack_l1 l (by omega) hr hw most hm (l.length - 1) 0 1 (first % 65536) [] (by omega) (by omega) (by omega) (by omega) (by omega) (by simp) (by omega) (by omega)
    have hg := obs_get l 0 (by omega) h0
    have h1 := seg_one l 0 (by omega) h0
    rw [show (0 : Int) + 1 = 1 from rfl] at hg h1
    rw [h1] at this
    have he : packGo most l (first % 65536) [] = packGo most (l.drop (1 : Int).toNat) (first % 65536) [rd_T45 l 0] := by
      have : l = rd_T45 l 0 :: l.drop (1 : Int).toNat := by simpa using hg
      conv => lhs; rw [this]
      rw [pack_fit (fit_nil hm.1 _)]
      rfl
    rw [he]
    exact this
  · simp only [if_neg h0]
    have : l = [] := List.eq_nil_of_length_eq_zero (by omega)
    subst this
    rw [pack_nil0]
    exact Ev.now _
theorem rpack_no (l : List S45) (hn : l.length ≤ 100000) (hw : ∀ o ∈ l, OW o) (first most : Int) (h : ¬ PK most l) : Ev (fun k => thalwegref05_Pack.f k l first most) ([], 1) := by
  have hj : Ev (fun k => thalwegref05_Pack.j0 k l first most true) ([], 1) := by
    refine Ev.step (f := fun k => _) (fun k => by simp only [thalwegref05_Pack.j0]; rfl) ?_
    simp only [if_true]
    exact Ev.now _
  unfold thalwegref05_Pack.f
  by_cases h1 : most < 40
  · simp only [if_pos h1]; exact hj
  by_cases h2 : most > 512
  · simp only [if_neg h1, if_pos h2]; exact hj
  simp only [if_neg h1, if_neg h2]
  refine Ev.bind (rsize_no l hn hw (fun g => h ⟨by omega, g⟩)) ?_
  simp only [show decide ((-1 : Int) < 0) = true by decide]
  exact hj
theorem rpack_long (l : List S45) (hn : 1024 < l.length) (hn2 : l.length ≤ 100000) (hw : ∀ o ∈ l, OW o) (first most : Int) (hf : -9223372036854775808 ≤ first ∧ first ≤ 9223372036854775807) (h : PK most l) : Ev (fun k => thalwegref05_Pack.f k l first most) ([], 2) := by
  obtain ⟨hm, hr⟩ := h
  have hs := sums_range l
  unfold thalwegref05_Pack.f
  simp only [if_neg (show ¬ most < 40 by omega), if_neg (show ¬ most > 512 by omega)]
  refine Ev.bind (rsize_yes l hn2 hw hr) ?_
  rw [decide_eq_false (show ¬ 3 + sums l < 0 by omega)]
  refine Ev.step (f := fun k => _) (fun k => by simp only [thalwegref05_Pack.j0]; rfl) ?_
  simp only [Bool.false_eq_true, if_false, if_pos (show (l.length : Int) > 1024 by omega)]
  exact Ev.now _
theorem bs_get (l : List S24) (i : Int) (h0 : 0 ≤ i) (h1 : i < l.length) : l.drop i.toNat = rd_T24 l i :: l.drop (i + 1).toNat := by
  have hi : i.toNat < l.length := by omega
  rw [List.drop_eq_getElem_cons hi, show (i + 1).toNat = i.toNat + 1 by omega]
  congr 1
  unfold rd_T24
  rw [List.getD_eq_getElem?_getD, List.getElem?_eq_getElem hi]
  rfl
theorem bs_mem (l : List S24) (i : Int) (h0 : 0 ≤ i) (h1 : i < l.length) : rd_T24 l i ∈ l := by
  have := List.mem_of_mem_drop (l := l) (i := i.toNat) (a := rd_T24 l i) (by rw [bs_get l i h0 h1]; exact List.mem_cons_self)
  exact this
theorem sames_l0 (l : List S24) (h : l.length ≤ 100000) (hb : ∀ b ∈ l, b.f1.length ≤ 100000) : ∀ (d : Nat) (i : Int), 0 ≤ i → (l.length : Int) - i = d → Ev (fun k => thalwegref05_Same.l0 k l l i) true := by
  intro d
  induction d with
  | zero =>
    intro i h0 hd
    refine Ev.from 1 fun k => ?_
    simp only [thalwegref05_Same.l0]
    rw [if_neg (by omega)]
  | succ d ih =>
    intro i h0 hd
    refine Ev.step (f := fun k => _) (fun k => by simp only [thalwegref05_Same.l0]; rfl) ?_
    simp only [if_pos (show i < (l.length : Int) by omega), if_pos h0, if_true]
    refine Ev.bind (same_ev _ (hb _ (bs_mem l i h0 (by omega)))) ?_
    simp only [if_true, w64 (x := i + 1) (by omega) (by omega)]
    exact ih (i + 1) (by omega) (by omega)
theorem sames_ev (l : List S24) (h : l.length ≤ 100000) (hb : ∀ b ∈ l, b.f1.length ≤ 100000) : Ev (fun k => thalwegref05_Same.f k l l) true := by
  unfold thalwegref05_Same.f
  simp only [if_true]
  exact sames_l0 l h hb l.length 0 (by omega) (by omega)
theorem pack_each {most : Int} (Q : S24 → Prop) : ∀ (l : List S45) (n : Int) (cur : List S45), cur.length ≤ 32 → (∀ n c, c.length ≤ 32 → Q ⟨n, c⟩) → ∀ b ∈ packGo most l n cur, Q b := by
  intro l
  induction l with
  | nil =>
    intro n cur hc hq b hb
    by_cases h : cur = []
    · subst h; rw [pack_nil0] at hb; cases hb
    · rw [pack_nil _ _ _ h] at hb
      rw [List.mem_singleton.1 hb]
      exact hq _ _ hc
  | cons o l ih =>
    intro n cur hc hq b hb
    by_cases h : fit most cur o
    · rw [pack_fit h] at hb
      exact ih n (cur ++ [o]) (by have := h.2; simp; omega) hq b hb
    · rw [pack_new h] at hb
      rcases List.mem_cons.1 hb with rfl | hb
      · exact hq _ _ hc
      · exact ih _ [o] (by simp) hq b hb
theorem pack_length {most : Int} : ∀ (l : List S45) (n : Int) (cur : List S45), (packGo most l n cur).length ≤ l.length + 1 := by
  intro l
  induction l with
  | nil =>
    intro n cur
    by_cases h : cur = []
    · subst h; rw [pack_nil0]; simp
    · rw [pack_nil _ _ _ h]; simp
  | cons o l ih =>
    intro n cur
    by_cases h : fit most cur o
    · rw [pack_fit h]
      have := ih n (cur ++ [o])
      simp only [List.length_cons]
      omega
    · rw [pack_new h]
      have := ih (nx n) [o]
      simp only [List.length_cons]
      omega
end Go.Proofs.Ytfigbjjaffkidaa.P
namespace Go.Proofs.Ytfigbjjaffkidaa.Pure
open Classical
open Go.RowKit Go.Proofs.Ytfigbjjaffkidaa.P YtfigbjjaffkidaaW.PrintWords YtfigbjjaffkidaaW.PrintLast YtfigbjjaffkidaaW.PrintMore
theorem packs_ev (l : List S45) (first most : Int) (hf : -9223372036854775808 ≤ first ∧ first ≤ 9223372036854775807) (hw : ∀ o ∈ l, OW o) : Ev (fun k => thalweglaw05_BatchPacks.f k l first most) true := by
  have yes : Ev (fun k => thalweglaw05_BatchPacks.j0 k l first most true) true := by
    refine Ev.step (f := fun k => _) (fun k => by simp only [thalweglaw05_BatchPacks.j0]; rfl) ?_
    simp only [if_true]
    exact Ev.now _
  have fin : l.length ≤ 1100 → ∀ (R : List S24) (c : Int), R.length ≤ 100000 → (∀ b ∈ R, b.f1.length ≤ 100000) → Ev (fun k => batch_Pack.f k l first most) (R, c) → Ev (fun k => thalwegref05_Pack.f k l first most) (R, c) → Ev (fun k => thalweglaw05_BatchPacks.j0 k l first most false) true := by
    intro hl R c h1 h2 hp hq
    refine Ev.step (f := fun k => _) (fun k => by simp only [thalweglaw05_BatchPacks.j0]; rfl) ?_
    simp only [Bool.false_eq_true, if_false, own_eq l (by omega), Option.bind_some]
    refine Ev.bind hp (Ev.bind hq (Ev.bind awake05 ?_))
    simp only [if_true]
    refine Ev.bind (sames_ev R h1 h2) ?_
    simp only [if_true]
    exact Ev.bind (same_ev l (by omega)) (Ev.now _)
  have all : l.length ≤ 1100 → Ev (fun k => thalweglaw05_BatchPacks.j0 k l first most false) true := by
    intro hl
    by_cases h : PK most l
    · by_cases hn : l.length ≤ 1024
      · have hk := pack_length (most := most) l (first % 65536) []
        exact fin hl _ 0 (by omega) (pack_each (fun b => b.f1.length ≤ 100000) l _ [] (by simp) (fun n c hc => by show c.length ≤ 100000; omega)) (pack_yes l hn first most hf h) (rpack_yes l hn hw first most hf h)
      · exact fin hl [] 2 (by simp) (fun b hb => by cases hb) (pack_long l (by omega) (by omega) first most h) (rpack_long l (by omega) (by omega) hw first most hf h)
    · exact fin hl [] 1 (by simp) (fun b hb => by cases hb) (pack_no l (by omega) first most h) (rpack_no l (by omega) hw first most h)
  have any : Ev (fun k => thalweglaw05_BatchPacks.j0 k l first most (decide ((l.length : Int) > 1100))) true := by
    by_cases h : (l.length : Int) > 1100
    · rw [decide_eq_true h]; exact yes
    · rw [decide_eq_false h]; exact all (by omega)
  unfold thalweglaw05_BatchPacks.f
  by_cases h1 : (l.length : Int) > 120
  · simp only [if_pos h1]
    by_cases h2 : (l.length : Int) ≤ 1024
    · simp only [if_pos h2]; exact yes
    · simp only [if_neg h2]; exact any
  · simp only [if_neg h1]; exact any
theorem BatchPacks : thalweglaw05_BatchPacks.Pure := fun l first most h hf _ => Ev.rounds (packs_ev l first most (bnd64 hf) fun o ho => by
  have g := h.2 o ho
  exact ⟨g.2.2.1.2.1, g.2.2.1.2.2.2.2.1, g.2.2.2.1.1⟩)
end Go.Proofs.Ytfigbjjaffkidaa.Pure
namespace Go.Proofs.YtfigbjjaffkidaaW.Opn
open Go.RowKit YtfigbjjaffkidaaW.PrintWords Go.ChangeShapes Go.WideShapes Go.Deep
def Opens (P : Program) (t : TypeId) {α : Type} (d : Kd α) (wf : α → Prop) : Prop :=
  ∀ {H : Type} (enc : TypeId × Value → H) (w : World) (base : Nat) (spare : Nat → Bool) (held : Bool) (fuel : Nat) (cs : List Value) (y : DataW H × List MemPlace),
    DataW.trod enc P w base spare held fuel t cs = some y → ∃ x : α, d.K w x cs ∧ wf x
theorem opens_int {P : Program} {t : TypeId} {k : IntKind} (ht : P.underlying t = some (.int k)) : Opens P t (Kd.int k) (fun x => (Lit.int k x).wf = true) := by
  intro H enc w base spare held fuel cs y h
  obtain ⟨n, rfl, _, hw⟩ := DataW.trod_int ht h
  exact ⟨n, rfl, hw⟩
theorem opens_bool {P : Program} {t : TypeId} (ht : P.underlying t = some .bool) : Opens P t Kd.bool (fun _ => True) := by
  intro H enc w base spare held fuel cs y h
  obtain ⟨n, rfl, _⟩ := DataW.trod_bool ht h
  exact ⟨n, rfl, trivial⟩
theorem opens_iso {P : Program} {t : TypeId} {α β : Type} {d : Kd α} {wf : α → Prop} (f : β → α) (g : α → β) (hg : ∀ a, f (g a) = a) (h : Opens P t d wf) : Opens P t (Kd.iso d f) (fun b => wf (f b)) := by
  intro H enc w base spare held fuel cs y hy
  obtain ⟨x, hx, hw⟩ := h enc w base spare held fuel cs y hy
  exact ⟨g x, by show d.K w (f (g x)) cs; rw [hg]; exact hx, by show wf (f (g x)); rw [hg]; exact hw⟩
def OpensL (P : Program) : (ts : List TypeId) → {α : Type} → (d : Kd α) → (wf : α → Prop) → Prop := fun ts {α} d wf =>
  ∀ {H : Type} (enc : TypeId × Value → H) (w : World) (base : Nat) (spare : Nat → Bool) (held : Bool) (n : Nat) (cs : List Value) (xs : List (DataW H × List MemPlace)) (off : Nat),
    (∀ (i : Nat) (t : TypeId), ts[i]? = some t → ∃ y, DataW.trod enc P w base spare held n t ((cs.drop (off + ((ts.take i).map P.cellsOf).sum)).take (P.cellsOf t)) = some y) →
    ∃ x : α, d.K w x ((cs.drop off).take ((ts.map P.cellsOf).sum)) ∧ wf x
theorem opensL_one {P : Program} {t : TypeId} {α : Type} {d : Kd α} {wf : α → Prop} (h : Opens P t d wf) : OpensL P [t] d wf := by
  intro H enc w base spare held n cs xs off hx
  obtain ⟨y, hy⟩ := hx 0 t rfl
  simpa using h enc w base spare held n _ y (by simpa using hy)
theorem opensL_cons {P : Program} {t : TypeId} {ts : List TypeId} {α β : Type} {d : Kd α} {d' : Kd β} {wf : α → Prop} {wf' : β → Prop} (h : Opens P t d wf) (h' : OpensL P ts d' wf') :
    OpensL P (t :: ts) (Kd.pair d d') (fun x => wf x.1 ∧ wf' x.2) := by
  intro H enc w base spare held n cs xs off hx
  obtain ⟨y, hy⟩ := hx 0 t rfl
  obtain ⟨x, hk, hw⟩ := h enc w base spare held n _ y (by simpa using hy)
  obtain ⟨x', hk', hw'⟩ := h' enc w base spare held n cs xs (off + P.cellsOf t) (fun i u hu => by
    have := hx (i + 1) u hu
    simpa [Nat.add_assoc] using this)
  refine ⟨(x, x'), ⟨(cs.drop off).take (P.cellsOf t), (cs.drop (off + P.cellsOf t)).take ((ts.map P.cellsOf).sum), ?_, hk, hk'⟩, hw, hw'⟩
  simp only [List.map_cons, List.sum_cons]
  rw [List.take_add, List.drop_drop]
def lineB (P : Program) : List Field → Nat → Bool
  | [], _ => true
  | f :: fs, off => (f.offset == off) && lineB P fs (off + P.cellsOf f.type)
theorem line_at {P : Program} : ∀ (fs : List Field) (off : Nat), lineB P fs off = true → ∀ (i : Nat) (f : Field), fs[i]? = some f → f.offset = off + (((fs.map (·.type)).take i).map P.cellsOf).sum := by
  intro fs
  induction fs with
  | nil => intro off _ i f h; simp at h
  | cons g gs ih =>
    intro off hb i f h
    unfold lineB at hb
    rw [Bool.and_eq_true, beq_iff_eq] at hb
    cases i with
    | zero =>
      simp at h
      subst h
      simpa using hb.1
    | succ i =>
      have := ih _ hb.2 i f (by simpa using h)
      simp only [List.map_cons, List.take_succ_cons, List.sum_cons]
      omega
theorem opens_struct {P : Program} {t : TypeId} {fs : Array Field} {α : Type} {d : Kd α} {wf : α → Prop} (ht : P.underlying t = some (.struct fs)) (hl : lineB P fs.toList 0 = true) (hc : P.cellsOf t = ((fs.toList.map (·.type)).map P.cellsOf).sum)
    (h : OpensL P (fs.toList.map (·.type)) d wf) : Opens P t d wf := by
  intro H enc w base spare held fuel cs y hy
  obtain ⟨xs, n, _, _, hlen, hxl, hf⟩ := DataW.trod_struct ht hy
  obtain ⟨x, hk, hw⟩ := h enc w base spare held n cs xs 0 (fun i u hu => by
    rw [List.getElem?_map, Option.map_eq_some_iff] at hu
    obtain ⟨f, hf0, rfl⟩ := hu
    have hi : i < fs.size := by
      have := (List.getElem?_eq_some_iff.1 hf0).1
      simpa using this
    have h1 := hf i f (by rw [← Array.getElem?_toList]; exact hf0)
    rw [line_at _ 0 hl i f hf0] at h1
    exact ⟨_, h1.trans (List.getElem?_eq_getElem (by omega))⟩)
  rw [← hc, List.drop_zero, ← hlen, List.take_length] at hk
  exact ⟨x, hk, hw⟩
theorem reads_build {P : Program} {e : TypeId} {α : Type} {d : Kd α} {wf : α → Prop} (hs : P.cellsOf e = d.sz) (w : World) (ad : Addr) : ∀ (len : Nat), (∀ i, i < len → ∃ (x : α) (c : List Value), c.length = d.sz ∧ d.K w x c ∧ wf x ∧ ∀ j u, c[j]? = some u → w.cell? (ad.add (i * d.sz + j)) = some u) →
    ∃ xs : List α, xs.length = len ∧ (∀ x ∈ xs, wf x) ∧ ∀ j p, xs[j]? = some p → ∃ c, c.length = d.sz ∧ d.K w p c ∧ ∀ i u, c[i]? = some u → w.cell? (ad.add (j * d.sz + i)) = some u := by
  intro len
  induction len with
  | zero => intro _; exact ⟨[], rfl, by simp, by simp⟩
  | succ n ih =>
    intro h
    obtain ⟨xs, hl, hw, hx⟩ := ih (fun i hi => h i (by omega))
    obtain ⟨x, c, hc, hk, hwx, hcell⟩ := h n (by omega)
    refine ⟨xs ++ [x], by simp [hl], ?_, ?_⟩
    · intro y hy
      rcases List.mem_append.1 hy with hy | hy
      · exact hw y hy
      · rw [List.mem_singleton.1 hy]; exact hwx
    · intro j p hj
      rcases Nat.lt_or_ge j xs.length with hjl | hjl
      · rw [List.getElem?_append_left hjl] at hj
        exact hx j p hj
      · have : j = xs.length := by
          have := (List.getElem?_eq_some_iff.1 hj).1
          simp at this
          omega
        subst this
        have hp : x = p := by simpa using hj
        subst hp
        exact ⟨c, hc, hk, by rw [hl]; exact hcell⟩
theorem opens_slice {P : Program} {t e : TypeId} {α : Type} {d : Kd α} {wf : α → Prop} (ht : P.underlying t = some (.slice e)) (hs : P.cellsOf e = d.sz) (h : Opens P e d wf) : Opens P t (Kd.slice e d) (fun l => l.length ≤ maxLen ∧ ∀ x ∈ l, wf x) := by
  intro H enc w base spare held fuel cs y hy
  rcases open_slice ht hy with ⟨rfl, _⟩ | ⟨a, len, cap, m, n, D, Pl, rfl, hb, hl, hm, hmm, hx, hi⟩
  · exact ⟨[], ⟨none, 0, rfl, Nat.le_refl _, rfl, by simp, by simp⟩, by simp, by simp⟩
  · have hle : len ≤ m := by rw [hmm]; split <;> omega
    obtain ⟨xs, hxl, hwf, hxs⟩ := reads_build (P := P) (e := e) (d := d) (wf := wf) hs w a len (fun i hlt => by
      obtain ⟨cs', hc, ht'⟩ := hi i (by omega)
      obtain ⟨_, hcl, hat⟩ := World.cells?_some hc
      obtain ⟨x, hk, hwx⟩ := h enc w base spare held n cs' _ ht'
      refine ⟨x, cs', by omega, hk, hwx, fun j u hj => ?_⟩
      have hjl := (List.getElem?_eq_some_iff.1 hj).1
      have := hat j (by omega)
      rw [← Go.Deep.add_add, ← hs, this, hj])
    have hm' : len ≤ maxLen := by omega
    subst hxl
    have hm2 : xs.length ≤ 9223372036854775807 := by unfold maxLen at hm'; omega
    exact ⟨xs, ⟨some a, cap, rfl, hl, rfl, hm2, fun _ => ⟨a, rfl, hxs⟩⟩, hm', hwf⟩
end Go.Proofs.YtfigbjjaffkidaaW.Opn
namespace Go.Proofs.Ytfigbjjaffkidaa.batchPacks
open Go.ChangeShapes Go.WideShapes Go.ChangeAt Go.RowKit Go.Proofs.YtfigbjjaffkidaaW YtfigbjjaffkidaaW.PrintWords Go.Proofs.Ytfigbjjaffkidaa.P
open Go.ChangeMaps (open_string shut_string)
theorem own : ownKnob Try.prog.godebug = none := by kernel_rfl
theorem laidOut : laidOutB Try.prog = true := by kernel_rfl
theorem opn41 : Opn.Opens Try.prog 41 k41 (fun x => (True ∧ (Lit.int .i64 x.f1).wf = true ∧ (Lit.int .i64 x.f2).wf = true ∧ (Lit.int .i64 x.f3).wf = true ∧ (Lit.int .i64 x.f4).wf = true ∧ (Lit.int .i64 x.f5).wf = true)) :=
  Opn.opens_iso (fun x : S41 => (x.f0, x.f1, x.f2, x.f3, x.f4, x.f5)) (fun a => ⟨a.1, a.2.1, a.2.2.1, a.2.2.2.1, a.2.2.2.2.1, a.2.2.2.2.2⟩) (fun _ => rfl) (Opn.opens_struct Try.underlying41 (by kernel_rfl) (by kernel_rfl) (Opn.opensL_cons (Opn.opens_bool Try.underlying4) (Opn.opensL_cons (Opn.opens_int Try.underlying3) (Opn.opensL_cons (Opn.opens_int Try.underlying3) (Opn.opensL_cons (Opn.opens_int Try.underlying3) (Opn.opensL_cons (Opn.opens_int Try.underlying3) (Opn.opensL_one (Opn.opens_int Try.underlying3))))))))
theorem opn43 : Opn.Opens Try.prog 43 k43 (fun x => ((Lit.int .i64 x.f0).wf = true ∧ (Lit.int .i64 x.f1).wf = true ∧ (Lit.int .i64 x.f2).wf = true)) :=
  Opn.opens_iso (fun x : S43 => (x.f0, x.f1, x.f2)) (fun a => ⟨a.1, a.2.1, a.2.2⟩) (fun _ => rfl) (Opn.opens_struct Try.underlying43 (by kernel_rfl) (by kernel_rfl) (Opn.opensL_cons (Opn.opens_int Try.underlying3) (Opn.opensL_cons (Opn.opens_int Try.underlying3) (Opn.opensL_one (Opn.opens_int Try.underlying3)))))
theorem opn45 : Opn.Opens Try.prog 45 k45 (fun x => ((Lit.int .i64 x.f0).wf = true ∧ (Lit.int .i64 x.f1).wf = true ∧ (True ∧ (Lit.int .i64 x.f2.f1).wf = true ∧ (Lit.int .i64 x.f2.f2).wf = true ∧ (Lit.int .i64 x.f2.f3).wf = true ∧ (Lit.int .i64 x.f2.f4).wf = true ∧ (Lit.int .i64 x.f2.f5).wf = true) ∧ ((Lit.int .i64 x.f3.f0).wf = true ∧ (Lit.int .i64 x.f3.f1).wf = true ∧ (Lit.int .i64 x.f3.f2).wf = true) ∧ (Lit.int .i64 x.f4).wf = true)) :=
  Opn.opens_iso (fun x : S45 => (x.f0, x.f1, x.f2, x.f3, x.f4)) (fun a => ⟨a.1, a.2.1, a.2.2.1, a.2.2.2.1, a.2.2.2.2⟩) (fun _ => rfl) (Opn.opens_struct Try.underlying45 (by kernel_rfl) (by kernel_rfl) (Opn.opensL_cons (Opn.opens_int Try.underlying3) (Opn.opensL_cons (Opn.opens_int Try.underlying3) (Opn.opensL_cons opn41 (Opn.opensL_cons opn43 (Opn.opensL_one (Opn.opens_int Try.underlying3)))))))
set_option maxRecDepth 100000 in
theorem lifted (os : Os) (started : os.Started) (H : Type) (enc : TypeId × Value → H) :
    ReturnsInHanded {} Try.checked os 4 .any (Rows.batchPacksSpec.pre6 enc Try.prog Try.f4 Rows.batchPacksRow.domain false) (Rows.batchPacksSpec.post enc Try.prog Try.f4 false true false false) := by
  refine returnsInHanded_of_change_sized (C := Try.checked) own started (by kernel_rfl) Try.func4
    (ChangeSpec.witness6 (enc := enc) (C := Try.checked) false ⟨#[], #[.slice none 0 0, .int .i64 0, .int .i64 0], []⟩ 8 (by kernel_rfl) (by kernel_rfl) (by kernel_rfl) (by kernel_rfl)) ?_
  intro W base args ds gs before hval0 hW hcnd hsz0 _
  have hval : ∀ (j : Nat) t v, Try.f4.params[j]? = some t → args[j]? = some v → Value.okWide Try.prog W .any base t v := hval0
  have hW' := hW
  obtain ⟨p, q, hA0, hV, rfl, hfz, hnd⟩ := hW
  have hA : DataW.TrodAll enc Try.prog W 0 (fun _ => true) true Try.f4.params.toList args.toList ds p := hA0
  rw [Try.params4] at hA hval
  obtain ⟨v0, vs0, d0, ds0, p0, q0, hargs, rfl, rfl, h0, r0⟩ := trodAll_cons hA
  obtain ⟨v1, vs1, d1, ds1, p1, q1, rfl, rfl, rfl, h1, r1⟩ := trodAll_cons r0
  obtain ⟨v2, vs2, d2, ds2, p2, q2, rfl, rfl, rfl, h2, r2⟩ := trodAll_cons r1
  obtain ⟨rfl, rfl, rfl⟩ := trodAll_nil r2
  obtain rfl : args = #[v0, v1, v2] := by cases args; simp_all
  obtain ⟨rfl, rfl⟩ := trodVars_none hV
  have k0 := h0
  have lt0 : ∀ x ∈ p0, x.block < W.heap.size := by obtain ⟨m, hm⟩ := k0; exact DataW.trod_lt m _ _ _ hm
  obtain ⟨a0, len0, cap0, rfl⟩ := okWide_slice Try.underlying22 (hval 0 22 v0 rfl rfl)
  obtain ⟨l0, K0, W0⟩ : ∃ l : List S45, (Kd.slice 45 k45).K W l [.slice a0 len0 cap0] ∧ (l.length ≤ maxLen ∧ ∀ x0_ ∈ l, ((Lit.int .i64 x0_.f0).wf = true ∧ (Lit.int .i64 x0_.f1).wf = true ∧ (True ∧ (Lit.int .i64 x0_.f2.f1).wf = true ∧ (Lit.int .i64 x0_.f2.f2).wf = true ∧ (Lit.int .i64 x0_.f2.f3).wf = true ∧ (Lit.int .i64 x0_.f2.f4).wf = true ∧ (Lit.int .i64 x0_.f2.f5).wf = true) ∧ ((Lit.int .i64 x0_.f3.f0).wf = true ∧ (Lit.int .i64 x0_.f3.f1).wf = true ∧ (Lit.int .i64 x0_.f3.f2).wf = true) ∧ (Lit.int .i64 x0_.f4).wf = true)) := by
    obtain ⟨fuel, hf⟩ := h0
    exact (Opn.opens_slice Try.underlying22 (by kernel_rfl) opn45) enc W 0 (fun _ => true) true fuel _ _ hf
  obtain ⟨A0, c0, E0, g0, C0⟩ := K0
  simp only [List.cons.injEq, Value.slice.injEq, and_true] at E0
  obtain ⟨rfl, rfl, rfl⟩ := E0
  obtain ⟨a1, rfl, rfl, rfl, w1⟩ := open_int Try.underlying3 (hval 1 3 v1 rfl rfl) h1
  obtain ⟨a2, rfl, rfl, rfl, w2⟩ := open_int Try.underlying3 (hval 2 3 v2 rfl rfl) h2
  obtain ⟨k, hk⟩ := Pure.BatchPacks l0 a1 a2 W0 w1 w2
  clear hA0 hval0 hsz0
  refine (thalweglaw05_BatchPacks.calls (k := k) (A0 := a0) (c0 := cap0) (l0 := l0) (a1 := a1) (a2 := a2) (r := true) (w := W) (hr0 := C0) (hc0 := g0) (h := hk)).mono fun e W' ⟨he, bel⟩ => ?_
  subst he
  exact ⟨_, rfl, _, _, _, [], _, [], hW', trodAll_mk1 (shut_bool Try.underlying4 _), (trodAll_cons_mk (Below.trod laidOut (by kernel_rfl) (of_decide_eq_true (by kernel_rfl)) k0 bel lt0) (trodAll_cons_mk (shut_int Try.underlying3 w1) (trodAll_cons_mk (shut_int Try.underlying3 w2) trodAll_mk0))), rfl, bel.frame _, fun h => by cases h⟩
theorem over : Rows.batchPacksRow.holds Try.pinned (OpenSpec.ofChange Rows.batchPacksSpec) :=
  OpenClaim.holds_of_wide 4 Try.f4 rfl rfl rfl rfl rfl rfl rfl ⟨rfl, rfl, rfl, rfl, rfl⟩ rfl rfl rfl rfl rfl (by kernel_rfl) Try.func4 (by kernel_rfl)
    (of_decide_eq_true (by kernel_rfl)) (by unfold Func.isWrapper; first | (rw [if_pos (by decide +kernel)]; kernel_rfl) | (rw [if_neg (by decide +kernel)]; exact ⟨rfl, rfl⟩))
    (fun os started H enc _ => lifted os started H enc)
theorem proved : Rows.BatchPacksSaid := over
end Go.Proofs.Ytfigbjjaffkidaa.batchPacks
namespace Go.Proofs.Ytfigbjjaffkidaa
theorem batchPacks_holds : Rows.BatchPacksSaid := batchPacks.proved
end Go.Proofs.Ytfigbjjaffkidaa
