-- WRITTEN BY xprint.py, a program of this session that drives the kit's printer.
import Derived.Test.YtbejdbgcfgllhaaP0
import Derived.Test.YtbejdbgcfgllhaaP3
import Derived.Test.YtbejdbgcfgllhaaP4
namespace Go.Proofs.Ytbejdbgcfgllhaa.P
open Go.RowKit Go.Proofs.YtbejdbgcfgllhaaW.PrintWords Go.Proofs.YtbejdbgcfgllhaaW.PrintLast Go.Proofs.YtbejdbgcfgllhaaW.PrintMore
open Go.Proofs.YtbejdbgcfgllhaaW.PrintWords renaming below_alloc → YA, pw_below_drewN → YB, below_drew1 → YC
open Go.Proofs.YtbejdbgcfgllhaaW.PrintWords.Aside0 renaming mk → YD
open List renaming map_toArray → YE, length_take → YF, length_drop → YG
attribute [local go_sem] max2_int min2_int max_two min_two max_three min_three max_four min_four   -- for this text's walks alone
set_option linter.unusedVariables false
set_option linter.unusedSimpArgs false

/-! ### graph_Way: function 8 -/
def graph_Way.j0 : Nat → List Int → Int → Int → Bool → Option (List Int × Bool)
  | 0, _, _, _, _ => none
  | k + 1, x0, x1, x2, x18 => if x18 = true then (some (([] : List Int), false)) else ((graph_walk.f k x0 x1).bind fun bt108 => ((slices_Index_int_int.f k bt108.1 x2).bind fun t112 => (if t112 < 0 then (some (([] : List Int), false)) else (if 0 ≤ (wrap64 (t112 + 1)) then (if (wrap64 (t112 + 1)) ≤ (bt108.1.length : Int) then (some ((bt108.1.take ((wrap64 (t112 + 1)) : Int).toNat), true)) else (none)) else (none)))))
def graph_Way.f (k : Nat) (l0 : List Int) (a1 : Int) (a2 : Int) : Option (List Int × Bool) := if a1 < 0 then (graph_Way.j0 k l0 a1 a2 true) else (graph_Way.j0 k l0 a1 a2 (decide (a1 ≥ (l0.length : Int))))
theorem graph_Way.mono_l : ∀ k, (∀ y0 y1 y2 y3, LeO (graph_Way.j0 k y0 y1 y2 y3) (graph_Way.j0 (k + 1) y0 y1 y2 y3))
  | 0 => fun _ _ _ _ r h => by simp [graph_Way.j0] at h
  | k + 1 => by
    have ih0 := graph_Way.mono_l k
    · intro y0 y1 y2 y3
      unfold graph_Way.j0
      repeat' first
      | (with_reducible exact ih0 _ _ _ _)
      | (with_reducible exact graph_walk.mono _ _ _)
      | (with_reducible exact slices_Index_int_int.mono _ _ _)
      | (with_reducible exact LeO.refl _)
      | (with_reducible exact LeO.none _)
      | (with_reducible refine LeO.ite ?_ ?_)
      | (with_reducible refine LeO.bind ?_ (fun _ => ?_))
      | exact ih0 _ _ _ _
      | exact graph_walk.mono _ _ _
      | exact slices_Index_int_int.mono _ _ _
      | exact LeO.none _
      | refine LeO.ite ?_ ?_
      | refine LeO.bind ?_ (fun _ => ?_)
theorem graph_Way.mono : ∀ a0 a1 a2 k, LeO (graph_Way.f k a0 a1 a2) (graph_Way.f (k + 1) a0 a1 a2) := by
  intro a0 a1 a2 k
  have ih0 := graph_Way.mono_l k
  unfold graph_Way.f
  repeat' first
      | (with_reducible exact ih0 _ _ _ _)
      | (with_reducible exact graph_walk.mono _ _ _)
      | (with_reducible exact slices_Index_int_int.mono _ _ _)
      | (with_reducible exact LeO.refl _)
      | (with_reducible exact LeO.none _)
      | (with_reducible refine LeO.ite ?_ ?_)
      | (with_reducible refine LeO.bind ?_ (fun _ => ?_))
      | exact ih0 _ _ _ _
      | exact graph_walk.mono _ _ _
      | exact slices_Index_int_int.mono _ _ _
      | exact LeO.none _
      | refine LeO.ite ?_ ?_
      | refine LeO.bind ?_ (fun _ => ?_)
set_option maxHeartbeats 8000000 in
set_option maxRecDepth 100000 in
theorem graph_Way.calls (k : Nat) (A0 : Option Addr) (c0 : Nat) (l0 : List Int) (a1 : Int) (a2 : Int) (r1 : List Int) (r2 : Bool) (w : World) (hr0 : Kd.C (Kd.int .i64) w A0 l0.length l0) (hc0 : l0.length ≤ c0) (h : graph_Way.f k l0 a1 a2 = some (r1, r2)) :
    Calls Try.prog 8 #[.slice A0 l0.length c0, .int .i64 a1, .int .i64 a2] w fun e w' => ∃ v0_ : Value, e = .returned (.tuple #[v0_, .bool r2]) ∧ Kd.R (Kd.int .i64) 3 w' w.heap.size (fun _ => True) v0_ r1 ∧ Below w.heap.size w w' := by
  have HR0 := YD hr0; have HC0 := YD hc0; clear hr0 hc0
  have HB := YD (Below.refl w.heap.size w)
  have H : (if a1 < 0 then (graph_Way.j0 k l0 a1 a2 true) else (graph_Way.j0 k l0 a1 a2 (decide (a1 ≥ (l0.length : Int))))) = some (r1, r2) := h
  clear h; have HC4 := YD H; clear H
  go_enter Try.func8, Try.ntmps8
  go_upto_region 1 with (fail)
  go_cut [18] (fun v18 wc => ∃ (kq : Nat) (x18_3 : Bool), v18 = .bool x18_3 ∧ Aside0 (graph_Way.j0 kq l0 a1 a2 x18_3 = some (r1, r2)) ∧ Aside0 (kq ≤ k) ∧ Aside0 (Below w.heap.size w wc))
  case first =>
    have H := HC4.out
    clear HC4
    by_cases c5 : a1 < 0
    · rw [if_pos c5] at H
      have c5b0 : decide (a1 < 0) = true := decide_eq_true c5; clear c5
      (first | rw [c5b0] | (simp only [i64_w, i32_w]; rw [c5b0]) | rw [c5b1] | skip)
      have H' := YD H
      clear H
      go_wp2
      go_meet
      case rel => exact ⟨_, (true), (by first | rfl | (simp; done) | (simp [*]; done)), H', ⟨by first | omega | exact Nat.le_refl _⟩, ⟨by repeat (first | (with_reducible first | exact HB.out | apply YA | apply YB | apply YC) | exact HB.out)⟩⟩
    rw [if_neg c5] at H; have c5b0 : decide (a1 < 0) = false := decide_eq_false c5; clear c5
    (first | rw [c5b0] | (simp only [i64_w, i32_w]; rw [c5b0]) | rw [c5b1] | skip)
    have H' := YD H
    clear H
    go_wp2
    go_meet
    case rel => exact ⟨_, (decide (a1 ≥ (l0.length : Int))), (by first | rfl | (simp; done) | (simp [*]; done)), H', ⟨by first | omega | exact Nat.le_refl _⟩, ⟨by repeat (first | (with_reducible first | exact HB.out | apply YA | apply YB | apply YC) | exact HB.out)⟩⟩
  case rest =>
    clear HC4
    try clear p2
    try clear c5
    try clear c5b0
    obtain ⟨kq, x18_3, rfl, HA, HJ3, HB⟩ := hcut
    cases kq with
    | zero => exact absurd HA.out (by simp [graph_Way.j0])
    | succ kj3 =>
      have H := HA.out
      clear HA
      simp only [graph_Way.j0] at H
      by_cases c6 : x18_3 = true
      · subst c6
        have H1 : (some (([] : List Int), false)) = some (r1, r2) := by rw [if_pos rfl] at H; exact H
        clear H
        have H := H1
        clear H1
        simp only [Option.some.injEq, Prod.mk.injEq] at H
        obtain ⟨rfl, rfl⟩ := H
        go_wp2
        go_ret2
        exact ⟨_, by first | rfl | (simp [errW_none, errW_some] <;> rfl) | (simp [*, errW_none, errW_some] <;> rfl), by first | exact Kd.R_nil _ _ _ _ _ | exact Kd.N_nil _ _ _ _ _ | exact Kd.V_nil _ _ _ _ _ | exact Kd.Q_nil _ _ _ _ _ | exact Kd.S_nil _ _ _ _ _, by repeat (first | (with_reducible first | exact HB.out | apply YA | apply YB | apply YC) | exact HB.out)⟩
      replace c6 := Bool.eq_false_iff.mpr c6
      subst c6
      have H1 : ((graph_walk.f kj3 l0 a1).bind fun bt108 => ((slices_Index_int_int.f kj3 bt108.1 a2).bind fun t112 => (if t112 < 0 then (some (([] : List Int), false)) else (if 0 ≤ (wrap64 (t112 + 1)) then (if (wrap64 (t112 + 1)) ≤ (bt108.1.length : Int) then (some ((bt108.1.take ((wrap64 (t112 + 1)) : Int).toNat), true)) else (none)) else (none))))) = some (r1, r2) := by rw [if_neg (show ¬ (false = true) by decide)] at H; exact H
      clear H
      have H := H1
      clear H1; replace H := Option.bind_eq_some_iff.mp H
      obtain ⟨⟨t108, t109⟩, A70, H⟩ := H
      replace H : ((slices_Index_int_int.f kj3 t108 a2).bind fun t112 => (if t112 < 0 then (some (([] : List Int), false)) else (if 0 ≤ (wrap64 (t112 + 1)) then (if (wrap64 (t112 + 1)) ≤ (t108.length : Int) then (some ((t108.take ((wrap64 (t112 + 1)) : Int).toNat), true)) else (none)) else (none)))) = some (r1, r2) := H
      have A7 := YD A70; clear A70; replace H := Option.bind_eq_some_iff.mp H; obtain ⟨t112, A80, H⟩ := H
      replace H : (if t112 < 0 then (some (([] : List Int), false)) else (if 0 ≤ (wrap64 (t112 + 1)) then (if (wrap64 (t112 + 1)) ≤ (t108.length : Int) then (some ((t108.take ((wrap64 (t112 + 1)) : Int).toNat), true)) else (none)) else (none))) = some (r1, r2) := H
      have A8 := YD A80; clear A80
      by_cases c9 : t112 < 0
      · rw [if_pos c9] at H
        have c9b0 : decide (t112 < 0) = true := decide_eq_true c9; clear c9
        simp only [Option.some.injEq, Prod.mk.injEq] at H
        obtain ⟨rfl, rfl⟩ := H
        go_wp2_with (first | ((with_reducible refine gate_callee (f := 20) rfl ?_); refine goesL_ (some 22) rfl rfl Try.func20 (by kernel_rfl) rfl #[.slice A0 l0.length c0, .int .i64 a1] rfl (by (try simp only [YE, List.map_cons, List.map_nil]); first | done | rfl | (simp only [YG, YF]; rfl)) ?_; (with_reducible refine (graph_walk.calls kj3 _ _ l0 a1 t108 t109 _ ?side1 ?side2 A7.out).mono ?_); (case side1 => repeat (first | exact (Kd.C_below HR0.out HB.out) | (with_reducible refine Kd.C_alloc ?_ _) | (with_reducible refine Kd.C_drewN ?_ _) | (with_reducible refine Kd.C_drew ?_))); (case side2 => exact HC0.out); rintro e w10 ⟨v110, rfl, ho0, hb⟩; refine ⟨_, rfl, ?_⟩; have n0_ := YD (Kd.R_lower ho0 (below_size (by repeat (first | (with_reducible first | exact HB.out | apply YA | apply YB | apply YC) | exact HB.out)))); have n1_ := YD (below_step (by repeat (first | (with_reducible first | exact HB.out | apply YA | apply YB | apply YC) | exact HB.out)) hb); clear HB; have HO111 := n0_; have HB := n1_; clear n0_ n1_; (try clear hb); (try clear hb2); (try clear hk); (try clear hi); (try clear ho0); obtain ⟨Ao11, co11, eo11⟩ := Kd.R_slice HO111.out; subst eo11) | ((with_reducible refine gate_callee (f := 21) rfl ?_); refine goesL_ (some 27) rfl rfl Try.func21 (by kernel_rfl) rfl #[.slice Ao11 t108.length co11, .int .i64 a2] rfl (by (try simp only [YE, List.map_cons, List.map_nil]); first | done | rfl | (simp only [YG, YF]; rfl)) ?_; (with_reducible refine (slices_Index_int_int.calls kj3 _ _ t108 a2 t112 _ ?side1 ?side2 A8.out).mono ?_); (case side1 => repeat (first | exact (Kd.R_reads' HO111.out).2.2 | (with_reducible refine Kd.C_alloc ?_ _) | (with_reducible refine Kd.C_drewN ?_ _) | (with_reducible refine Kd.C_drew ?_))); (case side2 => exact (Kd.R_reads' HO111.out).2.1); rintro e w' ⟨rfl, ⟨nd, rfl⟩⟩; refine ⟨_, rfl, ?_⟩))
        go_ret2
        exact ⟨_, by first | rfl | (simp [errW_none, errW_some] <;> rfl) | (simp [*, errW_none, errW_some] <;> rfl), by first | exact Kd.R_nil _ _ _ _ _ | exact Kd.N_nil _ _ _ _ _ | exact Kd.V_nil _ _ _ _ _ | exact Kd.Q_nil _ _ _ _ _ | exact Kd.S_nil _ _ _ _ _, by repeat (first | (with_reducible first | exact HB.out | apply YA | apply YB | apply YC) | exact HB.out)⟩
      rw [if_neg c9] at H; have c9b0 : decide (t112 < 0) = false := decide_eq_false c9; clear c9
      obtain ⟨ji12, hji12⟩ : ∃ j_ : Int, (wrap64 (t112 + 1)) = j_ := ⟨_, rfl⟩
      replace H : (if 0 ≤ (ji12) then (if (ji12) ≤ (t108.length : Int) then (some ((t108.take ((ji12) : Int).toNat), true)) else (none)) else (none)) = some (r1, r2) := by first | (rw [hji12] at H; exact H) | (simp only [hji12] at H ⊢; exact H)
      (try rw [hji12] at A7)
      (try rw [hji12] at A8)
      have hji12w : (IntKind.i64.wrap (t112 + 1)) = ji12 := (i64_w _).trans hji12
      by_cases c13 : 0 ≤ (ji12)
      rotate_left
      · rw [if_neg c13] at H
        exact absurd H (by simp)
      rw [if_pos c13] at H
      have c13b0 := eq_true c13
      have c13b1 : decide (0 ≤ (ji12)) = true := decide_eq_true c13; clear c13
      by_cases c14 : (ji12) ≤ (t108.length : Int)
      rotate_left
      · rw [if_neg c14] at H
        exact absurd H (by simp)
      rw [if_pos c14] at H
      have c14b0 := eq_true c14
      have c14b1 : decide ((ji12) ≤ (t108.length : Int)) = true := decide_eq_true c14
      clear c14
      obtain ⟨y113, hy113⟩ : ∃ y_ : List Int, y_ = (t108.take ((ji12) : Int).toNat) := ⟨_, rfl⟩
      replace H : (some (y113, true)) = some (r1, r2) := by first | (rw [hy113]; with_reducible exact H) | (have H2_ := (Option.bind_some _ _).symm.trans H; rw [hy113]; with_reducible exact H2_) | (have H2_ := (Option.bind_some _ _).symm.trans H; with_reducible exact H2_) | with_reducible exact H | (rw [hy113]; exact H) | exact H
      have Ny113 := YD hy113; clear hy113
      simp only [Option.some.injEq, Prod.mk.injEq] at H
      obtain ⟨rfl, rfl⟩ := H
      go_wp2_with (first | ((with_reducible refine gate_callee (f := 20) rfl ?_); refine goesL_ (some 22) rfl rfl Try.func20 (by kernel_rfl) rfl #[.slice A0 l0.length c0, .int .i64 a1] rfl (by (try simp only [YE, List.map_cons, List.map_nil]); first | done | rfl | (simp only [YG, YF]; rfl)) ?_; (with_reducible refine (graph_walk.calls kj3 _ _ l0 a1 t108 t109 _ ?side1 ?side2 A7.out).mono ?_); (case side1 => repeat (first | exact (Kd.C_below HR0.out HB.out) | (with_reducible refine Kd.C_alloc ?_ _) | (with_reducible refine Kd.C_drewN ?_ _) | (with_reducible refine Kd.C_drew ?_))); (case side2 => exact HC0.out); rintro e w15 ⟨v110, rfl, ho0, hb⟩; refine ⟨_, rfl, ?_⟩; have n0_ := YD (Kd.R_lower ho0 (below_size (by repeat (first | (with_reducible first | exact HB.out | apply YA | apply YB | apply YC) | exact HB.out)))); have n1_ := YD (below_step (by repeat (first | (with_reducible first | exact HB.out | apply YA | apply YB | apply YC) | exact HB.out)) hb); clear HB; have HO111 := n0_; have HB := n1_; clear n0_ n1_; (try clear hb); (try clear hb2); (try clear hk); (try clear hi); (try clear ho0); obtain ⟨Ao16, co16, eo16⟩ := Kd.R_slice HO111.out; subst eo16) | ((with_reducible refine gate_callee (f := 21) rfl ?_); refine goesL_ (some 27) rfl rfl Try.func21 (by kernel_rfl) rfl #[.slice Ao16 t108.length co16, .int .i64 a2] rfl (by (try simp only [YE, List.map_cons, List.map_nil]); first | done | rfl | (simp only [YG, YF]; rfl)) ?_; (with_reducible refine (slices_Index_int_int.calls kj3 _ _ t108 a2 t112 _ ?side1 ?side2 A8.out).mono ?_); (case side1 => repeat (first | exact (Kd.R_reads' HO111.out).2.2 | (with_reducible refine Kd.C_alloc ?_ _) | (with_reducible refine Kd.C_drewN ?_ _) | (with_reducible refine Kd.C_drew ?_))); (case side2 => exact (Kd.R_reads' HO111.out).2.1); rintro e w' ⟨rfl, ⟨nd, rfl⟩⟩; refine ⟨_, rfl, ?_⟩; have q17 : ((ji12) : Int) ≤ ((t108.length : Int) : Int) := of_decide_eq_true (by first | (with_reducible assumption) | assumption); obtain ⟨i017, hi017, _, hsz17, _⟩ := info_parts info3; have hcut17 := cut_to (P := Try.prog) 22 3 .i64 Try.underlying22 hi017 Ao16 t108.length co16 (ji12) (of_decide_eq_true (by first | (with_reducible assumption) | assumption)) q17 (Kd.R_reads' HO111.out).2.1; have hr17 := Kd.R_take (m := ((ji12) : Int).toNat) HO111.out (by omega); have hy17 : y113.length = ((ji12) : Int).toNat := (by rw [Ny113.out, YF]; omega); rw [← Ny113.out] at hr17; rw [← hy17] at hr17 hcut17; clear hy17 hi017 hsz17 HO111; have HO115 := YD hr17; clear hr17; replace q17 := eq_true q17))
      go_ret2
      exact ⟨_, by first | rfl | (simp [errW_none, errW_some] <;> rfl) | (simp only [← hji12]; first | rfl | (simp [errW_none, errW_some] <;> rfl)) | (simp [*, errW_none, errW_some] <;> rfl), by (with_reducible repeat (first | apply Kd.R_alloc | apply Kd.R_drewN | apply Kd.R_drew)); exact HO115.out, by repeat (first | (with_reducible first | exact HB.out | apply YA | apply YB | apply YC) | exact HB.out)⟩

end Go.Proofs.Ytbejdbgcfgllhaa.P
