-- WRITTEN BY xprint.py, a program of this session that drives the kit's printer.
import Derived.Test.YtbejdbgcfgllhaaP0
import Derived.Test.YtbejdbgcfgllhaaP7
import Derived.Test.YtbejdbgcfgllhaaGnr
import Derived.Test.YtbejdbgcfgllhaaGrp
namespace Go.Proofs.Ytbejdbgcfgllhaa.P
open Go.RowKit Go.Proofs.YtbejdbgcfgllhaaW.PrintWords Go.Proofs.YtbejdbgcfgllhaaW.PrintLast Go.Proofs.YtbejdbgcfgllhaaW.PrintMore
open Go.Proofs.YtbejdbgcfgllhaaW.PrintWords renaming below_alloc → YA, pw_below_drewN → YB, below_drew1 → YC, below_step → YD, below_size → YE
open Go.Proofs.YtbejdbgcfgllhaaW.PrintWords.Aside0 renaming mk → YF
open Go.Proofs.YtbejdbgcfgllhaaW.PrintWords.Kd renaming R_alloc → YG, R_drewN → YH, R_drew → YI
attribute [local go_sem] max2_int min2_int max_two min_two max_three min_three max_four min_four   -- for this text's walks alone
set_option linter.unusedVariables false
set_option linter.unusedSimpArgs false

/-! ### graph_Parts: function 11 -/
mutual
def graph_Parts.j0 : Nat → Int → List (S36) → Bool → Option (List Int × Int)
  | 0, _, _, _ => none
  | k + 1, x0, x1, x16 => if x16 = true then (some (([] : List Int), 1)) else ((graph_near.f x0 x1).bind fun t145 => ((slices_Repeat_int_int.f (([(-1)] : List Int)) x0).bind fun t151 => (graph_Parts.l0 k t145 t151 (t151.length : Int) 0)))
def graph_Parts.l0 : Nat → List (List Int) → List Int → Int → Int → Option (List Int × Int)
  | 0, _, _, _, _ => none
  | k + 1, x6, x7, x24, x25 => if x25 < x24 then (if 0 ≤ x25 then (if x25 < (x7.length : Int) then (if (rd x7 x25) ≥ 0 then (graph_Parts.l0 k x6 x7 x24 (wrap64 (x25 + 1))) else ((graph_spread.f k x6 x25).bind fun t155 => (graph_Parts.l1 k x6 x7 x25 x24 x25 t155 (t155.length : Int) 0))) else (none)) else (none)) else (some (x7, 0))
def graph_Parts.l1 : Nat → List (List Int) → List Int → Int → Int → Int → List Int → Int → Int → Option (List Int × Int)
  | 0, _, _, _, _, _, _, _, _ => none
  | k + 1, x6, x7, x8, x24, x25, x35, x36, x37 => if x37 < x36 then (if 0 ≤ x37 then (if x37 < (x35.length : Int) then (if (rd x35 x37) ≥ 0 then (if x37 < (x7.length : Int) then (graph_Parts.l1 k x6 (x7.set (x37 : Int).toNat x8) x8 x24 x25 x35 x36 (wrap64 (x37 + 1))) else (none)) else (graph_Parts.l1 k x6 x7 x8 x24 x25 x35 x36 (wrap64 (x37 + 1)))) else (none)) else (none)) else (graph_Parts.l0 k x6 x7 x24 (wrap64 (x25 + 1)))
end
def graph_Parts.f (k : Nat) (a0 : Int) (l1 : List (S36)) : Option (List Int × Int) := if a0 < 0 then (graph_Parts.j0 k a0 l1 true) else (graph_Parts.j0 k a0 l1 (decide (a0 > 64)))
theorem graph_Parts.mono_l : ∀ k, (∀ y0 y1 y2, LeO (graph_Parts.j0 k y0 y1 y2) (graph_Parts.j0 (k + 1) y0 y1 y2)) ∧ (∀ y0 y1 y2 y3, LeO (graph_Parts.l0 k y0 y1 y2 y3) (graph_Parts.l0 (k + 1) y0 y1 y2 y3)) ∧ (∀ y0 y1 y2 y3 y4 y5 y6 y7, LeO (graph_Parts.l1 k y0 y1 y2 y3 y4 y5 y6 y7) (graph_Parts.l1 (k + 1) y0 y1 y2 y3 y4 y5 y6 y7))
  | 0 => ⟨fun _ _ _ r h => by simp [graph_Parts.j0] at h, fun _ _ _ _ r h => by simp [graph_Parts.l0] at h, fun _ _ _ _ _ _ _ _ r h => by simp [graph_Parts.l1] at h⟩
  | k + 1 => by
    obtain ⟨ih0, ih1, ih2⟩ := graph_Parts.mono_l k
    refine ⟨?_, ?_, ?_⟩
    · intro y0 y1 y2
      unfold graph_Parts.j0
      repeat' first
      | (with_reducible exact ih0 _ _ _)
      | (with_reducible exact ih1 _ _ _ _)
      | (with_reducible exact ih2 _ _ _ _ _ _ _ _)
      | (with_reducible exact graph_spread.mono _ _ _)
      | (with_reducible exact LeO.refl _)
      | (with_reducible exact LeO.none _)
      | (with_reducible refine LeO.ite ?_ ?_)
      | (with_reducible refine LeO.bind ?_ (fun _ => ?_))
      | exact ih0 _ _ _
      | exact ih1 _ _ _ _
      | exact ih2 _ _ _ _ _ _ _ _
      | exact graph_spread.mono _ _ _
      | exact LeO.none _
      | refine LeO.ite ?_ ?_
      | refine LeO.bind ?_ (fun _ => ?_)
    · intro y0 y1 y2 y3
      unfold graph_Parts.l0
      repeat' first
      | (with_reducible exact ih0 _ _ _)
      | (with_reducible exact ih1 _ _ _ _)
      | (with_reducible exact ih2 _ _ _ _ _ _ _ _)
      | (with_reducible exact graph_spread.mono _ _ _)
      | (with_reducible exact LeO.refl _)
      | (with_reducible exact LeO.none _)
      | (with_reducible refine LeO.ite ?_ ?_)
      | (with_reducible refine LeO.bind ?_ (fun _ => ?_))
      | exact ih0 _ _ _
      | exact ih1 _ _ _ _
      | exact ih2 _ _ _ _ _ _ _ _
      | exact graph_spread.mono _ _ _
      | exact LeO.none _
      | refine LeO.ite ?_ ?_
      | refine LeO.bind ?_ (fun _ => ?_)
    intro y0 y1 y2 y3 y4 y5 y6 y7
    unfold graph_Parts.l1
    repeat' first
    | (with_reducible exact ih0 _ _ _)
    | (with_reducible exact ih1 _ _ _ _)
    | (with_reducible exact ih2 _ _ _ _ _ _ _ _)
    | (with_reducible exact graph_spread.mono _ _ _)
    | (with_reducible exact LeO.refl _)
    | (with_reducible exact LeO.none _)
    | (with_reducible refine LeO.ite ?_ ?_)
    | (with_reducible refine LeO.bind ?_ (fun _ => ?_))
    | exact ih0 _ _ _
    | exact ih1 _ _ _ _
    | exact ih2 _ _ _ _ _ _ _ _
    | exact graph_spread.mono _ _ _
    | exact LeO.none _
    | refine LeO.ite ?_ ?_
    | refine LeO.bind ?_ (fun _ => ?_)
theorem graph_Parts.mono : ∀ a0 a1 k, LeO (graph_Parts.f k a0 a1) (graph_Parts.f (k + 1) a0 a1) := by
  intro a0 a1 k
  obtain ⟨ih0, ih1, ih2⟩ := graph_Parts.mono_l k
  unfold graph_Parts.f
  repeat' first
      | (with_reducible exact ih0 _ _ _)
      | (with_reducible exact ih1 _ _ _ _)
      | (with_reducible exact ih2 _ _ _ _ _ _ _ _)
      | (with_reducible exact graph_spread.mono _ _ _)
      | (with_reducible exact LeO.refl _)
      | (with_reducible exact LeO.none _)
      | (with_reducible refine LeO.ite ?_ ?_)
      | (with_reducible refine LeO.bind ?_ (fun _ => ?_))
      | exact ih0 _ _ _
      | exact ih1 _ _ _ _
      | exact ih2 _ _ _ _ _ _ _ _
      | exact graph_spread.mono _ _ _
      | exact LeO.none _
      | refine LeO.ite ?_ ?_
      | refine LeO.bind ?_ (fun _ => ?_)
set_option maxHeartbeats 8000000 in
set_option maxRecDepth 100000 in
theorem graph_Parts.calls (k : Nat) (a0 : Int) (A1 : Option Addr) (c1 : Nat) (l1 : List (S36)) (r1 : List Int) (r2 : Int) (w : World) (hr1 : Kd.C k36 w A1 l1.length l1) (hc1 : l1.length ≤ c1) (h : graph_Parts.f k a0 l1 = some (r1, r2)) :
    Calls Try.prog 11 #[.int .i64 a0, .slice A1 l1.length c1] w fun e w' => ∃ v0_ : Value, e = .returned (.tuple #[v0_, .int .i64 r2]) ∧ Kd.R (Kd.int .i64) 3 w' w.heap.size (fun _ => True) v0_ r1 ∧ Below w.heap.size w w' := by
  have HR1 := YF hr1; have HC1 := YF hc1; clear hr1 hc1
  have HB := YF (Below.refl w.heap.size w)
  have H : (if a0 < 0 then (graph_Parts.j0 k a0 l1 true) else (graph_Parts.j0 k a0 l1 (decide (a0 > 64)))) = some (r1, r2) := h
  clear h; have HC3 := YF H; clear H
  go_enter Try.func11, Try.ntmps11
  go_upto_region 1 with (fail)
  go_cut [16] (fun v16 wc => ∃ (kq : Nat) (x16_2 : Bool), v16 = .bool x16_2 ∧ Aside0 (graph_Parts.j0 kq a0 l1 x16_2 = some (r1, r2)) ∧ Aside0 (kq ≤ k) ∧ Aside0 (Below w.heap.size w wc))
  case first =>
    have H := HC3.out
    clear HC3
    by_cases c4 : a0 < 0
    · rw [if_pos c4] at H
      have c4b0 : decide (a0 < 0) = true := decide_eq_true c4; clear c4
      (first | rw [c4b0] | (simp only [i64_w, i32_w]; rw [c4b0]) | rw [c4b1] | skip)
      have H' := YF H
      clear H
      go_wp2
      go_meet
      case rel => exact ⟨_, (true), (by first | rfl | (simp; done) | (simp [*]; done)), H', ⟨by first | omega | exact Nat.le_refl _⟩, ⟨by repeat (first | (with_reducible first | exact HB.out | apply YA | apply YB | apply YC) | exact HB.out)⟩⟩
    rw [if_neg c4] at H; have c4b0 : decide (a0 < 0) = false := decide_eq_false c4; clear c4
    (first | rw [c4b0] | (simp only [i64_w, i32_w]; rw [c4b0]) | rw [c4b1] | skip)
    have H' := YF H
    clear H
    go_wp2
    go_meet
    case rel => exact ⟨_, (decide (a0 > 64)), (by first | rfl | (simp; done) | (simp [*]; done)), H', ⟨by first | omega | exact Nat.le_refl _⟩, ⟨by repeat (first | (with_reducible first | exact HB.out | apply YA | apply YB | apply YC) | exact HB.out)⟩⟩
  case rest =>
    clear HC3
    try clear c1
    try clear p2
    try clear c4
    try clear c4b0
    obtain ⟨kq, x16_2, rfl, HA, HJ2, HB⟩ := hcut
    cases kq with
    | zero => exact absurd HA.out (by simp [graph_Parts.j0])
    | succ kj2 =>
      have H := HA.out
      clear HA
      simp only [graph_Parts.j0] at H
      by_cases c5 : x16_2 = true
      · subst c5
        have H1 : (some (([] : List Int), 1)) = some (r1, r2) := by rw [if_pos rfl] at H; exact H
        clear H
        have H := H1
        clear H1
        simp only [Option.some.injEq, Prod.mk.injEq] at H
        obtain ⟨rfl, rfl⟩ := H
        go_wp2
        go_ret2
        exact ⟨_, by first | rfl | (simp [errW_none, errW_some] <;> rfl) | (simp [*, errW_none, errW_some] <;> rfl), by first | exact Kd.R_nil _ _ _ _ _ | exact Kd.N_nil _ _ _ _ _ | exact Kd.V_nil _ _ _ _ _ | exact Kd.Q_nil _ _ _ _ _ | exact Kd.S_nil _ _ _ _ _, by repeat (first | (with_reducible first | exact HB.out | apply YA | apply YB | apply YC) | exact HB.out)⟩
      replace c5 := Bool.eq_false_iff.mpr c5
      subst c5
      have H1 : ((graph_near.f a0 l1).bind fun t145 => ((slices_Repeat_int_int.f (([(-1)] : List Int)) a0).bind fun t151 => (graph_Parts.l0 kj2 t145 t151 (t151.length : Int) 0))) = some (r1, r2) := by rw [if_neg (show ¬ (false = true) by decide)] at H; exact H
      clear H
      have H := H1
      clear H1; replace H := Option.bind_eq_some_iff.mp H; obtain ⟨t145, A60, H⟩ := H
      replace H : ((slices_Repeat_int_int.f (([(-1)] : List Int)) a0).bind fun t151 => (graph_Parts.l0 kj2 t145 t151 (t151.length : Int) 0)) = some (r1, r2) := H
      have A6 := YF A60; clear A60
      obtain ⟨y148, hy148⟩ : ∃ y_ : List Int, y_ = (([(-1)] : List Int)) := ⟨_, rfl⟩
      replace H : ((slices_Repeat_int_int.f y148 a0).bind fun t151 => (graph_Parts.l0 kj2 t145 t151 (t151.length : Int) 0)) = some (r1, r2) := by first | (rw [hy148]; with_reducible exact H) | (have H2_ := (Option.bind_some _ _).symm.trans H; rw [hy148]; with_reducible exact H2_) | (have H2_ := (Option.bind_some _ _).symm.trans H; with_reducible exact H2_) | with_reducible exact H | (rw [hy148]; exact H) | exact H
      have Ny148 := YF hy148; clear hy148; replace H := Option.bind_eq_some_iff.mp H; obtain ⟨t151, A70, H⟩ := H
      replace H : (graph_Parts.l0 kj2 t145 t151 (t151.length : Int) 0) = some (r1, r2) := H
      have A7 := YF A70; clear A70
      have H' := YF H
      clear H
      go_wp2_with (first | ((with_reducible refine gate_callee (f := 22) rfl ?_); refine goesL_ (some 19) rfl rfl Try.func22 (by kernel_rfl) rfl #[.int .i64 a0, .slice A1 l1.length c1] rfl (by (try simp only [List.map_toArray, List.map_cons, List.map_nil]); first | done | rfl | (simp only [List.length_drop, List.length_take]; rfl)) ?_; (with_reducible refine (graph_near.calls a0 _ _ l1 t145 _ ?side1 ?side2 A6.out).mono ?_); (case side1 => repeat (first | exact (Kd.C_below HR1.out HB.out) | (with_reducible refine Kd.C_alloc ?_ _) | (with_reducible refine Kd.C_drewN ?_ _) | (with_reducible refine Kd.C_drew ?_))); (case side2 => exact HC1.out); rintro e w8 ⟨v146, rfl, ho0, hb⟩; refine ⟨_, rfl, ?_⟩; have n0_ := YF (Kd.S_lower ho0 (YE (by repeat (first | (with_reducible first | exact HB.out | apply YA | apply YB | apply YC) | exact HB.out)))); have n1_ := YF (YD (by repeat (first | (with_reducible first | exact HB.out | apply YA | apply YB | apply YC) | exact HB.out)) hb); clear HB; have HO147 := n0_; have HB := n1_; clear n0_ n1_; (try clear hb); (try clear hb2); (try clear hk); (try clear hi); (try clear ho0)) | ((with_reducible refine gate_dst (N := 20) rfl ?_); refine Kd.R_lit (Kd.int .i64) _ 3 ?hg (N := 20) ?hd (xs := ([(-1)] : List Int)) (inner := [.int .i64 (-1)]) (ok := fun _ => True) (okp := fun _ => True) ?hr ?hp (fun _ hk => hk) trivial (Below.refl _ _) (Nat.le_refl _) (by simp) ?_; (case hd => rfl); (case hg => rfl); (case hr => first | (go_simp; done) | (go_simp; rfl)); (case hp => exact (Reps.one (show Kd.M (Kd.int .i64) _ _ _ (-1) [.int .i64 (-1)] from rfl) (Reps.none _ _))); intro v149 w9 ho10 hb hg_ hnew_; clear hg_ hnew_; (first | rw [← Ny148.out] at ho10 | (simp only [Int.reduceToNat] at ho10; rw [← Ny148.out] at ho10)); have n0_ := YF (Kd.S_elder' (by (with_reducible repeat (first | apply Kd.S_alloc | apply Kd.S_drewN | apply Kd.S_drew)); exact HO147.out) (Kd.R_base ho10) hb); have n1_ := YF (Kd.R_lower ho10 (YE (by repeat (first | (with_reducible first | exact HB.out | apply YA | apply YB | apply YC) | exact HB.out)))); have n2_ := YF (YD (by repeat (first | (with_reducible first | exact HB.out | apply YA | apply YB | apply YC) | exact HB.out)) hb); clear HO147; clear HB; have HO147 := n0_; have HO150 := n1_; have HB := n2_; clear n0_ n1_ n2_; clear hb ho10; obtain ⟨Ao11, co11, eo11⟩ := Kd.R_slice HO150.out; subst eo11) | ((with_reducible refine gate_callee (f := 23) rfl ?_); refine goesL_ (some 22) rfl rfl Try.func23 (by kernel_rfl) rfl #[.slice Ao11 y148.length co11, .int .i64 a0] rfl (by (try simp only [List.map_toArray, List.map_cons, List.map_nil]); first | done | rfl | (simp only [List.length_drop, List.length_take]; rfl)) ?_; (with_reducible refine (slices_Repeat_int_int.calls _ _ y148 a0 t151 _ ?side1 ?side2 A7.out).mono ?_); (case side1 => repeat (first | exact (Kd.R_reads' HO150.out).2.2 | (with_reducible refine Kd.C_alloc ?_ _) | (with_reducible refine Kd.C_drewN ?_ _) | (with_reducible refine Kd.C_drew ?_))); (case side2 => exact (Kd.R_reads' HO150.out).2.1); rintro e w12 ⟨v152, rfl, ho0, hb⟩; refine ⟨_, rfl, ?_⟩; have n0_ := YF (Kd.S_elder' (by (with_reducible repeat (first | apply Kd.S_alloc | apply Kd.S_drewN | apply Kd.S_drew)); exact HO147.out) (Kd.R_base ho0) hb); have n1_ := YF (Kd.R_elder' (by (with_reducible repeat (first | apply YG | apply YH | apply YI)); exact HO150.out) (Kd.R_base ho0) hb); have n2_ := YF (Kd.R_lower (Kd.R_new' ho0 (Kd.R_lt (by (with_reducible repeat (first | apply YG | apply YH | apply YI)); exact HO150.out))) (YE (by repeat (first | (with_reducible first | exact HB.out | apply YA | apply YB | apply YC) | exact HB.out)))); have n3_ := YF (YD (by repeat (first | (with_reducible first | exact HB.out | apply YA | apply YB | apply YC) | exact HB.out)) hb); clear HO147; clear HO150; clear HB; have HO147 := n0_; have HO150 := n1_; have HO153 := n2_; have HB := n3_; clear n0_ n1_ n2_ n3_; (try clear hb); (try clear hb2); (try clear hk); (try clear hi); (try clear ho0); obtain ⟨Ao13, co13, eo13⟩ := Kd.R_slice HO153.out; subst eo13))
      go_loopg [25] kj2 (fun kq v25 w' => ∃ (x7_2 : List Int) (x25_2 : Int), v25 = .int .i64 x25_2 ∧ Aside0 (graph_Parts.l0 kq t145 x7_2 (t151.length : Int) x25_2 = some (r1, r2)) ∧ Aside0 (kq ≤ kj2) ∧ Aside0 (Kd.S (Kd.slice 3 (Kd.int .i64)) 22 w' w.heap.size (fun k_ => some k_ ≠ ((.slice Ao13 t151.length co13) : Value).ownBlock) v146 t145) ∧ Aside0 (Kd.R (Kd.int .i64) 3 w' w.heap.size (fun _ => True) (.slice Ao13 t151.length co13) x7_2) ∧ Aside0 (Below w.heap.size w w'))
      case atStart => exact ⟨(t151), (0), (by first | rfl | (simp; done) | (simp [*]; done)), H', ⟨Nat.le_refl _⟩, ⟨by (with_reducible repeat (first | apply Kd.S_alloc | apply Kd.S_drewN | apply Kd.S_drew)); exact Kd.S_mono HO147.out (fun _ hk => by first | exact hk.2 | exact trivial | (simp [hk]; done) | simp_all)⟩, ⟨by (with_reducible repeat (first | apply YG | apply YH | apply YI)); exact Kd.R_mono HO153.out (fun _ hk => trivial)⟩, ⟨by repeat (first | (with_reducible first | exact HB.out | apply YA | apply YB | apply YC) | exact HB.out)⟩⟩
      case round =>
        clear H'
        try clear c1
        try clear c2
        try clear p2
        try clear c4
        try clear c4b0
        try clear c5
        try clear c11
        try clear p2
        obtain ⟨x7_2, x25_2, rfl, HA, HK2, HO_6, HO_7, HB⟩ := hrel
        have hl7_2 := (Kd.R_reads' HO_7.out).1
        rw [hl7_2] at HO_7
        (try simp only [hl7_2])
        (try simp only [hl7_2] at HO_6)
        cases gk with
        | zero => exact absurd HA.out (by simp [graph_Parts.l0])
        | succ k2 =>
          have H := HA.out
          clear HA
          simp only [graph_Parts.l0] at H
          by_cases c14 : x25_2 < (t151.length : Int)
          · rw [if_pos c14] at H
            have c14b0 : decide (x25_2 < (t151.length : Int)) = true := decide_eq_true c14
            clear c14
            by_cases c15 : 0 ≤ x25_2
            rotate_left
            · rw [if_neg c15] at H
              exact absurd H (by simp)
            rw [if_pos c15] at H; have c15b0 : decide (0 ≤ x25_2) = true := decide_eq_true c15; clear c15
            by_cases c16 : x25_2 < (x7_2.length : Int)
            rotate_left
            · rw [if_neg c16] at H
              exact absurd H (by simp)
            rw [if_pos c16] at H
            have c16b0 : decide (x25_2 < (x7_2.length : Int)) = true := decide_eq_true c16
            clear c16
            by_cases c17 : (rd x7_2 x25_2) ≥ 0
            · rw [if_pos c17] at H
              have c17b0 : decide (0 ≤ (rd x7_2 x25_2)) = true := decide_eq_true c17; clear c17
              have H' := YF H
              clear H
              have p154 : 0 ≤ (x25_2 : Int) := of_decide_eq_true (by first | (with_reducible assumption) | assumption)
              have q154 : x25_2 < (x7_2.length : Int) := of_decide_eq_true (by first | (with_reducible assumption) | assumption)
              obtain ⟨ad154, e154, hx154_0⟩ := Kd.at_int (Kd.R_reads' HO_7.out).2.2 x25_2 p154 q154
              cases e154
              replace p154 := eq_true p154
              replace q154 := eq_true q154
              go_wp2
              (try simp only [← hl7_2])
              go_roundg k2
              case measure => have := HJ2.out; have := HK2.out; omega
              case rel => exact ⟨(x7_2), (wrap64 (x25_2 + 1)), (by first | rfl | (simp; done) | (simp [*]; done)), H', ⟨by have := HJ2.out; have := HK2.out; omega⟩, ⟨by (try simp only [hl7_2]); (with_reducible repeat (first | apply Kd.S_alloc | apply Kd.S_drewN | apply Kd.S_drew)); exact HO_6.out⟩, ⟨by (try simp only [hl7_2]); (with_reducible repeat (first | apply YG | apply YH | apply YI)); exact HO_7.out⟩, ⟨by repeat (first | (with_reducible first | exact HB.out | apply YA | apply YB | apply YC) | exact HB.out)⟩⟩
            rw [if_neg c17] at H; have c17b0 : decide (0 ≤ (rd x7_2 x25_2)) = false := decide_eq_false c17; clear c17; replace H := Option.bind_eq_some_iff.mp H; obtain ⟨t155, A180, H⟩ := H
            replace H : (graph_Parts.l1 k2 t145 x7_2 x25_2 (t151.length : Int) x25_2 t155 (t155.length : Int) 0) = some (r1, r2) := H
            have A18 := YF A180; clear A180
            have H' := YF H
            clear H
            have p154 : 0 ≤ (x25_2 : Int) := of_decide_eq_true (by first | (with_reducible assumption) | assumption)
            have q154 : x25_2 < (x7_2.length : Int) := of_decide_eq_true (by first | (with_reducible assumption) | assumption)
            obtain ⟨ad154, e154, hx154_0⟩ := Kd.at_int (Kd.R_reads' HO_7.out).2.2 x25_2 p154 q154
            cases e154
            replace p154 := eq_true p154
            replace q154 := eq_true q154
            obtain ⟨Ao19, co19, eo19⟩ := Kd.S_slice HO_6.out
            subst eo19
            go_wp2_with (first | ((with_reducible refine gate_callee (f := 24) rfl ?_); refine goesL_ (some 35) rfl rfl Try.func24 (by kernel_rfl) rfl #[.slice Ao19 t145.length co19, .int .i64 x25_2] rfl (by (try simp only [List.map_toArray, List.map_cons, List.map_nil]); first | done | rfl | (simp only [List.length_drop, List.length_take]; rfl)) ?_; (with_reducible refine (graph_spread.calls k2 _ _ t145 x25_2 t155 _ ?side1 ?side2 A18.out).mono ?_); (case side1 => repeat (first | exact (Kd.S_reads' HO_6.out).2.2 | (with_reducible refine Kd.C_alloc ?_ _) | (with_reducible refine Kd.C_drewN ?_ _) | (with_reducible refine Kd.C_drew ?_))); (case side2 => exact (Kd.S_reads' HO_6.out).2.1); rintro e w20 ⟨v156, rfl, ho0, hb⟩; refine ⟨_, rfl, ?_⟩; have n0_ := YF (Kd.S_elder' (by (with_reducible repeat (first | apply Kd.S_alloc | apply Kd.S_drewN | apply Kd.S_drew)); exact HO_6.out) (Kd.R_base ho0) hb); have n1_ := YF (Kd.R_elder' (by (with_reducible repeat (first | apply YG | apply YH | apply YI)); exact HO_7.out) (Kd.R_base ho0) hb); have n2_ := YF (Kd.R_lower (Kd.R_new' ho0 (Kd.R_lt (by (with_reducible repeat (first | apply YG | apply YH | apply YI)); exact HO_7.out))) (YE (by repeat (first | (with_reducible first | exact HB.out | apply YA | apply YB | apply YC) | exact HB.out)))); have n3_ := YF (YD (by repeat (first | (with_reducible first | exact HB.out | apply YA | apply YB | apply YC) | exact HB.out)) hb); clear HO_6; clear HO_7; clear HB; have HO_6 := n0_; have HO_7 := n1_; have HO157 := n2_; have HB := n3_; clear n0_ n1_ n2_ n3_; (try clear hb); (try clear hb2); (try clear hk); (try clear hi); (try clear ho0); obtain ⟨Ao21, co21, eo21⟩ := Kd.R_slice HO157.out; subst eo21))
            go_loopg [37] k2 (fun kq v37 w' => ∃ (x7_3 : List Int) (x37_3 : Int), v37 = .int .i64 x37_3 ∧ Aside0 (graph_Parts.l1 kq t145 x7_3 x25_2 (t151.length : Int) x25_2 t155 (t155.length : Int) x37_3 = some (r1, r2)) ∧ Aside0 (kq ≤ k2) ∧ Aside0 (Kd.S (Kd.slice 3 (Kd.int .i64)) 22 w' w.heap.size (fun k_ => some k_ ≠ ((.slice (some ad154) x7_2.length co13) : Value).ownBlock ∧ some k_ ≠ ((.slice Ao21 t155.length co21) : Value).ownBlock) (.slice Ao19 t145.length co19) t145) ∧ Aside0 (Kd.R (Kd.int .i64) 3 w' w.heap.size (fun k_ => some k_ ≠ ((.slice Ao21 t155.length co21) : Value).ownBlock) (.slice (some ad154) x7_2.length co13) x7_3) ∧ Aside0 (Kd.R (Kd.int .i64) 3 w' w.heap.size (fun k_ => some k_ ≠ ((.slice (some ad154) x7_2.length co13) : Value).ownBlock) (.slice Ao21 t155.length co21) t155) ∧ Aside0 (Below w.heap.size w w'))
            case atStart => exact ⟨(x7_2), (0), (by first | rfl | (simp; done) | (simp [*]; done)), H', ⟨Nat.le_refl _⟩, ⟨by (try simp only [hl7_2]); (with_reducible repeat (first | apply Kd.S_alloc | apply Kd.S_drewN | apply Kd.S_drew)); exact HO_6.out⟩, ⟨by (try simp only [hl7_2]); (with_reducible repeat (first | apply YG | apply YH | apply YI)); exact Kd.R_mono HO_7.out (fun _ hk => by first | exact hk.2 | exact trivial | (simp [hk]; done) | simp_all)⟩, ⟨by (try simp only [hl7_2]); (with_reducible repeat (first | apply YG | apply YH | apply YI)); exact Kd.R_mono HO157.out (fun _ hk => by first | exact hk.2 | exact trivial | (simp [hk]; done) | simp_all)⟩, ⟨by repeat (first | (with_reducible first | exact HB.out | apply YA | apply YB | apply YC) | exact HB.out)⟩⟩
            case round =>
              clear H'
              try clear c1
              try clear p1
              try clear q1
              try clear hx1
              try clear c2
              try clear p2
              try clear c4
              try clear c4b0
              try clear c5
              try clear p6
              try clear c11
              try clear c14
              try clear c14b0
              try clear c15
              try clear c15b0
              try clear p15
              try clear q15
              try clear hx15
              try clear c16
              try clear c16b0
              try clear c17
              try clear c17b0
              try clear hx154_0
              try clear p154
              try clear p2
              try clear q154
              obtain ⟨x7_3, x37_3, rfl, HA, HK3, HO_6, HO_7, HO_35, HB⟩ := hrel
              have hl7_3 := (Kd.R_reads' HO_7.out).1
              rw [hl7_3] at HO_7
              (try simp only [hl7_3])
              (try simp only [hl7_3] at HO_6)
              (try simp only [hl7_3] at HO_35)
              cases gk with
              | zero => exact absurd HA.out (by simp [graph_Parts.l1])
              | succ k3 =>
                have H := HA.out
                clear HA
                simp only [graph_Parts.l1] at H
                by_cases c22 : x37_3 < (t155.length : Int)
                · rw [if_pos c22] at H
                  have c22b0 : decide (x37_3 < (t155.length : Int)) = true := decide_eq_true c22
                  clear c22
                  by_cases c23 : 0 ≤ x37_3
                  rotate_left
                  · rw [if_neg c23] at H
                    exact absurd H (by simp)
                  rw [if_pos c23] at H; have c23b0 : decide (0 ≤ x37_3) = true := decide_eq_true c23; clear c23
                  by_cases c24 : x37_3 < (t155.length : Int)
                  rotate_left
                  · rw [if_neg c24] at H
                    exact absurd H (by simp)
                  rw [if_pos c24] at H
                  have c24b0 : decide (x37_3 < (t155.length : Int)) = true := decide_eq_true c24
                  clear c24
                  by_cases c25 : (rd t155 x37_3) ≥ 0
                  · rw [if_pos c25] at H
                    have c25b0 : decide (0 ≤ (rd t155 x37_3)) = true := decide_eq_true c25; clear c25
                    by_cases c26 : x37_3 < (x7_3.length : Int)
                    rotate_left
                    · rw [if_neg c26] at H
                      exact absurd H (by simp)
                    rw [if_pos c26] at H
                    have c26b0 : decide (x37_3 < (x7_3.length : Int)) = true := decide_eq_true c26
                    clear c26
                    obtain ⟨y159, hy159⟩ : ∃ y_ : List Int, y_ = (x7_3.set (x37_3 : Int).toNat x25_2) := ⟨_, rfl⟩
                    replace H : (graph_Parts.l1 k3 t145 y159 x25_2 (t151.length : Int) x25_2 t155 (t155.length : Int) (wrap64 (x37_3 + 1))) = some (r1, r2) := by first | (rw [hy159]; with_reducible exact H) | (have H2_ := (Option.bind_some _ _).symm.trans H; rw [hy159]; with_reducible exact H2_) | (have H2_ := (Option.bind_some _ _).symm.trans H; with_reducible exact H2_) | with_reducible exact H | (rw [hy159]; exact H) | exact H
                    have Ny159 := YF hy159; clear hy159
                    have H' := YF H
                    clear H
                    have p158 : 0 ≤ (x37_3 : Int) := of_decide_eq_true (by first | (with_reducible assumption) | assumption)
                    have q158 : x37_3 < (t155.length : Int) := of_decide_eq_true (by first | (with_reducible assumption) | assumption)
                    obtain ⟨ad158, e158, hx158_0⟩ := Kd.at_int (Kd.R_reads' HO_35.out).2.2 x37_3 p158 q158
                    cases e158
                    replace p158 := eq_true p158
                    replace q158 := eq_true q158
                    have p27 : 0 ≤ (x37_3 : Int) := of_decide_eq_true (by first | (with_reducible assumption) | assumption)
                    have q27 : (x37_3 : Int) < ((x7_3.length : Int) : Int) := of_decide_eq_true (by first | (with_reducible assumption) | assumption)
                    obtain ⟨go27, co27, eo27, gb27, gl27, cl27, HG27⟩ := Kd.R_form HO_7.out (by omega)
                    (first | cases eo27 | (injection eo27 with ea_ en_ ec_; (first | subst ea_ | (injection ea_ with ea_; subst ea_)); subst ec_; clear en_))
                    have GB27 := YF gb27; have GG27 := YF HG27; clear gb27 gl27 HG27
                    (first | simp only [add_plain] at hx154_0 | skip)
                    obtain ⟨hx27_0, hf27_0⟩ := Kd.R_celln 0 HO_7.out (x37_3 : Int) p27 q27
                    replace p27 := eq_true p27
                    replace q27 := eq_true q27
                    have HP28 := Kd.R_putg HO_7.out (x37_3 : Int) x25_2
                    go_wp2_with (first | ((with_reducible refine gate_store (t := 3) (p := 47) rfl ?_); refine store_event (t := 3) (p := 47) (v := ?vo_w29) (w1 := (wr.setCell ⟨go27, (x37_3 : Int).toNat, none⟩ (.int .i64 x25_2))) ?hg ?ho ?hn ?hr ?_; (case ho => rfl); (case hg => rfl); (case hn => rfl); (case hr => first | (go_simp; done) | (go_simp; rfl)); intro w29 hw; have hg : wr.grownBy w29 (some go27) := (by rw [hw]; exact HP28.2); have hp_ : Kd.R (Kd.int .i64) 3 w29 w.heap.size (fun k_ => some k_ ≠ (.slice (some ad158) t155.length co21 : Value).ownBlock) (.slice (some ⟨go27, 0, none⟩) x7_3.length co13) y159 := (by rw [hw, Ny159.out]; exact HP28.1); clear HP28; have n0_ := YF (Kd.S_after (v := (.slice (some ⟨go27, 0, none⟩) x7_3.length co13)) (v1 := (.slice (some ⟨go27, 0, none⟩) x7_3.length co13)) (ok := (fun k_ => some k_ ≠ (.slice (some ad158) t155.length co21 : Value).ownBlock)) (by (with_reducible repeat (first | apply Kd.S_alloc | apply Kd.S_drewN | apply Kd.S_drew)); exact Kd.S_mono HO_6.out (fun _ hk => by first | exact ⟨hk.2, hk.1⟩ | exact trivial | (simp [hk]; done) | simp_all)) hg (.inl rfl)); have n1_ := YF (hp_); have n2_ := YF (Kd.R_after (v := (.slice (some ⟨go27, 0, none⟩) x7_3.length co13)) (v1 := (.slice (some ⟨go27, 0, none⟩) x7_3.length co13)) (ok := (fun _ => True)) (by (with_reducible repeat (first | apply YG | apply YH | apply YI)); exact Kd.R_mono HO_35.out (fun _ hk => by first | exact ⟨trivial, hk⟩ | exact trivial | (simp [hk]; done) | simp_all)) hg (.inl rfl)); have n3_ := YF ((by rw [hw]; exact below_set (HB.out) GB27.out : Below w.heap.size w w29)); clear HO_6; clear HO_7; clear HO_35; clear HB; have HO_6 := n0_; have HO_7 := n1_; have HO_35 := n2_; have HB := n3_; clear n0_ n1_ n2_ n3_; clear hg hw hp_))
                    (try simp only [← hl7_3])
                    go_roundg k3
                    case measure => have := HJ2.out; have := HK2.out; have := HK3.out; omega
                    case rel => exact ⟨(y159), (wrap64 (x37_3 + 1)), (by first | rfl | (simp; done) | (simp [*]; done)), H', ⟨by have := HJ2.out; have := HK2.out; have := HK3.out; omega⟩, ⟨by (try simp only [hl7_2]); (try simp only [hl7_3]); (with_reducible repeat (first | apply Kd.S_alloc | apply Kd.S_drewN | apply Kd.S_drew)); exact Kd.S_mono HO_6.out (fun _ hk => by first | exact ⟨hk.2, hk.1⟩ | exact trivial | (simp [hk]; done) | simp_all)⟩, ⟨by (try simp only [hl7_2]); (try simp only [hl7_3]); (with_reducible repeat (first | apply YG | apply YH | apply YI)); exact HO_7.out⟩, ⟨by (try simp only [hl7_2]); (try simp only [hl7_3]); (with_reducible repeat (first | apply YG | apply YH | apply YI)); exact Kd.R_mono HO_35.out (fun _ hk => by first | exact hk.2 | exact trivial | (simp [hk]; done) | simp_all)⟩, ⟨by repeat (first | (with_reducible first | exact HB.out | apply YA | apply YB | apply YC) | exact HB.out)⟩⟩
                  rw [if_neg c25] at H; have c25b0 : decide (0 ≤ (rd t155 x37_3)) = false := decide_eq_false c25; clear c25
                  have H' := YF H
                  clear H
                  have p158 : 0 ≤ (x37_3 : Int) := of_decide_eq_true (by first | (with_reducible assumption) | assumption)
                  have q158 : x37_3 < (t155.length : Int) := of_decide_eq_true (by first | (with_reducible assumption) | assumption)
                  obtain ⟨ad158, e158, hx158_0⟩ := Kd.at_int (Kd.R_reads' HO_35.out).2.2 x37_3 p158 q158
                  cases e158
                  replace p158 := eq_true p158
                  replace q158 := eq_true q158
                  go_wp2
                  (try simp only [← hl7_3])
                  go_roundg k3
                  case measure => have := HJ2.out; have := HK2.out; have := HK3.out; omega
                  case rel => exact ⟨(x7_3), (wrap64 (x37_3 + 1)), (by first | rfl | (simp; done) | (simp [*]; done)), H', ⟨by have := HJ2.out; have := HK2.out; have := HK3.out; omega⟩, ⟨by (try simp only [hl7_2]); (try simp only [hl7_3]); (with_reducible repeat (first | apply Kd.S_alloc | apply Kd.S_drewN | apply Kd.S_drew)); exact HO_6.out⟩, ⟨by (try simp only [hl7_2]); (try simp only [hl7_3]); (with_reducible repeat (first | apply YG | apply YH | apply YI)); exact HO_7.out⟩, ⟨by (try simp only [hl7_2]); (try simp only [hl7_3]); (with_reducible repeat (first | apply YG | apply YH | apply YI)); exact HO_35.out⟩, ⟨by repeat (first | (with_reducible first | exact HB.out | apply YA | apply YB | apply YC) | exact HB.out)⟩⟩
                rw [if_neg c22] at H
                have c22b0 : decide (x37_3 < (t155.length : Int)) = false := decide_eq_false c22
                clear c22
                have H' := YF H
                clear H
                go_wp2
                (try simp only [← hl7_2, ← hl7_3])
                go_roundg k3
                case measure => have := HJ2.out; have := HK2.out; have := HK3.out; omega
                case rel => exact ⟨(x7_3), (wrap64 (x25_2 + 1)), (by first | rfl | (simp; done) | (simp [*]; done)), H', ⟨by have := HJ2.out; have := HK2.out; have := HK3.out; omega⟩, ⟨by (try simp only [hl7_2]); (try simp only [hl7_3]); (with_reducible repeat (first | apply Kd.S_alloc | apply Kd.S_drewN | apply Kd.S_drew)); exact Kd.S_mono HO_6.out (fun _ hk => by first | exact hk.1 | exact trivial | (simp [hk]; done) | simp_all)⟩, ⟨by (try simp only [hl7_2]); (try simp only [hl7_3]); (with_reducible repeat (first | apply YG | apply YH | apply YI)); exact Kd.R_mono HO_7.out (fun _ hk => trivial)⟩, ⟨by repeat (first | (with_reducible first | exact HB.out | apply YA | apply YB | apply YC) | exact HB.out)⟩⟩
          rw [if_neg c14] at H
          have c14b0 : decide (x25_2 < (t151.length : Int)) = false := decide_eq_false c14
          clear c14
          rw [hl7_2] at c14b0 -- FIX25
          simp only [Option.some.injEq, Prod.mk.injEq] at H
          obtain ⟨rfl, rfl⟩ := H
          go_wp2
          go_ret2
          exact ⟨_, by first | rfl | (simp [errW_none, errW_some] <;> rfl) | (simp [*, errW_none, errW_some] <;> rfl), by (with_reducible repeat (first | apply YG | apply YH | apply YI)); exact HO_7.out, by repeat (first | (with_reducible first | exact HB.out | apply YA | apply YB | apply YC) | exact HB.out)⟩

end Go.Proofs.Ytbejdbgcfgllhaa.P
