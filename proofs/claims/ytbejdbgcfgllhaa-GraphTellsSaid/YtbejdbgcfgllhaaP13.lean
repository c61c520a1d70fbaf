-- WRITTEN BY xprint.py, a program of this session that drives the kit's printer.
import Derived.Test.YtbejdbgcfgllhaaP0
import Derived.Test.YtbejdbgcfgllhaaP12
namespace Go.Proofs.Ytbejdbgcfgllhaa.P
open Go.RowKit Go.Proofs.YtbejdbgcfgllhaaW.PrintWords Go.Proofs.YtbejdbgcfgllhaaW.PrintLast Go.Proofs.YtbejdbgcfgllhaaW.PrintMore
open Go.Proofs.YtbejdbgcfgllhaaW.PrintWords renaming below_alloc → YA, pw_below_drewN → YB, below_drew1 → YC
open Go.Proofs.YtbejdbgcfgllhaaW.PrintWords.Aside0 renaming mk → YD
open Go.Proofs.YtbejdbgcfgllhaaW.PrintWords.Kd renaming R_alloc → YE, R_drewN → YF, R_drew → YG
attribute [local go_sem] max2_int min2_int max_two min_two max_three min_three max_four min_four   -- for this text's walks alone
set_option linter.unusedVariables false
set_option linter.unusedSimpArgs false

/-! ### thalwegref25_Steps: function 14 -/
mutual
def thalwegref25_Steps.j0 : Nat → Int → List (S36) → Int → Bool → Option (List Int × Int)
  | 0, _, _, _, _ => none
  | k + 1, x0, x1, x2, x27 => if x27 = true then (some (([] : List Int), 1)) else (if 0 ≤ x0 then (if (x0 : Int).toNat ≤ 35184372088832 then (thalwegref25_Steps.l0 k x0 x1 x2 (List.replicate (x0 : Int).toNat 0) 0) else (none)) else (none))
def thalwegref25_Steps.l0 : Nat → Int → List (S36) → Int → List Int → Int → Option (List Int × Int)
  | 0, _, _, _, _, _ => none
  | k + 1, x0, x1, x2, x8, x9 => if x9 < x0 then (if 0 ≤ x9 then (if x9 < (x8.length : Int) then (thalwegref25_Steps.l0 k x0 x1 x2 (x8.set (x9 : Int).toNat (-1)) (wrap64 (x9 + 1))) else (none)) else (none)) else (if 0 ≤ x2 then (if x2 < (x8.length : Int) then (thalwegref25_Steps.l1 k x0 x1 (x8.set (x2 : Int).toNat 0) 0) else (none)) else (none))
def thalwegref25_Steps.l1 : Nat → Int → List (S36) → List Int → Int → Option (List Int × Int)
  | 0, _, _, _, _ => none
  | k + 1, x0, x1, x8, x10 => if x10 < x0 then (thalwegref25_Steps.l2 k x0 x1 x8 x10 0) else (some (x8, 0))
def thalwegref25_Steps.l2 : Nat → Int → List (S36) → List Int → Int → Int → Option (List Int × Int)
  | 0, _, _, _, _, _ => none
  | k + 1, x0, x1, x8, x10, x11 => if x11 < x0 then (thalwegref25_Steps.l3 k x0 x1 x8 x10 x11 0) else (thalwegref25_Steps.l1 k x0 x1 x8 (wrap64 (x10 + 1)))
def thalwegref25_Steps.l3 : Nat → Int → List (S36) → List Int → Int → Int → Int → Option (List Int × Int)
  | 0, _, _, _, _, _, _ => none
  | k + 1, x0, x1, x8, x10, x11, x12 => if x12 < x0 then (if 0 ≤ x11 then (if x11 < (x8.length : Int) then (if (rd x8 x11) = x10 then (if 0 ≤ x12 then (if x12 < (x8.length : Int) then (if (rd x8 x12) < 0 then ((thalwegref25_Linked.f k x0 x1 x11 x12).bind fun t234 => (if t234 = true then (thalwegref25_Steps.l3 k x0 x1 (x8.set (x12 : Int).toNat (wrap64 (x10 + 1))) x10 x11 (wrap64 (x12 + 1))) else (thalwegref25_Steps.l3 k x0 x1 x8 x10 x11 (wrap64 (x12 + 1))))) else (thalwegref25_Steps.l3 k x0 x1 x8 x10 x11 (wrap64 (x12 + 1)))) else (none)) else (none)) else (thalwegref25_Steps.l3 k x0 x1 x8 x10 x11 (wrap64 (x12 + 1)))) else (none)) else (none)) else (thalwegref25_Steps.l2 k x0 x1 x8 x10 (wrap64 (x11 + 1)))
end
def thalwegref25_Steps.f (k : Nat) (a0 : Int) (l1 : List (S36)) (a2 : Int) : Option (List Int × Int) := if a0 < 0 then (thalwegref25_Steps.j0 k a0 l1 a2 true) else (if a0 > 64 then (thalwegref25_Steps.j0 k a0 l1 a2 true) else (if a2 < 0 then (thalwegref25_Steps.j0 k a0 l1 a2 true) else (thalwegref25_Steps.j0 k a0 l1 a2 (decide (a2 ≥ a0)))))
theorem thalwegref25_Steps.mono_l : ∀ k, (∀ y0 y1 y2 y3, LeO (thalwegref25_Steps.j0 k y0 y1 y2 y3) (thalwegref25_Steps.j0 (k + 1) y0 y1 y2 y3)) ∧ (∀ y0 y1 y2 y3 y4, LeO (thalwegref25_Steps.l0 k y0 y1 y2 y3 y4) (thalwegref25_Steps.l0 (k + 1) y0 y1 y2 y3 y4)) ∧ (∀ y0 y1 y2 y3, LeO (thalwegref25_Steps.l1 k y0 y1 y2 y3) (thalwegref25_Steps.l1 (k + 1) y0 y1 y2 y3)) ∧ (∀ y0 y1 y2 y3 y4, LeO (thalwegref25_Steps.l2 k y0 y1 y2 y3 y4) (thalwegref25_Steps.l2 (k + 1) y0 y1 y2 y3 y4)) ∧ (∀ y0 y1 y2 y3 y4 y5, LeO (thalwegref25_Steps.l3 k y0 y1 y2 y3 y4 y5) (thalwegref25_Steps.l3 (k + 1) y0 y1 y2 y3 y4 y5))
  | 0 => ⟨fun _ _ _ _ r h => by simp [thalwegref25_Steps.j0] at h, fun _ _ _ _ _ r h => by simp [thalwegref25_Steps.l0] at h, fun _ _ _ _ r h => by simp [thalwegref25_Steps.l1] at h, fun _ _ _ _ _ r h => by simp [thalwegref25_Steps.l2] at h, fun _ _ _ _ _ _ r h => by simp [thalwegref25_Steps.l3] at h⟩
  | k + 1 => by
    obtain ⟨ih0, ih1, ih2, ih3, ih4⟩ := thalwegref25_Steps.mono_l k
    refine ⟨?_, ?_, ?_, ?_, ?_⟩
    · intro y0 y1 y2 y3
      unfold thalwegref25_Steps.j0
      repeat' first
      | (with_reducible exact ih0 _ _ _ _)
      | (with_reducible exact ih1 _ _ _ _ _)
      | (with_reducible exact ih2 _ _ _ _)
      | (with_reducible exact ih3 _ _ _ _ _)
      | (with_reducible exact ih4 _ _ _ _ _ _)
      | (with_reducible exact thalwegref25_Linked.mono _ _ _ _ _)
      | (with_reducible exact LeO.refl _)
      | (with_reducible exact LeO.none _)
      | (with_reducible refine LeO.ite ?_ ?_)
      | (with_reducible refine LeO.bind ?_ (fun _ => ?_))
      | exact ih0 _ _ _ _
      | exact ih1 _ _ _ _ _
      | exact ih2 _ _ _ _
      | exact ih3 _ _ _ _ _
      | exact ih4 _ _ _ _ _ _
      | exact thalwegref25_Linked.mono _ _ _ _ _
      | exact LeO.none _
      | refine LeO.ite ?_ ?_
      | refine LeO.bind ?_ (fun _ => ?_)
    · intro y0 y1 y2 y3 y4
      unfold thalwegref25_Steps.l0
      repeat' first
      | (with_reducible exact ih0 _ _ _ _)
      | (with_reducible exact ih1 _ _ _ _ _)
      | (with_reducible exact ih2 _ _ _ _)
      | (with_reducible exact ih3 _ _ _ _ _)
      | (with_reducible exact ih4 _ _ _ _ _ _)
      | (with_reducible exact thalwegref25_Linked.mono _ _ _ _ _)
      | (with_reducible exact LeO.refl _)
      | (with_reducible exact LeO.none _)
      | (with_reducible refine LeO.ite ?_ ?_)
      | (with_reducible refine LeO.bind ?_ (fun _ => ?_))
      | exact ih0 _ _ _ _
      | exact ih1 _ _ _ _ _
      | exact ih2 _ _ _ _
      | exact ih3 _ _ _ _ _
      | exact ih4 _ _ _ _ _ _
      | exact thalwegref25_Linked.mono _ _ _ _ _
      | exact LeO.none _
      | refine LeO.ite ?_ ?_
      | refine LeO.bind ?_ (fun _ => ?_)
    · intro y0 y1 y2 y3
      unfold thalwegref25_Steps.l1
      repeat' first
      | (with_reducible exact ih0 _ _ _ _)
      | (with_reducible exact ih1 _ _ _ _ _)
      | (with_reducible exact ih2 _ _ _ _)
      | (with_reducible exact ih3 _ _ _ _ _)
      | (with_reducible exact ih4 _ _ _ _ _ _)
      | (with_reducible exact thalwegref25_Linked.mono _ _ _ _ _)
      | (with_reducible exact LeO.refl _)
      | (with_reducible exact LeO.none _)
      | (with_reducible refine LeO.ite ?_ ?_)
      | (with_reducible refine LeO.bind ?_ (fun _ => ?_))
      | exact ih0 _ _ _ _
      | exact ih1 _ _ _ _ _
      | exact ih2 _ _ _ _
      | exact ih3 _ _ _ _ _
      | exact ih4 _ _ _ _ _ _
      | exact thalwegref25_Linked.mono _ _ _ _ _
      | exact LeO.none _
      | refine LeO.ite ?_ ?_
      | refine LeO.bind ?_ (fun _ => ?_)
    · intro y0 y1 y2 y3 y4
      unfold thalwegref25_Steps.l2
      repeat' first
      | (with_reducible exact ih0 _ _ _ _)
      | (with_reducible exact ih1 _ _ _ _ _)
      | (with_reducible exact ih2 _ _ _ _)
      | (with_reducible exact ih3 _ _ _ _ _)
      | (with_reducible exact ih4 _ _ _ _ _ _)
      | (with_reducible exact thalwegref25_Linked.mono _ _ _ _ _)
      | (with_reducible exact LeO.refl _)
      | (with_reducible exact LeO.none _)
      | (with_reducible refine LeO.ite ?_ ?_)
      | (with_reducible refine LeO.bind ?_ (fun _ => ?_))
      | exact ih0 _ _ _ _
      | exact ih1 _ _ _ _ _
      | exact ih2 _ _ _ _
      | exact ih3 _ _ _ _ _
      | exact ih4 _ _ _ _ _ _
      | exact thalwegref25_Linked.mono _ _ _ _ _
      | exact LeO.none _
      | refine LeO.ite ?_ ?_
      | refine LeO.bind ?_ (fun _ => ?_)
    intro y0 y1 y2 y3 y4 y5
    unfold thalwegref25_Steps.l3
    repeat' first
    | (with_reducible exact ih0 _ _ _ _)
    | (with_reducible exact ih1 _ _ _ _ _)
    | (with_reducible exact ih2 _ _ _ _)
    | (with_reducible exact ih3 _ _ _ _ _)
    | (with_reducible exact ih4 _ _ _ _ _ _)
    | (with_reducible exact thalwegref25_Linked.mono _ _ _ _ _)
    | (with_reducible exact LeO.refl _)
    | (with_reducible exact LeO.none _)
    | (with_reducible refine LeO.ite ?_ ?_)
    | (with_reducible refine LeO.bind ?_ (fun _ => ?_))
    | exact ih0 _ _ _ _
    | exact ih1 _ _ _ _ _
    | exact ih2 _ _ _ _
    | exact ih3 _ _ _ _ _
    | exact ih4 _ _ _ _ _ _
    | exact thalwegref25_Linked.mono _ _ _ _ _
    | exact LeO.none _
    | refine LeO.ite ?_ ?_
    | refine LeO.bind ?_ (fun _ => ?_)
theorem thalwegref25_Steps.mono : ∀ a0 a1 a2 k, LeO (thalwegref25_Steps.f k a0 a1 a2) (thalwegref25_Steps.f (k + 1) a0 a1 a2) := by
  intro a0 a1 a2 k
  obtain ⟨ih0, ih1, ih2, ih3, ih4⟩ := thalwegref25_Steps.mono_l k
  unfold thalwegref25_Steps.f
  repeat' first
      | (with_reducible exact ih0 _ _ _ _)
      | (with_reducible exact ih1 _ _ _ _ _)
      | (with_reducible exact ih2 _ _ _ _)
      | (with_reducible exact ih3 _ _ _ _ _)
      | (with_reducible exact ih4 _ _ _ _ _ _)
      | (with_reducible exact thalwegref25_Linked.mono _ _ _ _ _)
      | (with_reducible exact LeO.refl _)
      | (with_reducible exact LeO.none _)
      | (with_reducible refine LeO.ite ?_ ?_)
      | (with_reducible refine LeO.bind ?_ (fun _ => ?_))
      | exact ih0 _ _ _ _
      | exact ih1 _ _ _ _ _
      | exact ih2 _ _ _ _
      | exact ih3 _ _ _ _ _
      | exact ih4 _ _ _ _ _ _
      | exact thalwegref25_Linked.mono _ _ _ _ _
      | exact LeO.none _
      | refine LeO.ite ?_ ?_
      | refine LeO.bind ?_ (fun _ => ?_)
set_option maxHeartbeats 8000000 in
set_option maxRecDepth 100000 in
theorem thalwegref25_Steps.calls (k : Nat) (a0 : Int) (A1 : Option Addr) (c1 : Nat) (l1 : List (S36)) (a2 : Int) (r1 : List Int) (r2 : Int) (w : World) (hr1 : Kd.C k36 w A1 l1.length l1) (hc1 : l1.length ≤ c1) (h : thalwegref25_Steps.f k a0 l1 a2 = some (r1, r2)) :
    Calls Try.prog 14 #[.int .i64 a0, .slice A1 l1.length c1, .int .i64 a2] w fun e w' => ∃ v0_ : Value, e = .returned (.tuple #[v0_, .int .i64 r2]) ∧ Kd.R (Kd.int .i64) 3 w' w.heap.size (fun _ => True) v0_ r1 ∧ Below w.heap.size w w' := by
  have HR1 := YD hr1; have HC1 := YD hc1; clear hr1 hc1
  have HB := YD (Below.refl w.heap.size w)
  have H : (if a0 < 0 then (thalwegref25_Steps.j0 k a0 l1 a2 true) else (if a0 > 64 then (thalwegref25_Steps.j0 k a0 l1 a2 true) else (if a2 < 0 then (thalwegref25_Steps.j0 k a0 l1 a2 true) else (thalwegref25_Steps.j0 k a0 l1 a2 (decide (a2 ≥ a0)))))) = some (r1, r2) := h
  clear h; have HC4 := YD H; clear H
  go_enter Try.func14, Try.ntmps14
  go_upto_region 1 with (fail)
  go_cut [27] (fun v27 wc => ∃ (kq : Nat) (x27_3 : Bool), v27 = .bool x27_3 ∧ Aside0 (thalwegref25_Steps.j0 kq a0 l1 a2 x27_3 = some (r1, r2)) ∧ Aside0 (kq ≤ k) ∧ Aside0 (Below w.heap.size w wc))
  case first =>
    have H := HC4.out
    clear HC4
    by_cases c5 : a0 < 0
    · rw [if_pos c5] at H
      have c5b0 : decide (a0 < 0) = true := decide_eq_true c5; clear c5
      (first | rw [c5b0] | (simp only [i64_w, i32_w]; rw [c5b0]) | rw [c5b1] | skip)
      have H' := YD H
      clear H
      go_wp2
      go_meet
      case rel => exact ⟨_, (true), (by first | rfl | (simp; done) | (simp [*]; done)), H', ⟨by first | omega | exact Nat.le_refl _⟩, ⟨by repeat (first | (with_reducible first | exact HB.out | apply YA | apply YB | apply YC) | exact HB.out)⟩⟩
    rw [if_neg c5] at H; have c5b0 : decide (a0 < 0) = false := decide_eq_false c5; clear c5
    (first | rw [c5b0] | (simp only [i64_w, i32_w]; rw [c5b0]) | rw [c5b1] | skip)
    by_cases c6 : a0 > 64
    · rw [if_pos c6] at H
      have c6b0 : decide (64 < a0) = true := decide_eq_true c6; clear c6
      have H' := YD H
      clear H
      go_wp2
      go_meet
      case rel => exact ⟨_, (true), (by first | rfl | (simp; done) | (simp [*]; done)), H', ⟨by first | omega | exact Nat.le_refl _⟩, ⟨by repeat (first | (with_reducible first | exact HB.out | apply YA | apply YB | apply YC) | exact HB.out)⟩⟩
    rw [if_neg c6] at H; have c6b0 : decide (64 < a0) = false := decide_eq_false c6; clear c6
    by_cases c7 : a2 < 0
    · rw [if_pos c7] at H
      have c7b0 : decide (a2 < 0) = true := decide_eq_true c7; clear c7
      have H' := YD H
      clear H
      go_wp2
      go_meet
      case rel => exact ⟨_, (true), (by first | rfl | (simp; done) | (simp [*]; done)), H', ⟨by first | omega | exact Nat.le_refl _⟩, ⟨by repeat (first | (with_reducible first | exact HB.out | apply YA | apply YB | apply YC) | exact HB.out)⟩⟩
    rw [if_neg c7] at H; have c7b0 : decide (a2 < 0) = false := decide_eq_false c7; clear c7
    have H' := YD H
    clear H
    go_wp2
    go_meet
    case rel => exact ⟨_, (decide (a2 ≥ a0)), (by first | rfl | (simp; done) | (simp [*]; done)), H', ⟨by first | omega | exact Nat.le_refl _⟩, ⟨by repeat (first | (with_reducible first | exact HB.out | apply YA | apply YB | apply YC) | exact HB.out)⟩⟩
  case rest =>
    clear HC4
    try clear c1
    try clear p2
    try clear c5
    try clear c5b0
    try clear c6
    try clear c6b0
    try clear c7
    try clear c7b0
    obtain ⟨kq, x27_3, rfl, HA, HJ3, HB⟩ := hcut
    cases kq with
    | zero => exact absurd HA.out (by simp [thalwegref25_Steps.j0])
    | succ kj3 =>
      have H := HA.out
      clear HA
      simp only [thalwegref25_Steps.j0] at H
      by_cases c8 : x27_3 = true
      · subst c8
        have H1 : (some (([] : List Int), 1)) = some (r1, r2) := by rw [if_pos rfl] at H; exact H
        clear H
        have H := H1
        clear H1
        simp only [Option.some.injEq, Prod.mk.injEq] at H
        obtain ⟨rfl, rfl⟩ := H
        go_wp2
        go_ret2
        exact ⟨_, by first | rfl | (simp [errW_none, errW_some] <;> rfl) | (simp [*, errW_none, errW_some] <;> rfl), by first | exact Kd.R_nil _ _ _ _ _ | exact Kd.N_nil _ _ _ _ _ | exact Kd.V_nil _ _ _ _ _ | exact Kd.Q_nil _ _ _ _ _ | exact Kd.S_nil _ _ _ _ _, by repeat (first | (with_reducible first | exact HB.out | apply YA | apply YB | apply YC) | exact HB.out)⟩
      replace c8 := Bool.eq_false_iff.mpr c8
      subst c8
      have H1 : (if 0 ≤ a0 then (if (a0 : Int).toNat ≤ 35184372088832 then (thalwegref25_Steps.l0 kj3 a0 l1 a2 (List.replicate (a0 : Int).toNat 0) 0) else (none)) else (none)) = some (r1, r2) := by rw [if_neg (show ¬ (false = true) by decide)] at H; exact H
      clear H
      have H := H1
      clear H1
      by_cases c9 : 0 ≤ a0
      rotate_left
      · rw [if_neg c9] at H
        exact absurd H (by simp)
      rw [if_pos c9] at H
      have c9b0 := eq_true c9
      have c9b1 : decide (0 ≤ a0) = true := decide_eq_true c9; clear c9
      by_cases c10 : (a0 : Int).toNat ≤ 35184372088832
      rotate_left
      · rw [if_neg c10] at H
        exact absurd H (by simp)
      rw [if_pos c10] at H
      have c10b0 := eq_true c10
      have c10b1 : decide ((a0 : Int).toNat ≤ 35184372088832) = true := decide_eq_true c10
      clear c10
      obtain ⟨y227, hy227⟩ : ∃ y_ : List Int, y_ = (List.replicate (a0 : Int).toNat 0) := ⟨_, rfl⟩
      replace H : (thalwegref25_Steps.l0 kj3 a0 l1 a2 y227 0) = some (r1, r2) := by first | (rw [hy227]; with_reducible exact H) | (have H2_ := (Option.bind_some _ _).symm.trans H; rw [hy227]; with_reducible exact H2_) | (have H2_ := (Option.bind_some _ _).symm.trans H; with_reducible exact H2_) | with_reducible exact H | (rw [hy227]; exact H) | exact H
      have Ny227 := YD hy227; clear hy227
      have H' := YD H
      clear H
      go_wp2_with (first | ((with_reducible refine gate_dst (N := 29) rfl ?_); refine Kd.R_make (Kd.int .i64) _ 3 rfl (N := 29) rfl 22 _ _ rfl a0 rfl rfl Try.underlying22 (.int .i64 0) 8 info3 rfl (by decide) (by omega) 0 (ok := fun _ => True) (okp := fun _ => True) rfl (fun _ hk => hk) trivial (of_decide_eq_true (by first | (with_reducible assumption) | assumption)) (Nat.le_trans (Nat.mul_le_mul_right _ (of_decide_eq_true (by first | (with_reducible assumption) | assumption) : a0.toNat ≤ 35184372088832)) (by omega)) (Below.refl _ _) (Nat.le_refl _) ?_; intro v228 w11 ho12 hb hg_ hnew_; clear hg_ hnew_; (first | rw [← Ny227.out] at ho12 | (simp only [Int.reduceToNat] at ho12; rw [← Ny227.out] at ho12)); have n0_ := YD (Kd.R_lower ho12 (below_size (by repeat (first | (with_reducible first | exact HB.out | apply YA | apply YB | apply YC) | exact HB.out)))); have n1_ := YD (below_step (by repeat (first | (with_reducible first | exact HB.out | apply YA | apply YB | apply YC) | exact HB.out)) hb); clear HB; have HO229 := n0_; have HB := n1_; clear n0_ n1_; clear hb ho12))
      go_loopg [9] kj3 (fun kq v9 w' => ∃ (x8_2 : List Int) (x9_2 : Int), v9 = .int .i64 x9_2 ∧ Aside0 (thalwegref25_Steps.l0 kq a0 l1 a2 x8_2 x9_2 = some (r1, r2)) ∧ Aside0 (kq ≤ kj3) ∧ Aside0 (Kd.R (Kd.int .i64) 3 w' w.heap.size (fun _ => True) v228 x8_2) ∧ Aside0 (Below w.heap.size w w'))
      case atStart => exact ⟨(y227), (0), (by first | rfl | (simp; done) | (simp [*]; done)), H', ⟨Nat.le_refl _⟩, ⟨by (with_reducible repeat (first | apply YE | apply YF | apply YG)); exact HO229.out⟩, ⟨by repeat (first | (with_reducible first | exact HB.out | apply YA | apply YB | apply YC) | exact HB.out)⟩⟩
      case round =>
        clear H'
        try clear c1
        try clear p2
        try clear c5
        try clear c5b0
        try clear c6
        try clear c6b0
        try clear c7
        try clear c7b0
        try clear c8
        try clear c9
        try clear c9b0
        try clear c9b1
        try clear c10
        try clear c10b0
        try clear c10b1
        try clear p2
        obtain ⟨x8_2, x9_2, rfl, HA, HK2, HO_8, HB⟩ := hrel
        cases gk with
        | zero => exact absurd HA.out (by simp [thalwegref25_Steps.l0])
        | succ k2 =>
          have H := HA.out
          clear HA
          simp only [thalwegref25_Steps.l0] at H
          by_cases c13 : x9_2 < a0
          · rw [if_pos c13] at H
            have c13b0 : decide (x9_2 < a0) = true := decide_eq_true c13; clear c13
            by_cases c14 : 0 ≤ x9_2
            rotate_left
            · rw [if_neg c14] at H
              exact absurd H (by simp)
            rw [if_pos c14] at H; have c14b0 : decide (0 ≤ x9_2) = true := decide_eq_true c14; clear c14
            by_cases c15 : x9_2 < (x8_2.length : Int)
            rotate_left
            · rw [if_neg c15] at H
              exact absurd H (by simp)
            rw [if_pos c15] at H
            have c15b0 : decide (x9_2 < (x8_2.length : Int)) = true := decide_eq_true c15
            clear c15
            obtain ⟨y230, hy230⟩ : ∃ y_ : List Int, y_ = (x8_2.set (x9_2 : Int).toNat (-1)) := ⟨_, rfl⟩
            replace H : (thalwegref25_Steps.l0 k2 a0 l1 a2 y230 (wrap64 (x9_2 + 1))) = some (r1, r2) := by first | (rw [hy230]; with_reducible exact H) | (have H2_ := (Option.bind_some _ _).symm.trans H; rw [hy230]; with_reducible exact H2_) | (have H2_ := (Option.bind_some _ _).symm.trans H; with_reducible exact H2_) | with_reducible exact H | (rw [hy230]; exact H) | exact H
            have Ny230 := YD hy230; clear hy230
            have H' := YD H
            clear H
            have p16 : 0 ≤ (x9_2 : Int) := of_decide_eq_true (by first | (with_reducible assumption) | assumption)
            have q16 : (x9_2 : Int) < ((x8_2.length : Int) : Int) := of_decide_eq_true (by first | (with_reducible assumption) | assumption)
            obtain ⟨go16, co16, eo16, gb16, gl16, cl16, HG16⟩ := Kd.R_form HO_8.out (by omega)
            (first | cases eo16 | (injection eo16 with ea_ en_ ec_; (first | subst ea_ | (injection ea_ with ea_; subst ea_)); subst ec_; clear en_))
            have GB16 := YD gb16; have GG16 := YD HG16; clear gb16 gl16 HG16
            obtain ⟨hx16_0, hf16_0⟩ := Kd.R_celln 0 HO_8.out (x9_2 : Int) p16 q16
            replace p16 := eq_true p16
            replace q16 := eq_true q16
            have HP17 := Kd.R_putg HO_8.out (x9_2 : Int) (-1)
            go_wp2_with (first | ((with_reducible refine gate_store (t := 3) (p := 37) rfl ?_); refine store_event (t := 3) (p := 37) (v := ?vo_w18) (w1 := (wr.setCell ⟨go16, (x9_2 : Int).toNat, none⟩ (.int .i64 (-1)))) ?hg ?ho ?hn ?hr ?_; (case ho => rfl); (case hg => rfl); (case hn => rfl); (case hr => first | (go_simp; done) | (go_simp; rfl)); intro w18 hw; have hg : wr.grownBy w18 (some go16) := (by rw [hw]; exact HP17.2); have hp_ : Kd.R (Kd.int .i64) 3 w18 w.heap.size (fun _ => True) (.slice (some ⟨go16, 0, none⟩) x8_2.length co16) y230 := (by rw [hw, Ny230.out]; exact HP17.1); clear HP17; have n0_ := YD (hp_); have n1_ := YD ((by rw [hw]; exact below_set (HB.out) GB16.out : Below w.heap.size w w18)); clear HO_8; clear HB; have HO_8 := n0_; have HB := n1_; clear n0_ n1_; clear hg hw hp_))
            go_roundg k2
            case measure => have := HJ3.out; have := HK2.out; omega
            case rel => exact ⟨(y230), (wrap64 (x9_2 + 1)), (by first | rfl | (simp; done) | (simp [*]; done)), H', ⟨by have := HJ3.out; have := HK2.out; omega⟩, ⟨by (with_reducible repeat (first | apply YE | apply YF | apply YG)); exact HO_8.out⟩, ⟨by repeat (first | (with_reducible first | exact HB.out | apply YA | apply YB | apply YC) | exact HB.out)⟩⟩
          rw [if_neg c13] at H; have c13b0 : decide (x9_2 < a0) = false := decide_eq_false c13; clear c13
          by_cases c19 : 0 ≤ a2
          rotate_left
          · rw [if_neg c19] at H
            exact absurd H (by simp)
          rw [if_pos c19] at H; have c19b0 : decide (0 ≤ a2) = true := decide_eq_true c19; clear c19
          by_cases c20 : a2 < (x8_2.length : Int)
          rotate_left
          · rw [if_neg c20] at H
            exact absurd H (by simp)
          rw [if_pos c20] at H
          have c20b0 : decide (a2 < (x8_2.length : Int)) = true := decide_eq_true c20
          clear c20
          obtain ⟨y231, hy231⟩ : ∃ y_ : List Int, y_ = (x8_2.set (a2 : Int).toNat 0) := ⟨_, rfl⟩
          replace H : (thalwegref25_Steps.l1 k2 a0 l1 y231 0) = some (r1, r2) := by first | (rw [hy231]; with_reducible exact H) | (have H2_ := (Option.bind_some _ _).symm.trans H; rw [hy231]; with_reducible exact H2_) | (have H2_ := (Option.bind_some _ _).symm.trans H; with_reducible exact H2_) | with_reducible exact H | (rw [hy231]; exact H) | exact H
          have Ny231 := YD hy231; clear hy231
          have H' := YD H
          clear H
          have p21 : 0 ≤ (a2 : Int) := of_decide_eq_true (by first | (with_reducible assumption) | assumption)
          have q21 : (a2 : Int) < ((x8_2.length : Int) : Int) := of_decide_eq_true (by first | (with_reducible assumption) | assumption)
          obtain ⟨go21, co21, eo21, gb21, gl21, cl21, HG21⟩ := Kd.R_form HO_8.out (by omega)
          (first | cases eo21 | (injection eo21 with ea_ en_ ec_; (first | subst ea_ | (injection ea_ with ea_; subst ea_)); subst ec_; clear en_))
          have GB21 := YD gb21; have GG21 := YD HG21; clear gb21 gl21 HG21
          obtain ⟨hx21_0, hf21_0⟩ := Kd.R_celln 0 HO_8.out (a2 : Int) p21 q21
          replace p21 := eq_true p21
          replace q21 := eq_true q21
          have HP22 := Kd.R_putg HO_8.out (a2 : Int) 0
          go_wp2_with (first | ((with_reducible refine gate_store (t := 3) (p := 40) rfl ?_); refine store_event (t := 3) (p := 40) (v := ?vo_w23) (w1 := (wr.setCell ⟨go21, (a2 : Int).toNat, none⟩ (.int .i64 0))) ?hg ?ho ?hn ?hr ?_; (case ho => rfl); (case hg => rfl); (case hn => rfl); (case hr => first | (go_simp; done) | (go_simp; rfl)); intro w23 hw; have hg : wr.grownBy w23 (some go21) := (by rw [hw]; exact HP22.2); have hp_ : Kd.R (Kd.int .i64) 3 w23 w.heap.size (fun _ => True) (.slice (some ⟨go21, 0, none⟩) x8_2.length co21) y231 := (by rw [hw, Ny231.out]; exact HP22.1); clear HP22; have n0_ := YD (hp_); have n1_ := YD ((by rw [hw]; exact below_set (HB.out) GB21.out : Below w.heap.size w w23)); clear HO_8; clear HB; have HO_8 := n0_; have HB := n1_; clear n0_ n1_; clear hg hw hp_))
          go_loopg [10] k2 (fun kq v10 w' => ∃ (x8_3 : List Int) (x10_3 : Int), v10 = .int .i64 x10_3 ∧ Aside0 (thalwegref25_Steps.l1 kq a0 l1 x8_3 x10_3 = some (r1, r2)) ∧ Aside0 (kq ≤ k2) ∧ Aside0 (Kd.R (Kd.int .i64) 3 w' w.heap.size (fun _ => True) (.slice (some ⟨go21, 0, none⟩) x8_2.length co21) x8_3) ∧ Aside0 (Below w.heap.size w w'))
          case atStart => exact ⟨(y231), (0), (by first | rfl | (simp; done) | (simp [*]; done)), H', ⟨Nat.le_refl _⟩, ⟨by (with_reducible repeat (first | apply YE | apply YF | apply YG)); exact HO_8.out⟩, ⟨by repeat (first | (with_reducible first | exact HB.out | apply YA | apply YB | apply YC) | exact HB.out)⟩⟩
          case round =>
            clear H'
            try clear c1
            try clear p1
            try clear q1
            try clear hx1
            try clear c2
            try clear p2
            try clear q2
            try clear hx2
            try clear c5
            try clear c5b0
            try clear c6
            try clear c6b0
            try clear p6
            try clear c7
            try clear c7b0
            try clear c8
            try clear c9
            try clear c9b0
            try clear c9b1
            try clear c10
            try clear c10b0
            try clear c10b1
            try clear c13
            try clear c13b0
            try clear c14
            try clear c14b0
            try clear c15
            try clear c15b0
            try clear p16
            try clear q16
            try clear hx16
            try clear hf16
            try clear c19
            try clear c19b0
            try clear c20
            try clear c20b0
            try clear p21
            try clear q21
            try clear hx21
            try clear hf21
            try clear hx16_0
            try clear hx21_0
            try clear p16
            try clear p2
            try clear p21
            try clear q16
            try clear q21
            obtain ⟨x8_3, x10_3, rfl, HA, HK3, HO_8, HB⟩ := hrel
            have hl8_3 := (Kd.R_reads' HO_8.out).1
            rw [hl8_3] at HO_8
            (try simp only [hl8_3])
            cases gk with
            | zero => exact absurd HA.out (by simp [thalwegref25_Steps.l1])
            | succ k3 =>
              have H := HA.out
              clear HA
              simp only [thalwegref25_Steps.l1] at H
              by_cases c24 : x10_3 < a0
              · rw [if_pos c24] at H
                have c24b0 : decide (x10_3 < a0) = true := decide_eq_true c24; clear c24
                have H' := YD H
                clear H
                go_wp2
                go_loopg [11] k3 (fun kq v11 w' => ∃ (x8_4 : List Int) (x11_4 : Int), v11 = .int .i64 x11_4 ∧ Aside0 (thalwegref25_Steps.l2 kq a0 l1 x8_4 x10_3 x11_4 = some (r1, r2)) ∧ Aside0 (kq ≤ k3) ∧ Aside0 (Kd.R (Kd.int .i64) 3 w' w.heap.size (fun _ => True) (.slice (some ⟨go21, 0, none⟩) x8_3.length co21) x8_4) ∧ Aside0 (Below w.heap.size w w'))
                case atStart => exact ⟨(x8_3), (0), (by first | rfl | (simp; done) | (simp [*]; done)), H', ⟨Nat.le_refl _⟩, ⟨by (try simp only [hl8_3]); (with_reducible repeat (first | apply YE | apply YF | apply YG)); exact HO_8.out⟩, ⟨by repeat (first | (with_reducible first | exact HB.out | apply YA | apply YB | apply YC) | exact HB.out)⟩⟩
                case round =>
                  clear H'
                  try clear c1
                  try clear p1
                  try clear q1
                  try clear hx1
                  try clear c2
                  try clear p2
                  try clear q2
                  try clear hx2
                  try clear c5
                  try clear c5b0
                  try clear c6
                  try clear c6b0
                  try clear p6
                  try clear c7
                  try clear c7b0
                  try clear c8
                  try clear c9
                  try clear c9b0
                  try clear c9b1
                  try clear c10
                  try clear c10b0
                  try clear c10b1
                  try clear c13
                  try clear c13b0
                  try clear c14
                  try clear c14b0
                  try clear c15
                  try clear c15b0
                  try clear p16
                  try clear q16
                  try clear hx16
                  try clear hf16
                  try clear c19
                  try clear c19b0
                  try clear c20
                  try clear c20b0
                  try clear p21
                  try clear q21
                  try clear hx21
                  try clear hf21
                  try clear c24
                  try clear c24b0
                  try clear hx16_0
                  try clear hx21_0
                  try clear p1
                  try clear p16
                  try clear p2
                  try clear p21
                  try clear p6
                  try clear q1
                  try clear q16
                  try clear q2
                  try clear q21
                  obtain ⟨x8_4, x11_4, rfl, HA, HK4, HO_8, HB⟩ := hrel
                  have hl8_4 := (Kd.R_reads' HO_8.out).1
                  rw [hl8_4] at HO_8
                  (try simp only [hl8_4])
                  cases gk with
                  | zero => exact absurd HA.out (by simp [thalwegref25_Steps.l2])
                  | succ k4 =>
                    have H := HA.out
                    clear HA
                    simp only [thalwegref25_Steps.l2] at H
                    by_cases c25 : x11_4 < a0
                    · rw [if_pos c25] at H
                      have c25b0 : decide (x11_4 < a0) = true := decide_eq_true c25; clear c25
                      have H' := YD H
                      clear H
                      go_wp2
                      go_loopg [12] k4 (fun kq v12 w' => ∃ (x8_5 : List Int) (x12_5 : Int), v12 = .int .i64 x12_5 ∧ Aside0 (thalwegref25_Steps.l3 kq a0 l1 x8_5 x10_3 x11_4 x12_5 = some (r1, r2)) ∧ Aside0 (kq ≤ k4) ∧ Aside0 (Kd.R (Kd.int .i64) 3 w' w.heap.size (fun _ => True) (.slice (some ⟨go21, 0, none⟩) x8_4.length co21) x8_5) ∧ Aside0 (Below w.heap.size w w'))
                      case atStart => exact ⟨(x8_4), (0), (by first | rfl | (simp; done) | (simp [*]; done)), H', ⟨Nat.le_refl _⟩, ⟨by (try simp only [hl8_3]); (try simp only [hl8_4]); (with_reducible repeat (first | apply YE | apply YF | apply YG)); exact HO_8.out⟩, ⟨by repeat (first | (with_reducible first | exact HB.out | apply YA | apply YB | apply YC) | exact HB.out)⟩⟩
                      case round =>
                        clear H'
                        try clear c1
                        try clear p1
                        try clear q1
                        try clear hx1
                        try clear c2
                        try clear p2
                        try clear q2
                        try clear hx2
                        try clear c5
                        try clear c5b0
                        try clear c6
                        try clear c6b0
                        try clear p6
                        try clear c7
                        try clear c7b0
                        try clear c8
                        try clear c9
                        try clear c9b0
                        try clear c9b1
                        try clear c10
                        try clear c10b0
                        try clear c10b1
                        try clear c13
                        try clear c13b0
                        try clear c14
                        try clear c14b0
                        try clear c15
                        try clear c15b0
                        try clear p16
                        try clear q16
                        try clear hx16
                        try clear hf16
                        try clear c19
                        try clear c19b0
                        try clear c20
                        try clear c20b0
                        try clear p21
                        try clear q21
                        try clear hx21
                        try clear hf21
                        try clear c24
                        try clear c24b0
                        try clear c25
                        try clear c25b0
                        try clear hx16_0
                        try clear hx21_0
                        try clear p1
                        try clear p16
                        try clear p2
                        try clear p21
                        try clear p6
                        try clear q1
                        try clear q16
                        try clear q2
                        try clear q21
                        obtain ⟨x8_5, x12_5, rfl, HA, HK5, HO_8, HB⟩ := hrel
                        have hl8_5 := (Kd.R_reads' HO_8.out).1
                        rw [hl8_5] at HO_8
                        (try simp only [hl8_5])
                        cases gk with
                        | zero => exact absurd HA.out (by simp [thalwegref25_Steps.l3])
                        | succ k5 =>
                          have H := HA.out
                          clear HA
                          simp only [thalwegref25_Steps.l3] at H
                          by_cases c26 : x12_5 < a0
                          · rw [if_pos c26] at H
                            have c26b0 : decide (x12_5 < a0) = true := decide_eq_true c26; clear c26
                            by_cases c27 : 0 ≤ x11_4
                            rotate_left
                            · rw [if_neg c27] at H
                              exact absurd H (by simp)
                            rw [if_pos c27] at H; have c27b0 : decide (0 ≤ x11_4) = true := decide_eq_true c27; clear c27
                            by_cases c28 : x11_4 < (x8_5.length : Int)
                            rotate_left
                            · rw [if_neg c28] at H
                              exact absurd H (by simp)
                            rw [if_pos c28] at H
                            have c28b0 : decide (x11_4 < (x8_5.length : Int)) = true := decide_eq_true c28
                            clear c28
                            by_cases c29 : (rd x8_5 x11_4) = x10_3
                            · rw [if_pos c29] at H
                              have c29b0 : ((rd x8_5 x11_4) == x10_3) = true := beq_iff_eq.mpr c29
                              have c29b1 : ((rd x8_5 x11_4) != x10_3) = false := bne_eq_false_iff_eq.mpr c29
                              clear c29
                              by_cases c30 : 0 ≤ x12_5
                              rotate_left
                              · rw [if_neg c30] at H
                                exact absurd H (by simp)
                              rw [if_pos c30] at H; have c30b0 : decide (0 ≤ x12_5) = true := decide_eq_true c30; clear c30
                              by_cases c31 : x12_5 < (x8_5.length : Int)
                              rotate_left
                              · rw [if_neg c31] at H
                                exact absurd H (by simp)
                              rw [if_pos c31] at H
                              have c31b0 : decide (x12_5 < (x8_5.length : Int)) = true := decide_eq_true c31
                              clear c31
                              by_cases c32 : (rd x8_5 x12_5) < 0
                              · rw [if_pos c32] at H
                                have c32b0 : decide ((rd x8_5 x12_5) < 0) = true := decide_eq_true c32; clear c32; replace H := Option.bind_eq_some_iff.mp H; obtain ⟨t234, A330, H⟩ := H
                                replace H : (if t234 = true then (thalwegref25_Steps.l3 k5 a0 l1 (x8_5.set (x12_5 : Int).toNat (wrap64 (x10_3 + 1))) x10_3 x11_4 (wrap64 (x12_5 + 1))) else (thalwegref25_Steps.l3 k5 a0 l1 x8_5 x10_3 x11_4 (wrap64 (x12_5 + 1)))) = some (r1, r2) := H
                                have A33 := YD A330; clear A330
                                by_cases c34 : t234 = true
                                · subst c34
                                  have H1 : (thalwegref25_Steps.l3 k5 a0 l1 (x8_5.set (x12_5 : Int).toNat (wrap64 (x10_3 + 1))) x10_3 x11_4 (wrap64 (x12_5 + 1))) = some (r1, r2) := by rw [if_pos rfl] at H; exact H
                                  clear H
                                  have H := H1
                                  clear H1
                                  obtain ⟨y235, hy235⟩ : ∃ y_ : List Int, y_ = (x8_5.set (x12_5 : Int).toNat (wrap64 (x10_3 + 1))) := ⟨_, rfl⟩
                                  replace H : (thalwegref25_Steps.l3 k5 a0 l1 y235 x10_3 x11_4 (wrap64 (x12_5 + 1))) = some (r1, r2) := by first | (rw [hy235]; with_reducible exact H) | (have H2_ := (Option.bind_some _ _).symm.trans H; rw [hy235]; with_reducible exact H2_) | (have H2_ := (Option.bind_some _ _).symm.trans H; with_reducible exact H2_) | with_reducible exact H | (rw [hy235]; exact H) | exact H
                                  have Ny235 := YD hy235; clear hy235
                                  have H' := YD H
                                  clear H
                                  have p232 : 0 ≤ (x11_4 : Int) := of_decide_eq_true (by first | (with_reducible assumption) | assumption)
                                  have q232 : x11_4 < (x8_5.length : Int) := of_decide_eq_true (by first | (with_reducible assumption) | assumption)
                                  obtain ⟨ad232, e232, hx232_0⟩ := Kd.at_int (Kd.R_reads' HO_8.out).2.2 x11_4 p232 q232
                                  obtain rfl : (⟨go21, 0, none⟩ : Addr) = ad232 := (by injection e232)
                                  (first | simp only [add_plain] at hx232_0 | simp only [add_at] at hx232_0 | simp only [Addr.add, Nat.zero_add] at hx232_0 | skip)
                                  replace p232 := eq_true p232
                                  replace q232 := eq_true q232
                                  have p233 : 0 ≤ (x12_5 : Int) := of_decide_eq_true (by first | (with_reducible assumption) | assumption)
                                  have q233 : x12_5 < (x8_5.length : Int) := of_decide_eq_true (by first | (with_reducible assumption) | assumption)
                                  obtain ⟨ad233, e233, hx233_0⟩ := Kd.at_int (Kd.R_reads' HO_8.out).2.2 x12_5 p233 q233
                                  obtain rfl : (⟨go21, 0, none⟩ : Addr) = ad233 := (by injection e233)
                                  (first | simp only [add_plain] at hx233_0 | simp only [add_at] at hx233_0 | simp only [Addr.add, Nat.zero_add] at hx233_0 | skip)
                                  replace p233 := eq_true p233
                                  replace q233 := eq_true q233
                                  go_wp2_with (first | (go_at_call 25; (with_reducible refine (thalwegref25_Linked.calls k5 a0 _ _ l1 x11_4 x12_5 true _ ?side1 ?side2 A33.out).mono ?_); (case side1 => repeat (first | exact (Kd.C_below HR1.out HB.out) | (with_reducible refine Kd.C_alloc ?_ _) | (with_reducible refine Kd.C_drewN ?_ _) | (with_reducible refine Kd.C_drew ?_))); (case side2 => exact HC1.out); rintro e w' ⟨rfl, ⟨nd, rfl⟩⟩; (try (rw [drewN_self wr]; generalize hq_ : World.drewN wr _ = wr; have n0_ : Aside0 (Kd.R (Kd.int .i64) 3 wr w.heap.size (fun _ => True) (.slice (some ⟨go21, 0, none⟩) x8_5.length co21) x8_5) := ⟨by rw [← hq_]; exact (by (with_reducible repeat (first | apply YE | apply YF | apply YG)); exact HO_8.out)⟩; have n1_ : Aside0 (Below w.heap.size w wr) := ⟨by rw [← hq_]; exact (by repeat (first | (with_reducible first | exact HB.out | apply YA | apply YB | apply YC) | exact HB.out))⟩; clear HO_8 HB hq_; have HO_8 := n0_; have HB := n1_; clear n0_ n1_)); have p35 : 0 ≤ (x12_5 : Int) := of_decide_eq_true (by first | (with_reducible assumption) | assumption); have q35 : (x12_5 : Int) < ((x8_5.length : Int) : Int) := of_decide_eq_true (by first | (with_reducible assumption) | assumption); obtain ⟨hx35_0, hf35_0⟩ := Kd.R_celln 0 HO_8.out (x12_5 : Int) p35 q35; replace p35 := eq_true p35; replace q35 := eq_true q35; obtain ⟨hy36_, hz36_⟩ := Kd.R_celln 0 HO_8.out (x12_5 : Int) (of_decide_eq_true (by first | (with_reducible assumption) | assumption)) (of_decide_eq_true (by first | (with_reducible assumption) | assumption)); have HP36 := Kd.R_putg HO_8.out (x12_5 : Int) (wrap64 (x10_3 + 1))) | ((with_reducible refine gate_store (t := 3) (p := 80) rfl ?_); refine store_event (t := 3) (p := 80) (v := ?vo_w37) (w1 := (wr.setCell ⟨go21, (x12_5 : Int).toNat, none⟩ (.int .i64 (wrap64 (x10_3 + 1))))) ?hg ?ho ?hn ?hr ?_; (case ho => rfl); (case hg => rfl); (case hn => rfl); (case hr => first | (go_simp; done) | (go_simp; rfl)); intro w37 hw; have hg : wr.grownBy w37 (some go21) := (by rw [hw]; exact HP36.2); have hp_ : Kd.R (Kd.int .i64) 3 w37 w.heap.size (fun _ => True) (.slice (some ⟨go21, 0, none⟩) x8_5.length co21) y235 := (by rw [hw, Ny235.out]; exact HP36.1); clear HP36; have n0_ := YD (hp_); have n1_ := YD ((by rw [hw]; exact below_set (HB.out) GB21.out : Below w.heap.size w w37)); clear HO_8; clear HB; have HO_8 := n0_; have HB := n1_; clear n0_ n1_; clear hg hw hp_))
                                  (try simp only [← hl8_5])
                                  go_roundg k5
                                  case measure => have := HJ3.out; have := HK2.out; have := HK3.out; have := HK4.out; have := HK5.out; omega
                                  case rel => exact ⟨(y235), (wrap64 (x12_5 + 1)), (by first | rfl | (simp; done) | (simp [*]; done)), H', ⟨by have := HJ3.out; have := HK2.out; have := HK3.out; have := HK4.out; have := HK5.out; omega⟩, ⟨by (try simp only [hl8_3]); (try simp only [hl8_4]); (try simp only [hl8_5]); (with_reducible repeat (first | apply YE | apply YF | apply YG)); exact HO_8.out⟩, ⟨by repeat (first | (with_reducible first | exact HB.out | apply YA | apply YB | apply YC) | exact HB.out)⟩⟩
                                replace c34 := Bool.eq_false_iff.mpr c34
                                subst c34
                                have H1 : (thalwegref25_Steps.l3 k5 a0 l1 x8_5 x10_3 x11_4 (wrap64 (x12_5 + 1))) = some (r1, r2) := by rw [if_neg (show ¬ (false = true) by decide)] at H; exact H
                                clear H
                                have H := H1
                                clear H1
                                have H' := YD H
                                clear H
                                have p232 : 0 ≤ (x11_4 : Int) := of_decide_eq_true (by first | (with_reducible assumption) | assumption)
                                have q232 : x11_4 < (x8_5.length : Int) := of_decide_eq_true (by first | (with_reducible assumption) | assumption)
                                obtain ⟨ad232, e232, hx232_0⟩ := Kd.at_int (Kd.R_reads' HO_8.out).2.2 x11_4 p232 q232
                                obtain rfl : (⟨go21, 0, none⟩ : Addr) = ad232 := (by injection e232)
                                (first | simp only [add_plain] at hx232_0 | simp only [add_at] at hx232_0 | simp only [Addr.add, Nat.zero_add] at hx232_0 | skip)
                                replace p232 := eq_true p232
                                replace q232 := eq_true q232
                                have p233 : 0 ≤ (x12_5 : Int) := of_decide_eq_true (by first | (with_reducible assumption) | assumption)
                                have q233 : x12_5 < (x8_5.length : Int) := of_decide_eq_true (by first | (with_reducible assumption) | assumption)
                                obtain ⟨ad233, e233, hx233_0⟩ := Kd.at_int (Kd.R_reads' HO_8.out).2.2 x12_5 p233 q233
                                obtain rfl : (⟨go21, 0, none⟩ : Addr) = ad233 := (by injection e233)
                                (first | simp only [add_plain] at hx233_0 | simp only [add_at] at hx233_0 | simp only [Addr.add, Nat.zero_add] at hx233_0 | skip)
                                replace p233 := eq_true p233
                                replace q233 := eq_true q233
                                go_wp2_with (first | (go_at_call 25; (with_reducible refine (thalwegref25_Linked.calls k5 a0 _ _ l1 x11_4 x12_5 false _ ?side1 ?side2 A33.out).mono ?_); (case side1 => repeat (first | exact (Kd.C_below HR1.out HB.out) | (with_reducible refine Kd.C_alloc ?_ _) | (with_reducible refine Kd.C_drewN ?_ _) | (with_reducible refine Kd.C_drew ?_))); (case side2 => exact HC1.out); rintro e w' ⟨rfl, ⟨nd, rfl⟩⟩))
                                (try simp only [← hl8_5])
                                go_roundg k5
                                case measure => have := HJ3.out; have := HK2.out; have := HK3.out; have := HK4.out; have := HK5.out; omega
                                case rel => exact ⟨(x8_5), (wrap64 (x12_5 + 1)), (by first | rfl | (simp; done) | (simp [*]; done)), H', ⟨by have := HJ3.out; have := HK2.out; have := HK3.out; have := HK4.out; have := HK5.out; omega⟩, ⟨by (try simp only [hl8_3]); (try simp only [hl8_4]); (try simp only [hl8_5]); (with_reducible repeat (first | apply YE | apply YF | apply YG)); exact HO_8.out⟩, ⟨by repeat (first | (with_reducible first | exact HB.out | apply YA | apply YB | apply YC) | exact HB.out)⟩⟩
                              rw [if_neg c32] at H; have c32b0 : decide ((rd x8_5 x12_5) < 0) = false := decide_eq_false c32; clear c32
                              have H' := YD H
                              clear H
                              have p232 : 0 ≤ (x11_4 : Int) := of_decide_eq_true (by first | (with_reducible assumption) | assumption)
                              have q232 : x11_4 < (x8_5.length : Int) := of_decide_eq_true (by first | (with_reducible assumption) | assumption)
                              obtain ⟨ad232, e232, hx232_0⟩ := Kd.at_int (Kd.R_reads' HO_8.out).2.2 x11_4 p232 q232
                              obtain rfl : (⟨go21, 0, none⟩ : Addr) = ad232 := (by injection e232)
                              (first | simp only [add_plain] at hx232_0 | simp only [add_at] at hx232_0 | simp only [Addr.add, Nat.zero_add] at hx232_0 | skip)
                              replace p232 := eq_true p232
                              replace q232 := eq_true q232
                              have p233 : 0 ≤ (x12_5 : Int) := of_decide_eq_true (by first | (with_reducible assumption) | assumption)
                              have q233 : x12_5 < (x8_5.length : Int) := of_decide_eq_true (by first | (with_reducible assumption) | assumption)
                              obtain ⟨ad233, e233, hx233_0⟩ := Kd.at_int (Kd.R_reads' HO_8.out).2.2 x12_5 p233 q233
                              obtain rfl : (⟨go21, 0, none⟩ : Addr) = ad233 := (by injection e233)
                              (first | simp only [add_plain] at hx233_0 | simp only [add_at] at hx233_0 | simp only [Addr.add, Nat.zero_add] at hx233_0 | skip)
                              replace p233 := eq_true p233
                              replace q233 := eq_true q233
                              go_wp2
                              (try simp only [← hl8_5])
                              go_roundg k5
                              case measure => have := HJ3.out; have := HK2.out; have := HK3.out; have := HK4.out; have := HK5.out; omega
                              case rel => exact ⟨(x8_5), (wrap64 (x12_5 + 1)), (by first | rfl | (simp; done) | (simp [*]; done)), H', ⟨by have := HJ3.out; have := HK2.out; have := HK3.out; have := HK4.out; have := HK5.out; omega⟩, ⟨by (try simp only [hl8_3]); (try simp only [hl8_4]); (try simp only [hl8_5]); (with_reducible repeat (first | apply YE | apply YF | apply YG)); exact HO_8.out⟩, ⟨by repeat (first | (with_reducible first | exact HB.out | apply YA | apply YB | apply YC) | exact HB.out)⟩⟩
                            rw [if_neg c29] at H
                            have c29b0 : ((rd x8_5 x11_4) == x10_3) = false := beq_eq_false_iff_ne.mpr c29
                            have c29b1 : ((rd x8_5 x11_4) != x10_3) = true := bne_iff_ne.mpr c29
                            have H' := YD H
                            clear H
                            have p232 : 0 ≤ (x11_4 : Int) := of_decide_eq_true (by first | (with_reducible assumption) | assumption)
                            have q232 : x11_4 < (x8_5.length : Int) := of_decide_eq_true (by first | (with_reducible assumption) | assumption)
                            obtain ⟨ad232, e232, hx232_0⟩ := Kd.at_int (Kd.R_reads' HO_8.out).2.2 x11_4 p232 q232
                            obtain rfl : (⟨go21, 0, none⟩ : Addr) = ad232 := (by injection e232)
                            (first | simp only [add_plain] at hx232_0 | simp only [add_at] at hx232_0 | simp only [Addr.add, Nat.zero_add] at hx232_0 | skip)
                            replace p232 := eq_true p232
                            replace q232 := eq_true q232
                            go_wp2
                            (try simp only [← hl8_5])
                            go_roundg k5
                            case measure => have := HJ3.out; have := HK2.out; have := HK3.out; have := HK4.out; have := HK5.out; omega
                            case rel => exact ⟨(x8_5), (wrap64 (x12_5 + 1)), (by first | rfl | (simp; done) | (simp [*]; done)), H', ⟨by have := HJ3.out; have := HK2.out; have := HK3.out; have := HK4.out; have := HK5.out; omega⟩, ⟨by (try simp only [hl8_3]); (try simp only [hl8_4]); (try simp only [hl8_5]); (with_reducible repeat (first | apply YE | apply YF | apply YG)); exact HO_8.out⟩, ⟨by repeat (first | (with_reducible first | exact HB.out | apply YA | apply YB | apply YC) | exact HB.out)⟩⟩
                          rw [if_neg c26] at H; have c26b0 : decide (x12_5 < a0) = false := decide_eq_false c26; clear c26
                          have H' := YD H
                          clear H
                          go_wp2
                          (try simp only [← hl8_4, ← hl8_5])
                          go_roundg k5
                          case measure => have := HJ3.out; have := HK2.out; have := HK3.out; have := HK4.out; have := HK5.out; omega
                          case rel => exact ⟨(x8_5), (wrap64 (x11_4 + 1)), (by first | rfl | (simp; done) | (simp [*]; done)), H', ⟨by have := HJ3.out; have := HK2.out; have := HK3.out; have := HK4.out; have := HK5.out; omega⟩, ⟨by (try simp only [hl8_3]); (try simp only [hl8_4]); (try simp only [hl8_5]); (with_reducible repeat (first | apply YE | apply YF | apply YG)); exact HO_8.out⟩, ⟨by repeat (first | (with_reducible first | exact HB.out | apply YA | apply YB | apply YC) | exact HB.out)⟩⟩
                    rw [if_neg c25] at H; have c25b0 : decide (x11_4 < a0) = false := decide_eq_false c25; clear c25
                    have H' := YD H
                    clear H
                    go_wp2
                    (try simp only [← hl8_3, ← hl8_4])
                    go_roundg k4
                    case measure => have := HJ3.out; have := HK2.out; have := HK3.out; have := HK4.out; omega
                    case rel => exact ⟨(x8_4), (wrap64 (x10_3 + 1)), (by first | rfl | (simp; done) | (simp [*]; done)), H', ⟨by have := HJ3.out; have := HK2.out; have := HK3.out; have := HK4.out; omega⟩, ⟨by (try simp only [hl8_3]); (try simp only [hl8_4]); (with_reducible repeat (first | apply YE | apply YF | apply YG)); exact HO_8.out⟩, ⟨by repeat (first | (with_reducible first | exact HB.out | apply YA | apply YB | apply YC) | exact HB.out)⟩⟩
              rw [if_neg c24] at H; have c24b0 : decide (x10_3 < a0) = false := decide_eq_false c24; clear c24
              simp only [Option.some.injEq, Prod.mk.injEq] at H
              obtain ⟨rfl, rfl⟩ := H
              go_wp2
              go_ret2
              exact ⟨_, by first | rfl | (simp [errW_none, errW_some] <;> rfl) | (simp [*, errW_none, errW_some] <;> rfl), by (with_reducible repeat (first | apply YE | apply YF | apply YG)); exact HO_8.out, by repeat (first | (with_reducible first | exact HB.out | apply YA | apply YB | apply YC) | exact HB.out)⟩

end Go.Proofs.Ytbejdbgcfgllhaa.P
