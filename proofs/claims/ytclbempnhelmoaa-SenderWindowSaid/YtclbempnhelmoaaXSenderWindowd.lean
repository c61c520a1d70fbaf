/- Walks. -/
import Derived.WalkMore
import Derived.Test.YtclbempnhelmoaaXSenderWindowa
import Derived.Test.YtclbempnhelmoaaXSenderWindowb
import Derived.Test.YtclbempnhelmoaaXSenderWindowc
set_option linter.unusedVariables false
set_option linter.unusedSimpArgs false
set_option maxHeartbeats 8000000
set_option maxRecDepth 100000
namespace Go.Proofs.Ytclbempnhelmoaa.P
open Go.RowKit YtclbempnhelmoaaW.PrintWords YtclbempnhelmoaaW.PrintLast YtclbempnhelmoaaW.PrintMore
open YtclbempnhelmoaaW.PrintWords renaming below_alloc → YA, pw_below_drewN → YB, below_drew1 → YC, below_step → YD, below_size → YE, blk_drewN → YF, blk_drew → YG, blk_alloc → YH, blk_cell → YI, blk_frozen → YJ, blk_below → YK
open YtclbempnhelmoaaW.PrintWords.Aside0 renaming mk → YL
open List renaming setIfInBounds_toArray → YM, set_cons_zero → YN, set_cons_succ → YO, map_toArray → YP, length_take → YQ, length_drop → YR
open YtclbempnhelmoaaW.PrintWords.Kd renaming R_alloc → YS, R_drewN → YT, R_drew → YU, R_below → YV
attribute [local go_sem] max2_int min2_int max_two min_two max_three min_three max_four min_four
mutual
def batch_Pack.j0 : Nat → List (S34) → Int → Int → Bool → Option ((List (S48)) × Int)
 | 0, _, _, _, _ => none
 | k + 1, x0, x1, x2, x14 => if x14 = true then (some (([] : List (S48)), 1)) else (if (x0.length : Int) > 1024 then (some (([] : List (S48)), 2)) else (batch_Pack.l0 k x0 x2 ([] : List (S48)) (wrap64 (x2 - 3)) x0 (x0.length : Int) 0 (Go.bits .and .i64 x1 65535) ([] : List (S34))))
def batch_Pack.l0 : Nat → List (S34) → Int → List (S48) → Int → List (S34) → Int → Int → Int → List (S34) → Option ((List (S48)) × Int)
 | 0, _, _, _, _, _, _, _, _, _ => none
 | k + 1, x0, x2, x8, x10, x34, x35, x36, x236000, x236001 => if x36 < x35 then (if 0 ≤ x36 then (if x36 < (x34.length : Int) then ((object_Size.f k ((rd_T34 x34 x36).f0) ((rd_T34 x34 x36).f1) ((rd_T34 x34 x36).f2.f0) ((rd_T34 x34 x36).f2.f1) ((rd_T34 x34 x36).f2.f2) ((rd_T34 x34 x36).f2.f3) ((rd_T34 x34 x36).f2.f4) ((rd_T34 x34 x36).f2.f5) ((rd_T34 x34 x36).f3.f0) ((rd_T34 x34 x36).f3.f1) ((rd_T34 x34 x36).f3.f2) ((rd_T34 x34 x36).f4)).bind fun t241 => (if t241 ≤ x10 then (if (x236001.length : Int) < 32 then (if x36 < (x0.length : Int) then (if x236001.length < 1466015503701 then (batch_Pack.l0 k x0 x2 x8 (wrap64 (x10 - t241)) x34 x35 (wrap64 (x36 + 1)) x236000 (x236001 ++ [(⟨(rd_T34 x0 x36).f0, (rd_T34 x0 x36).f1, (⟨(rd_T34 x0 x36).f2.f0, (rd_T34 x0 x36).f2.f1, (rd_T34 x0 x36).f2.f2, (rd_T34 x0 x36).f2.f3, (rd_T34 x0 x36).f2.f4, (rd_T34 x0 x36).f2.f5⟩ : S30), (⟨(rd_T34 x0 x36).f3.f0, (rd_T34 x0 x36).f3.f1, (rd_T34 x0 x36).f3.f2⟩ : S32), (rd_T34 x0 x36).f4⟩ : S34)])) else (none)) else (none)) else (if x8.length < 4398046511104 then ((serial_Next.f x236000).bind fun t249 => (batch_Pack.l0 k x0 x2 (x8 ++ [(⟨x236000, x236001⟩ : S48)]) (wrap64 ((wrap64 (x2 - 3)) - t241)) x34 x35 (wrap64 (x36 + 1)) t249 (([(⟨(rd_T34 x34 x36).f0, (rd_T34 x34 x36).f1, (⟨(rd_T34 x34 x36).f2.f0, (rd_T34 x34 x36).f2.f1, (rd_T34 x34 x36).f2.f2, (rd_T34 x34 x36).f2.f3, (rd_T34 x34 x36).f2.f4, (rd_T34 x34 x36).f2.f5⟩ : S30), (⟨(rd_T34 x34 x36).f3.f0, (rd_T34 x34 x36).f3.f1, (rd_T34 x34 x36).f3.f2⟩ : S32), (rd_T34 x34 x36).f4⟩ : S34)] : List (S34))))) else (none))) else (if x8.length < 4398046511104 then ((serial_Next.f x236000).bind fun t256 => (batch_Pack.l0 k x0 x2 (x8 ++ [(⟨x236000, x236001⟩ : S48)]) (wrap64 ((wrap64 (x2 - 3)) - t241)) x34 x35 (wrap64 (x36 + 1)) t256 (([(⟨(rd_T34 x34 x36).f0, (rd_T34 x34 x36).f1, (⟨(rd_T34 x34 x36).f2.f0, (rd_T34 x34 x36).f2.f1, (rd_T34 x34 x36).f2.f2, (rd_T34 x34 x36).f2.f3, (rd_T34 x34 x36).f2.f4, (rd_T34 x34 x36).f2.f5⟩ : S30), (⟨(rd_T34 x34 x36).f3.f0, (rd_T34 x34 x36).f3.f1, (rd_T34 x34 x36).f3.f2⟩ : S32), (rd_T34 x34 x36).f4⟩ : S34)] : List (S34))))) else (none)))) else (none)) else (none)) else (if (x236001.length : Int) > 0 then (if x8.length < 4398046511104 then (some ((x8 ++ [(⟨x236000, x236001⟩ : S48)]), 0)) else (none)) else (some (x8, 0)))
end
def batch_Pack.f (k : Nat) (l0 : List (S34)) (a1 : Int) (a2 : Int) : Option ((List (S48)) × Int) := if a2 < 40 then (batch_Pack.j0 k l0 a1 a2 true) else (if a2 > 512 then (batch_Pack.j0 k l0 a1 a2 true) else ((api_Object_50.f k l0).bind fun t234 => (batch_Pack.j0 k l0 a1 a2 t234)))
theorem batch_Pack.mono_l : ∀ k, (∀ y0 y1 y2 y3, LeO (batch_Pack.j0 k y0 y1 y2 y3) (batch_Pack.j0 (k + 1) y0 y1 y2 y3)) ∧ (∀ y0 y1 y2 y3 y4 y5 y6 y7 y8, LeO (batch_Pack.l0 k y0 y1 y2 y3 y4 y5 y6 y7 y8) (batch_Pack.l0 (k + 1) y0 y1 y2 y3 y4 y5 y6 y7 y8))
 | 0 => ⟨fun _ _ _ _ r h => by simp [batch_Pack.j0] at h, fun _ _ _ _ _ _ _ _ _ r h => by simp [batch_Pack.l0] at h⟩
 | k + 1 => by
  obtain ⟨ih0, ih1⟩ := batch_Pack.mono_l k
  refine ⟨?_, ?_⟩
  ·intro y0 y1 y2 y3
   unfold batch_Pack.j0
   repeat' first
   | (with_reducible exact ih0 _ _ _ _)
   | (with_reducible exact ih1 _ _ _ _ _ _ _ _ _)
   | (with_reducible exact api_Object_50.mono _ _)
   | (with_reducible exact object_Size.mono _ _ _ _ _ _ _ _ _ _ _ _ _)
   | (with_reducible exact LeO.refl _)
   | (with_reducible exact LeO.none _)
   | (with_reducible refine LeO.ite ?_ ?_)
   | (with_reducible refine LeO.bind ?_ (fun _ => ?_))
   | exact ih0 _ _ _ _
   | exact ih1 _ _ _ _ _ _ _ _ _
   | exact api_Object_50.mono _ _
   | exact object_Size.mono _ _ _ _ _ _ _ _ _ _ _ _ _
   | exact LeO.none _
   | refine LeO.ite ?_ ?_
   | refine LeO.bind ?_ (fun _ => ?_)
  intro y0 y1 y2 y3 y4 y5 y6 y7 y8
  unfold batch_Pack.l0
  repeat' first
  | (with_reducible exact ih0 _ _ _ _)
  | (with_reducible exact ih1 _ _ _ _ _ _ _ _ _)
  | (with_reducible exact api_Object_50.mono _ _)
  | (with_reducible exact object_Size.mono _ _ _ _ _ _ _ _ _ _ _ _ _)
  | (with_reducible exact LeO.refl _)
  | (with_reducible exact LeO.none _)
  | (with_reducible refine LeO.ite ?_ ?_)
  | (with_reducible refine LeO.bind ?_ (fun _ => ?_))
  | exact ih0 _ _ _ _
  | exact ih1 _ _ _ _ _ _ _ _ _
  | exact api_Object_50.mono _ _
  | exact object_Size.mono _ _ _ _ _ _ _ _ _ _ _ _ _
  | exact LeO.none _
  | refine LeO.ite ?_ ?_
  | refine LeO.bind ?_ (fun _ => ?_)
theorem batch_Pack.mono : ∀ a0 a1 a2 k, LeO (batch_Pack.f k a0 a1 a2) (batch_Pack.f (k + 1) a0 a1 a2) := by
 intro a0 a1 a2 k
 obtain ⟨ih0, ih1⟩ := batch_Pack.mono_l k
 unfold batch_Pack.f
 repeat' first
   | (with_reducible exact ih0 _ _ _ _)
   | (with_reducible exact ih1 _ _ _ _ _ _ _ _ _)
   | (with_reducible exact api_Object_50.mono _ _)
   | (with_reducible exact object_Size.mono _ _ _ _ _ _ _ _ _ _ _ _ _)
   | (with_reducible exact LeO.refl _)
   | (with_reducible exact LeO.none _)
   | (with_reducible refine LeO.ite ?_ ?_)
   | (with_reducible refine LeO.bind ?_ (fun _ => ?_))
   | exact ih0 _ _ _ _
   | exact ih1 _ _ _ _ _ _ _ _ _
   | exact api_Object_50.mono _ _
   | exact object_Size.mono _ _ _ _ _ _ _ _ _ _ _ _ _
   | exact LeO.none _
   | refine LeO.ite ?_ ?_
   | refine LeO.bind ?_ (fun _ => ?_)
def batch_Pack.T13 : Bool × List (List Nat × List Nat) := (true, [([], []), ([0], [0]), ([], []), ([], []), ([2, 3], [2, 3]), ([4], [4]), ([5], [5]), ([1, 6], [1, 6]), ([0, 1, 2, 3, 4, 5, 6, 7], []), ([8, 7, 7, 0, 1, 2, 3, 4, 5, 6, 7], [7, 8])])
def batch_Pack.B13 : List Nat := [0, 1, 0, 0, 12, 28, 60, 127, 255, 511]
theorem batch_Pack.tab13 : rtab .any (opsOf Try.f27 13) = batch_Pack.T13 := by kernel_rfl
theorem batch_Pack.bits13 : waitsOk batch_Pack.T13.2 batch_Pack.B13 = true := by kernel_rfl
theorem batch_Pack.calls (k : Nat) (A0 : Option Addr) (c0 : Nat) (l0 : List (S34)) (a1 : Int) (a2 : Int) (r1 : List (S48)) (r2 : Int) (w : World) (hr0 : Kd.C k34 w A0 l0.length l0) (hc0 : l0.length ≤ c0) (h : batch_Pack.f k l0 a1 a2 = some (r1, r2)) :
  Calls Try.prog 27 #[.slice A0 l0.length c0, .int .i64 a1, .int .i64 a2] w fun e w' => ∃ v0_ : Value, e = .returned (.tuple #[v0_, .int .i64 r2]) ∧ Kd.S k48 48 w' w.heap.size (fun _ => True) v0_ r1 ∧ Below w.heap.size w w' := by
 have hu48 := Try.underlying48
 have hu34 := Try.underlying34
 have HR0 := YL hr0; have HC0 := YL hc0; clear hr0 hc0
 have HB := YL (Below.refl w.heap.size w)
 have H : (if a2 < 40 then (batch_Pack.j0 k l0 a1 a2 true) else (if a2 > 512 then (batch_Pack.j0 k l0 a1 a2 true) else ((api_Object_50.f k l0).bind fun t234 => (batch_Pack.j0 k l0 a1 a2 t234)))) = some (r1, r2) := h
 clear h; have HC4 := YL H; clear H
 go_enter Try.func27, Try.ntmps27
 go_upto_region 1 with (go_step3)
 go_cut [14] (fun v14 wc => ∃ (kq : Nat) (x14_3 : Bool), v14 = .bool x14_3 ∧ Aside0 (batch_Pack.j0 kq l0 a1 a2 x14_3 = some (r1, r2)) ∧ Aside0 (kq ≤ k) ∧ Aside0 (Below w.heap.size w wc))
 case first =>
  have H := HC4.out
  clear HC4
  by_cases c5 : a2 < 40
  ·rw [if_pos c5] at H
   have c5b0 : decide (a2 < 40) = true := decide_eq_true c5; clear c5
   (first | rw [c5b0] | (simp only [i64_w, i32_w]; rw [c5b0]) | rw [c5b1] | skip)
   have H' := YL H
   clear H
   go_wp2_with (go_step3)
   go_meet
   case rel => exact ⟨_, (true), (by first | rfl | (simp; done) | (simp [*]; done)), H', ⟨by first | omega | exact Nat.le_refl _⟩, ⟨by repeat (first | (with_reducible first | exact HB.out | apply YA | apply YB | apply YC) | exact HB.out)⟩⟩
  rw [if_neg c5] at H; have c5b0 : decide (a2 < 40) = false := decide_eq_false c5; clear c5
  (first | rw [c5b0] | (simp only [i64_w, i32_w]; rw [c5b0]) | rw [c5b1] | skip)
  by_cases c6 : a2 > 512
  ·rw [if_pos c6] at H
   have c6b0 : decide (512 < a2) = true := decide_eq_true c6; clear c6
   have H' := YL H
   clear H
   go_wp2_with (go_step3)
   go_meet
   case rel => exact ⟨_, (true), (by first | rfl | (simp; done) | (simp [*]; done)), H', ⟨by first | omega | exact Nat.le_refl _⟩, ⟨by repeat (first | (with_reducible first | exact HB.out | apply YA | apply YB | apply YC) | exact HB.out)⟩⟩
  rw [if_neg c6] at H; have c6b0 : decide (512 < a2) = false := decide_eq_false c6; clear c6; replace H := Option.bind_eq_some_iff.mp H; obtain ⟨t234, A70, H⟩ := H
  replace H : (batch_Pack.j0 k l0 a1 a2 t234) = some (r1, r2) := H
  have A7 := YL A70; clear A70
  have H' := YL H
  clear H
  go_wp2_with (first | go_step3 | (go_at_call 50; (with_reducible refine (api_Object_50.calls k _ _ l0  t234 _ ?side1 ?side2 A7.out).mono ?_); (case side1 => repeat (first | exact (Kd.C_below HR0.out HB.out) | (with_reducible refine Kd.C_alloc ?_ _) | (with_reducible refine Kd.C_drewN ?_ _) | (with_reducible refine Kd.C_drew ?_))); (case side2 => exact HC0.out); rintro e w8 ⟨rfl, hb⟩; have n0_ := YL (YD (by repeat (first | (with_reducible first | exact HB.out | apply YA | apply YB | apply YC) | exact HB.out)) hb); clear HB; have HB := n0_; clear n0_; (try clear hb); (try clear hb2); (try clear hk); (try clear hi)))
  go_meet
  case rel => exact ⟨_, (t234), (by first | rfl | (simp; done) | (simp [*]; done)), H', ⟨by first | omega | exact Nat.le_refl _⟩, ⟨by repeat (first | (with_reducible first | exact HB.out | apply YA | apply YB | apply YC) | exact HB.out)⟩⟩
 case rest =>
  clear HC4
  try clear c2; try clear p2
  try clear c5; try clear c5b0
  try clear c6; try clear c6b0
  obtain ⟨kq, x14_3, rfl, HA, HJ3, HB⟩ := hcut
  cases kq with
  | zero => exact absurd HA.out (by simp [batch_Pack.j0])
  | succ kj3 =>
   have H := HA.out
   clear HA
   simp only [batch_Pack.j0] at H
   by_cases c9 : x14_3 = true
   ·subst c9
    have H1 : (some (([] : List (S48)), 1)) = some (r1, r2) := by rw [if_pos rfl] at H; exact H
    clear H
    have H := H1
    clear H1
    simp only [Option.some.injEq, Prod.mk.injEq] at H
    obtain ⟨rfl, rfl⟩ := H
    go_wp2_with (go_step3)
    (try simp only [Exit.noGoto_ret])
    go_ret2
    exact ⟨_, by first | rfl | (simp [errW_none, errW_some] <;> rfl) | (simp [*, errW_none, errW_some] <;> rfl), by first | exact Kd.S_nil _ _ _ _ _ | exact Kd.N_nil _ _ _ _ _ | exact Kd.V_nil _ _ _ _ _ | exact Kd.Q_nil _ _ _ _ _ | exact Kd.R_nil _ _ _ _ _, by repeat (first | (with_reducible first | exact HB.out | apply YA | apply YB | apply YC) | exact HB.out)⟩
   replace c9 := Bool.eq_false_iff.mpr c9
   subst c9
   have H1 : (if (l0.length : Int) > 1024 then (some (([] : List (S48)), 2)) else (batch_Pack.l0 kj3 l0 a2 ([] : List (S48)) (wrap64 (a2 - 3)) l0 (l0.length : Int) 0 (Go.bits .and .i64 a1 65535) ([] : List (S34)))) = some (r1, r2) := by rw [if_neg (show ¬ (false = true) by decide)] at H; exact H
   clear H
   have H := H1
   clear H1
   by_cases c10 : (l0.length : Int) > 1024
   ·rw [if_pos c10] at H
    have c10b0 : decide (1024 < (l0.length : Int)) = true := decide_eq_true c10
    have c10b1 : decide (1024 < l0.length) = true := decide_eq_true (by omega)
    clear c10
    simp only [Option.some.injEq, Prod.mk.injEq] at H
    obtain ⟨rfl, rfl⟩ := H
    go_wp2_with (go_step3)
    (try simp only [Exit.noGoto_ret])
    go_ret2
    exact ⟨_, by first | rfl | (simp [errW_none, errW_some] <;> rfl) | (simp [*, errW_none, errW_some] <;> rfl), by first | exact Kd.S_nil _ _ _ _ _ | exact Kd.N_nil _ _ _ _ _ | exact Kd.V_nil _ _ _ _ _ | exact Kd.Q_nil _ _ _ _ _ | exact Kd.R_nil _ _ _ _ _, by repeat (first | (with_reducible first | exact HB.out | apply YA | apply YB | apply YC) | exact HB.out)⟩
   rw [if_neg c10] at H
   have c10b0 : decide (1024 < (l0.length : Int)) = false := decide_eq_false c10
   have c10b1 : decide (1024 < l0.length) = false := decide_eq_false (by omega)
   clear c10
   have H' := YL H
   clear H
   go_wp2_with (first | go_step3 | ((with_reducible refine gate_dst (N := 9) rfl ?_); (try (refine gate_guard (by rfl) ?_; dsimp only)); refine box_event ?hg (N := 9) ?hd (cs := #[.int .i64 0, .slice none 0 0]) (t := 48) ?hr ?_; (case hd => rfl); (case hg => rfl); (case hr => first | (go_simp; done) | (go_simp; rfl)); intro gb235 hg w11 hbox hb; have n0_ := YL (YD (by repeat (first | (with_reducible first | exact HB.out | apply YA | apply YB | apply YC) | exact HB.out)) hb); have n1_ := YL (hbox); have n2_ := YL ((by rw [hg]; exact (YE (by repeat (first | (with_reducible first | exact HB.out | apply YA | apply YB | apply YC) | exact HB.out))) : w.heap.size ≤ gb235)); have n3_ := YL ((by rw [hg]; exact (YE (by repeat (first | (with_reducible first | exact HB.out | apply YA | apply YB | apply YC) | exact HB.out))) : w.heap.size ≤ gb235)); clear HB; have HB := n0_; have BK235 := n1_; have GW235 := n2_; have GE235 := n3_; clear n0_ n1_ n2_ n3_; clear hb hbox hg; have q12_0 : w11.cell? ⟨gb235, 0, none⟩ = some (.int .i64 0) := (YI BK235.out 0).trans rfl; have q12_1 : w11.cell? ⟨gb235, 1, none⟩ = some (.slice none 0 0) := (YI BK235.out 1).trans rfl; have f12_0 := YJ BK235.out 0; have f12_1 := YJ BK235.out 1))
   go_loopg [8, 10, 36] kj3 (fun kq v8 v10 v36 w' => ∃ (x8_2 : List (S48)) (x10_2 : Int) (x36_2 : Int) (x236000_2 : Int) (x236001_2 : List (S34)) (u236001 : Value), v10 = .int .i64 x10_2 ∧ v36 = .int .i64 x36_2 ∧ Aside0 (batch_Pack.l0 kq l0 a2 x8_2 x10_2 l0 (l0.length : Int) x36_2 x236000_2 x236001_2 = some (r1, r2)) ∧ Aside0 (kq ≤ kj3) ∧ Aside0 (Kd.S k48 48 w' w.heap.size (fun k_ => some k_ ≠ (u236001 : Value).ownBlock ∧ k_ ≠ gb235) v8 x8_2) ∧ Aside0 (Kd.R k34 34 w' w.heap.size (fun _ => True) u236001 x236001_2) ∧ Aside0 (w'.heap[gb235]? = some (.cells #[.int .i64 x236000_2, u236001] 48 (0, 0))) ∧ Aside0 (Below w.heap.size w w'))
   case atStart => exact ⟨(([] : List (S48))), (wrap64 (a2 - 3)), (0), (Go.bits .and .i64 a1 65535), (([] : List (S34))), (.slice none 0 0), (by first | rfl | (simp; done) | (simp [*]; done)), (by first | rfl | (simp; done) | (simp [*]; done)), H', ⟨Nat.le_refl _⟩, ⟨by first | exact Kd.S_nil _ _ _ _ _ | exact Kd.N_nil _ _ _ _ _ | exact Kd.V_nil _ _ _ _ _ | exact Kd.Q_nil _ _ _ _ _ | exact Kd.R_nil _ _ _ _ _⟩, ⟨by first | exact Kd.R_nil _ _ _ _ _ | exact Kd.N_nil _ _ _ _ _ | exact Kd.V_nil _ _ _ _ _ | exact Kd.Q_nil _ _ _ _ _ | exact Kd.S_nil _ _ _ _ _⟩, ⟨by (with_reducible repeat (first | refine YF ?_ _ | refine YG ?_ | refine YH ?_ _)); refine blk_put (cs := #[.int .i64 (Go.bits .and .i64 a1 65535), .slice none 0 0]) ?_ 1 _ rfl; (with_reducible repeat (first | refine YF ?_ _ | refine YG ?_ | refine YH ?_ _)); refine blk_put (cs := #[.int .i64 0, .slice none 0 0]) ?_ 0 _ rfl; (with_reducible repeat (first | refine YF ?_ _ | refine YG ?_ | refine YH ?_ _)); exact BK235.out⟩, ⟨by repeat (first | (with_reducible first | exact HB.out | apply YA | apply YB | apply YC | refine below_set ?_ GE235.out) | exact HB.out)⟩⟩
   case round =>
    clear H'
    try clear c1; try clear c2
    try clear p2; try clear c5
    try clear c5b0; try clear c6
    try clear c6b0; try clear p6
    try clear c9; try clear c10
    try clear c10b0; try clear c10b1
    try clear q12_0; try clear q12_1
    try clear f12_0; try clear f12_1; try clear p2
    obtain ⟨x8_2, x10_2, x36_2, x236000_2, x236001_2, u236001, rfl, rfl, HA, HK2, HO_8, HO_236001, BK235, HB⟩ := hrel
    cases gk with
    | zero => exact absurd HA.out (by simp [batch_Pack.l0])
    | succ k2 =>
     have H := HA.out
     clear HA
     simp only [batch_Pack.l0] at H
     by_cases c13 : x36_2 < (l0.length : Int)
     ·rw [if_pos c13] at H
      have c13b0 : decide (x36_2 < (l0.length : Int)) = true := decide_eq_true c13
      clear c13
      by_cases c14 : 0 ≤ x36_2
      rotate_left
      ·rw [if_neg c14] at H
       exact absurd H (by simp)
      rw [if_pos c14] at H; have c14b0 : decide (0 ≤ x36_2) = true := decide_eq_true c14; clear c14
      by_cases c15 : x36_2 < (l0.length : Int)
      rotate_left
      ·rw [if_neg c15] at H
       exact absurd H (by simp)
      rw [if_pos c15] at H
      have c15b0 : decide (x36_2 < (l0.length : Int)) = true := decide_eq_true c15
      clear c15; replace H := Option.bind_eq_some_iff.mp H; obtain ⟨t241, A160, H⟩ := H
      replace H : (if t241 ≤ x10_2 then (if (x236001_2.length : Int) < 32 then (if x36_2 < (l0.length : Int) then (if x236001_2.length < 1466015503701 then (batch_Pack.l0 k2 l0 a2 x8_2 (wrap64 (x10_2 - t241)) l0 (l0.length : Int) (wrap64 (x36_2 + 1)) x236000_2 (x236001_2 ++ [(⟨(rd_T34 l0 x36_2).f0, (rd_T34 l0 x36_2).f1, (⟨(rd_T34 l0 x36_2).f2.f0, (rd_T34 l0 x36_2).f2.f1, (rd_T34 l0 x36_2).f2.f2, (rd_T34 l0 x36_2).f2.f3, (rd_T34 l0 x36_2).f2.f4, (rd_T34 l0 x36_2).f2.f5⟩ : S30), (⟨(rd_T34 l0 x36_2).f3.f0, (rd_T34 l0 x36_2).f3.f1, (rd_T34 l0 x36_2).f3.f2⟩ : S32), (rd_T34 l0 x36_2).f4⟩ : S34)])) else (none)) else (none)) else (if x8_2.length < 4398046511104 then ((serial_Next.f x236000_2).bind fun t249 => (batch_Pack.l0 k2 l0 a2 (x8_2 ++ [(⟨x236000_2, x236001_2⟩ : S48)]) (wrap64 ((wrap64 (a2 - 3)) - t241)) l0 (l0.length : Int) (wrap64 (x36_2 + 1)) t249 (([(⟨(rd_T34 l0 x36_2).f0, (rd_T34 l0 x36_2).f1, (⟨(rd_T34 l0 x36_2).f2.f0, (rd_T34 l0 x36_2).f2.f1, (rd_T34 l0 x36_2).f2.f2, (rd_T34 l0 x36_2).f2.f3, (rd_T34 l0 x36_2).f2.f4, (rd_T34 l0 x36_2).f2.f5⟩ : S30), (⟨(rd_T34 l0 x36_2).f3.f0, (rd_T34 l0 x36_2).f3.f1, (rd_T34 l0 x36_2).f3.f2⟩ : S32), (rd_T34 l0 x36_2).f4⟩ : S34)] : List (S34))))) else (none))) else (if x8_2.length < 4398046511104 then ((serial_Next.f x236000_2).bind fun t256 => (batch_Pack.l0 k2 l0 a2 (x8_2 ++ [(⟨x236000_2, x236001_2⟩ : S48)]) (wrap64 ((wrap64 (a2 - 3)) - t241)) l0 (l0.length : Int) (wrap64 (x36_2 + 1)) t256 (([(⟨(rd_T34 l0 x36_2).f0, (rd_T34 l0 x36_2).f1, (⟨(rd_T34 l0 x36_2).f2.f0, (rd_T34 l0 x36_2).f2.f1, (rd_T34 l0 x36_2).f2.f2, (rd_T34 l0 x36_2).f2.f3, (rd_T34 l0 x36_2).f2.f4, (rd_T34 l0 x36_2).f2.f5⟩ : S30), (⟨(rd_T34 l0 x36_2).f3.f0, (rd_T34 l0 x36_2).f3.f1, (rd_T34 l0 x36_2).f3.f2⟩ : S32), (rd_T34 l0 x36_2).f4⟩ : S34)] : List (S34))))) else (none))) = some (r1, r2) := H
      have A16 := YL A160; clear A160
      by_cases c17 : t241 ≤ x10_2
      ·rw [if_pos c17] at H
       have c17b0 : decide (t241 ≤ x10_2) = true := decide_eq_true c17; clear c17
       by_cases c18 : (x236001_2.length : Int) < 32
       ·rw [if_pos c18] at H
        have c18b0 : decide ((x236001_2.length : Int) < 32) = true := decide_eq_true c18
        have c18b1 : decide (x236001_2.length < 32) = true := decide_eq_true (by omega)
        clear c18
        by_cases c19 : x36_2 < (l0.length : Int)
        rotate_left
        ·rw [if_neg c19] at H
         exact absurd H (by simp)
        rw [if_pos c19] at H
        have c19b0 : decide (x36_2 < (l0.length : Int)) = true := decide_eq_true c19
        clear c19
        by_cases c20 : x236001_2.length < 1466015503701
        rotate_left
        ·rw [if_neg c20] at H
         exact absurd H (by simp)
        rw [if_pos c20] at H; have LMc20 := YL c20; clear c20
        obtain ⟨y243, hy243⟩ : ∃ y_ : List (S34), y_ = (x236001_2 ++ [(⟨(rd_T34 l0 x36_2).f0, (rd_T34 l0 x36_2).f1, (⟨(rd_T34 l0 x36_2).f2.f0, (rd_T34 l0 x36_2).f2.f1, (rd_T34 l0 x36_2).f2.f2, (rd_T34 l0 x36_2).f2.f3, (rd_T34 l0 x36_2).f2.f4, (rd_T34 l0 x36_2).f2.f5⟩ : S30), (⟨(rd_T34 l0 x36_2).f3.f0, (rd_T34 l0 x36_2).f3.f1, (rd_T34 l0 x36_2).f3.f2⟩ : S32), (rd_T34 l0 x36_2).f4⟩ : S34)]) := ⟨_, rfl⟩
        replace H : (batch_Pack.l0 k2 l0 a2 x8_2 (wrap64 (x10_2 - t241)) l0 (l0.length : Int) (wrap64 (x36_2 + 1)) x236000_2 y243) = some (r1, r2) := by first | (rw [hy243]; with_reducible exact H) | (have H2_ := (Option.bind_some _ _).symm.trans H; rw [hy243]; with_reducible exact H2_) | (have H2_ := (Option.bind_some _ _).symm.trans H; with_reducible exact H2_) | with_reducible exact H | (rw [hy243]; exact H) | exact H
        have Ny243 := YL hy243; clear hy243
        have H' := YL H
        clear H
        have p239 : 0 ≤ (x36_2 : Int) := of_decide_eq_true (by first | (with_reducible assumption) | assumption)
        have q239 : x36_2 < (l0.length : Int) := of_decide_eq_true (by first | (with_reducible assumption) | assumption)
        obtain ⟨ad239, e239, hx239_0, hx239_1, hx239_2, hx239_3, hx239_4, hx239_5, hx239_6, hx239_7, hx239_8, hx239_9, hx239_10, hx239_11⟩ := at_T34 HR0.out x36_2 p239 q239
        cases e239
        replace hx239_0 := (HB.out.cell (World.block_lt_of_cell? w _ hx239_0)).trans hx239_0
        replace hx239_1 := (HB.out.cell (World.block_lt_of_cell? w _ hx239_1)).trans hx239_1
        replace hx239_2 := (HB.out.cell (World.block_lt_of_cell? w _ hx239_2)).trans hx239_2
        replace hx239_3 := (HB.out.cell (World.block_lt_of_cell? w _ hx239_3)).trans hx239_3
        replace hx239_4 := (HB.out.cell (World.block_lt_of_cell? w _ hx239_4)).trans hx239_4
        replace hx239_5 := (HB.out.cell (World.block_lt_of_cell? w _ hx239_5)).trans hx239_5
        replace hx239_6 := (HB.out.cell (World.block_lt_of_cell? w _ hx239_6)).trans hx239_6
        replace hx239_7 := (HB.out.cell (World.block_lt_of_cell? w _ hx239_7)).trans hx239_7
        replace hx239_8 := (HB.out.cell (World.block_lt_of_cell? w _ hx239_8)).trans hx239_8
        replace hx239_9 := (HB.out.cell (World.block_lt_of_cell? w _ hx239_9)).trans hx239_9
        replace hx239_10 := (HB.out.cell (World.block_lt_of_cell? w _ hx239_10)).trans hx239_10
        replace hx239_11 := (HB.out.cell (World.block_lt_of_cell? w _ hx239_11)).trans hx239_11
        replace p239 := eq_true p239
        replace q239 := eq_true q239
        try go_wp2_with (first | go_step3 | ((with_reducible refine gate_dst (N := 12) rfl ?_); (try (refine gate_guard (by rfl) ?_; dsimp only)); refine box_event ?hg (N := 12) ?hd (cs := #[.int .i64 0, .int .i64 0, .bool false, .int .i64 0, .int .i64 0, .int .i64 0, .int .i64 0, .int .i64 0, .int .i64 0, .int .i64 0, .int .i64 0, .int .i64 0]) (t := 34) ?hr ?_; (case hd => rfl); (case hg => rfl); (case hr => first | (go_simp; done) | (go_simp; rfl)); intro gb240 hg w21 hbox hb; have n0_ := YL (Kd.S_below (Kd.S_elderB (by (with_reducible repeat (first | apply Kd.S_alloc | apply Kd.S_drewN | apply Kd.S_drew)); exact HO_8.out) gb240 (Nat.le_of_eq hg.symm)) hb); have n1_ := YL (YV (Kd.R_elderB (by (with_reducible repeat (first | apply YS | apply YT | apply YU)); exact HO_236001.out) gb240 (Nat.le_of_eq hg.symm)) hb); have n2_ := YL (YK (g := gb235) (o := .cells #[.int .i64 x236000_2, u236001] 48 (0, 0)) (by (with_reducible repeat (first | refine YF ?_ _ | refine YG ?_ | refine YH ?_ _)); exact BK235.out) hb); have n3_ := YL (YD (by repeat (first | (with_reducible first | exact HB.out | apply YA | apply YB | apply YC | refine below_set ?_ GE235.out) | exact HB.out)) hb); have n4_ := YL (hbox); have n5_ := YL ((by rw [hg]; exact (YE (by repeat (first | (with_reducible first | exact HB.out | apply YA | apply YB | apply YC | refine below_set ?_ GE235.out) | exact HB.out))) : w.heap.size ≤ gb240)); have n6_ := YL ((by rw [hg]; exact (YE (by repeat (first | (with_reducible first | exact HB.out | apply YA | apply YB | apply YC | refine below_set ?_ GE235.out) | exact HB.out))) : w.heap.size ≤ gb240)); have n7_ := YL ((by rw [hg]; exact Nat.ne_of_lt (blk_lt (g := gb235) (o := .cells #[.int .i64 x236000_2, u236001] 48 (0, 0)) (by (with_reducible repeat (first | refine YF ?_ _ | refine YG ?_ | refine YH ?_ _)); exact BK235.out)) : gb235 ≠ gb240)); have n8_ := YL ((by rw [hg]; exact Nat.ne_of_gt (blk_lt (g := gb235) (o := .cells #[.int .i64 x236000_2, u236001] 48 (0, 0)) (by (with_reducible repeat (first | refine YF ?_ _ | refine YG ?_ | refine YH ?_ _)); exact BK235.out)) : gb240 ≠ gb235)); clear HO_8; clear HO_236001; clear BK235; clear HB; have HO_8 := n0_; have HO_236001 := n1_; have BK235 := n2_; have HB := n3_; have BK240 := n4_; have GW240 := n5_; have GE240 := n6_; have NB235_240 := n7_; have NB240_235 := n8_; clear n0_ n1_ n2_ n3_ n4_ n5_ n6_ n7_ n8_; clear hb hbox hg; have hnb22 := NB240_235.out; have hnc22 := NB235_240.out; have q23_0 : w21.cell? ⟨gb240, 0, none⟩ = some (.int .i64 0) := (YI BK240.out 0).trans rfl; have q23_1 : w21.cell? ⟨gb240, 1, none⟩ = some (.int .i64 0) := (YI BK240.out 1).trans rfl; have q23_2 : w21.cell? ⟨gb240, 2, none⟩ = some (.bool false) := (YI BK240.out 2).trans rfl; have q23_3 : w21.cell? ⟨gb240, 3, none⟩ = some (.int .i64 0) := (YI BK240.out 3).trans rfl; have q23_4 : w21.cell? ⟨gb240, 4, none⟩ = some (.int .i64 0) := (YI BK240.out 4).trans rfl; have q23_5 : w21.cell? ⟨gb240, 5, none⟩ = some (.int .i64 0) := (YI BK240.out 5).trans rfl; have q23_6 : w21.cell? ⟨gb240, 6, none⟩ = some (.int .i64 0) := (YI BK240.out 6).trans rfl; have q23_7 : w21.cell? ⟨gb240, 7, none⟩ = some (.int .i64 0) := (YI BK240.out 7).trans rfl; have q23_8 : w21.cell? ⟨gb240, 8, none⟩ = some (.int .i64 0) := (YI BK240.out 8).trans rfl; have q23_9 : w21.cell? ⟨gb240, 9, none⟩ = some (.int .i64 0) := (YI BK240.out 9).trans rfl; have q23_10 : w21.cell? ⟨gb240, 10, none⟩ = some (.int .i64 0) := (YI BK240.out 10).trans rfl; have q23_11 : w21.cell? ⟨gb240, 11, none⟩ = some (.int .i64 0) := (YI BK240.out 11).trans rfl; have f23_0 := YJ BK240.out 0; have f23_1 := YJ BK240.out 1; have f23_2 := YJ BK240.out 2; have f23_3 := YJ BK240.out 3; have f23_4 := YJ BK240.out 4; have f23_5 := YJ BK240.out 5; have f23_6 := YJ BK240.out 6; have f23_7 := YJ BK240.out 7; have f23_8 := YJ BK240.out 8; have f23_9 := YJ BK240.out 9; have f23_10 := YJ BK240.out 10; have f23_11 := YJ BK240.out 11) | ((with_reducible refine gate_callee (f := 52) rfl ?_); refine goesL_ (some 42) rfl rfl Try.func52 (by kernel_rfl) rfl #[.agg #[.int .i64 ((rd_T34 l0 x36_2).f0), .int .i64 ((rd_T34 l0 x36_2).f1), .bool ((rd_T34 l0 x36_2).f2.f0), .int .i64 ((rd_T34 l0 x36_2).f2.f1), .int .i64 ((rd_T34 l0 x36_2).f2.f2), .int .i64 ((rd_T34 l0 x36_2).f2.f3), .int .i64 ((rd_T34 l0 x36_2).f2.f4), .int .i64 ((rd_T34 l0 x36_2).f2.f5), .int .i64 ((rd_T34 l0 x36_2).f3.f0), .int .i64 ((rd_T34 l0 x36_2).f3.f1), .int .i64 ((rd_T34 l0 x36_2).f3.f2), .int .i64 ((rd_T34 l0 x36_2).f4)]] rfl (by (try simp only [YP, List.map_cons, List.map_nil]); first | done | rfl | (simp only [YR, YQ]; rfl)) ?_; (with_reducible refine (object_Size.calls k2 ((rd_T34 l0 x36_2).f0) ((rd_T34 l0 x36_2).f1) ((rd_T34 l0 x36_2).f2.f0) ((rd_T34 l0 x36_2).f2.f1) ((rd_T34 l0 x36_2).f2.f2) ((rd_T34 l0 x36_2).f2.f3) ((rd_T34 l0 x36_2).f2.f4) ((rd_T34 l0 x36_2).f2.f5) ((rd_T34 l0 x36_2).f3.f0) ((rd_T34 l0 x36_2).f3.f1) ((rd_T34 l0 x36_2).f3.f2) ((rd_T34 l0 x36_2).f4) t241 _ A16.out).mono ?_); rintro e w24 ⟨rfl, hb⟩; refine ⟨_, rfl, ?_⟩; have n0_ := YL (Kd.S_below (by (with_reducible repeat (first | apply Kd.S_alloc | apply Kd.S_drewN | apply Kd.S_drew)); exact (Kd.S_mono (Kd.S_far (p := ⟨gb240, 11, none⟩) (Kd.S_far (p := ⟨gb240, 10, none⟩) (Kd.S_far (p := ⟨gb240, 9, none⟩) (Kd.S_far (p := ⟨gb240, 8, none⟩) (Kd.S_far (p := ⟨gb240, 7, none⟩) (Kd.S_far (p := ⟨gb240, 6, none⟩) (Kd.S_far (p := ⟨gb240, 5, none⟩) (Kd.S_far (p := ⟨gb240, 4, none⟩) (Kd.S_far (p := ⟨gb240, 3, none⟩) (Kd.S_far (p := ⟨gb240, 2, none⟩) (Kd.S_far (p := ⟨gb240, 1, none⟩) (Kd.S_far (p := ⟨gb240, 0, none⟩) (Kd.S_mono HO_8.out (fun k_ hk => (⟨hk, hk.2⟩ : _ ∧ k_ ≠ gb240))) (fun _ hk => hk.2) (.int .i64 ((rd_T34 l0 x36_2).f0))) (fun _ hk => hk.2) (.int .i64 ((rd_T34 l0 x36_2).f1))) (fun _ hk => hk.2) (.bool ((rd_T34 l0 x36_2).f2.f0))) (fun _ hk => hk.2) (.int .i64 ((rd_T34 l0 x36_2).f2.f1))) (fun _ hk => hk.2) (.int .i64 ((rd_T34 l0 x36_2).f2.f2))) (fun _ hk => hk.2) (.int .i64 ((rd_T34 l0 x36_2).f2.f3))) (fun _ hk => hk.2) (.int .i64 ((rd_T34 l0 x36_2).f2.f4))) (fun _ hk => hk.2) (.int .i64 ((rd_T34 l0 x36_2).f2.f5))) (fun _ hk => hk.2) (.int .i64 ((rd_T34 l0 x36_2).f3.f0))) (fun _ hk => hk.2) (.int .i64 ((rd_T34 l0 x36_2).f3.f1))) (fun _ hk => hk.2) (.int .i64 ((rd_T34 l0 x36_2).f3.f2))) (fun _ hk => hk.2) (.int .i64 ((rd_T34 l0 x36_2).f4))) (fun _ h_ => h_.1))) hb); have n1_ := YL (YV (by (with_reducible repeat (first | apply YS | apply YT | apply YU)); exact (Kd.R_mono (Kd.R_far (p := ⟨gb240, 11, none⟩) (Kd.R_far (p := ⟨gb240, 10, none⟩) (Kd.R_far (p := ⟨gb240, 9, none⟩) (Kd.R_far (p := ⟨gb240, 8, none⟩) (Kd.R_far (p := ⟨gb240, 7, none⟩) (Kd.R_far (p := ⟨gb240, 6, none⟩) (Kd.R_far (p := ⟨gb240, 5, none⟩) (Kd.R_far (p := ⟨gb240, 4, none⟩) (Kd.R_far (p := ⟨gb240, 3, none⟩) (Kd.R_far (p := ⟨gb240, 2, none⟩) (Kd.R_far (p := ⟨gb240, 1, none⟩) (Kd.R_far (p := ⟨gb240, 0, none⟩) (Kd.R_mono HO_236001.out (fun k_ hk => (⟨hk, hk.2⟩ : _ ∧ k_ ≠ gb240))) (fun _ hk => hk.2) (.int .i64 ((rd_T34 l0 x36_2).f0))) (fun _ hk => hk.2) (.int .i64 ((rd_T34 l0 x36_2).f1))) (fun _ hk => hk.2) (.bool ((rd_T34 l0 x36_2).f2.f0))) (fun _ hk => hk.2) (.int .i64 ((rd_T34 l0 x36_2).f2.f1))) (fun _ hk => hk.2) (.int .i64 ((rd_T34 l0 x36_2).f2.f2))) (fun _ hk => hk.2) (.int .i64 ((rd_T34 l0 x36_2).f2.f3))) (fun _ hk => hk.2) (.int .i64 ((rd_T34 l0 x36_2).f2.f4))) (fun _ hk => hk.2) (.int .i64 ((rd_T34 l0 x36_2).f2.f5))) (fun _ hk => hk.2) (.int .i64 ((rd_T34 l0 x36_2).f3.f0))) (fun _ hk => hk.2) (.int .i64 ((rd_T34 l0 x36_2).f3.f1))) (fun _ hk => hk.2) (.int .i64 ((rd_T34 l0 x36_2).f3.f2))) (fun _ hk => hk.2) (.int .i64 ((rd_T34 l0 x36_2).f4))) (fun _ h_ => h_.1))) hb); have n2_ := YL (YK (g := gb235) (o := .cells #[.int .i64 x236000_2, u236001] 48 (0, 0)) (by (with_reducible repeat (first | refine YF ?_ _ | refine YG ?_ | refine YH ?_ _)); refine blk_far ?_ NB235_240.out _; (with_reducible repeat (first | refine YF ?_ _ | refine YG ?_ | refine YH ?_ _)); refine blk_far ?_ NB235_240.out _; (with_reducible repeat (first | refine YF ?_ _ | refine YG ?_ | refine YH ?_ _)); refine blk_far ?_ NB235_240.out _; (with_reducible repeat (first | refine YF ?_ _ | refine YG ?_ | refine YH ?_ _)); refine blk_far ?_ NB235_240.out _; (with_reducible repeat (first | refine YF ?_ _ | refine YG ?_ | refine YH ?_ _)); refine blk_far ?_ NB235_240.out _; (with_reducible repeat (first | refine YF ?_ _ | refine YG ?_ | refine YH ?_ _)); refine blk_far ?_ NB235_240.out _; (with_reducible repeat (first | refine YF ?_ _ | refine YG ?_ | refine YH ?_ _)); refine blk_far ?_ NB235_240.out _; (with_reducible repeat (first | refine YF ?_ _ | refine YG ?_ | refine YH ?_ _)); refine blk_far ?_ NB235_240.out _; (with_reducible repeat (first | refine YF ?_ _ | refine YG ?_ | refine YH ?_ _)); refine blk_far ?_ NB235_240.out _; (with_reducible repeat (first | refine YF ?_ _ | refine YG ?_ | refine YH ?_ _)); refine blk_far ?_ NB235_240.out _; (with_reducible repeat (first | refine YF ?_ _ | refine YG ?_ | refine YH ?_ _)); refine blk_far ?_ NB235_240.out _; (with_reducible repeat (first | refine YF ?_ _ | refine YG ?_ | refine YH ?_ _)); refine blk_far ?_ NB235_240.out _; (with_reducible repeat (first | refine YF ?_ _ | refine YG ?_ | refine YH ?_ _)); exact BK235.out) hb); have n3_ := YL (YK (g := gb240) (o := .cells #[.int .i64 ((rd_T34 l0 x36_2).f0), .int .i64 ((rd_T34 l0 x36_2).f1), .bool ((rd_T34 l0 x36_2).f2.f0), .int .i64 ((rd_T34 l0 x36_2).f2.f1), .int .i64 ((rd_T34 l0 x36_2).f2.f2), .int .i64 ((rd_T34 l0 x36_2).f2.f3), .int .i64 ((rd_T34 l0 x36_2).f2.f4), .int .i64 ((rd_T34 l0 x36_2).f2.f5), .int .i64 ((rd_T34 l0 x36_2).f3.f0), .int .i64 ((rd_T34 l0 x36_2).f3.f1), .int .i64 ((rd_T34 l0 x36_2).f3.f2), .int .i64 ((rd_T34 l0 x36_2).f4)] 34 (0, 0)) (by (with_reducible repeat (first | refine YF ?_ _ | refine YG ?_ | refine YH ?_ _)); refine blk_put (cs := #[.int .i64 ((rd_T34 l0 x36_2).f0), .int .i64 ((rd_T34 l0 x36_2).f1), .bool ((rd_T34 l0 x36_2).f2.f0), .int .i64 ((rd_T34 l0 x36_2).f2.f1), .int .i64 ((rd_T34 l0 x36_2).f2.f2), .int .i64 ((rd_T34 l0 x36_2).f2.f3), .int .i64 ((rd_T34 l0 x36_2).f2.f4), .int .i64 ((rd_T34 l0 x36_2).f2.f5), .int .i64 ((rd_T34 l0 x36_2).f3.f0), .int .i64 ((rd_T34 l0 x36_2).f3.f1), .int .i64 ((rd_T34 l0 x36_2).f3.f2), .int .i64 0]) ?_ 11 _ rfl; (with_reducible repeat (first | refine YF ?_ _ | refine YG ?_ | refine YH ?_ _)); refine blk_put (cs := #[.int .i64 ((rd_T34 l0 x36_2).f0), .int .i64 ((rd_T34 l0 x36_2).f1), .bool ((rd_T34 l0 x36_2).f2.f0), .int .i64 ((rd_T34 l0 x36_2).f2.f1), .int .i64 ((rd_T34 l0 x36_2).f2.f2), .int .i64 ((rd_T34 l0 x36_2).f2.f3), .int .i64 ((rd_T34 l0 x36_2).f2.f4), .int .i64 ((rd_T34 l0 x36_2).f2.f5), .int .i64 ((rd_T34 l0 x36_2).f3.f0), .int .i64 ((rd_T34 l0 x36_2).f3.f1), .int .i64 0, .int .i64 0]) ?_ 10 _ rfl; (with_reducible repeat (first | refine YF ?_ _ | refine YG ?_ | refine YH ?_ _)); refine blk_put (cs := #[.int .i64 ((rd_T34 l0 x36_2).f0), .int .i64 ((rd_T34 l0 x36_2).f1), .bool ((rd_T34 l0 x36_2).f2.f0), .int .i64 ((rd_T34 l0 x36_2).f2.f1), .int .i64 ((rd_T34 l0 x36_2).f2.f2), .int .i64 ((rd_T34 l0 x36_2).f2.f3), .int .i64 ((rd_T34 l0 x36_2).f2.f4), .int .i64 ((rd_T34 l0 x36_2).f2.f5), .int .i64 ((rd_T34 l0 x36_2).f3.f0), .int .i64 0, .int .i64 0, .int .i64 0]) ?_ 9 _ rfl; (with_reducible repeat (first | refine YF ?_ _ | refine YG ?_ | refine YH ?_ _)); refine blk_put (cs := #[.int .i64 ((rd_T34 l0 x36_2).f0), .int .i64 ((rd_T34 l0 x36_2).f1), .bool ((rd_T34 l0 x36_2).f2.f0), .int .i64 ((rd_T34 l0 x36_2).f2.f1), .int .i64 ((rd_T34 l0 x36_2).f2.f2), .int .i64 ((rd_T34 l0 x36_2).f2.f3), .int .i64 ((rd_T34 l0 x36_2).f2.f4), .int .i64 ((rd_T34 l0 x36_2).f2.f5), .int .i64 0, .int .i64 0, .int .i64 0, .int .i64 0]) ?_ 8 _ rfl; (with_reducible repeat (first | refine YF ?_ _ | refine YG ?_ | refine YH ?_ _)); refine blk_put (cs := #[.int .i64 ((rd_T34 l0 x36_2).f0), .int .i64 ((rd_T34 l0 x36_2).f1), .bool ((rd_T34 l0 x36_2).f2.f0), .int .i64 ((rd_T34 l0 x36_2).f2.f1), .int .i64 ((rd_T34 l0 x36_2).f2.f2), .int .i64 ((rd_T34 l0 x36_2).f2.f3), .int .i64 ((rd_T34 l0 x36_2).f2.f4), .int .i64 0, .int .i64 0, .int .i64 0, .int .i64 0, .int .i64 0]) ?_ 7 _ rfl; (with_reducible repeat (first | refine YF ?_ _ | refine YG ?_ | refine YH ?_ _)); refine blk_put (cs := #[.int .i64 ((rd_T34 l0 x36_2).f0), .int .i64 ((rd_T34 l0 x36_2).f1), .bool ((rd_T34 l0 x36_2).f2.f0), .int .i64 ((rd_T34 l0 x36_2).f2.f1), .int .i64 ((rd_T34 l0 x36_2).f2.f2), .int .i64 ((rd_T34 l0 x36_2).f2.f3), .int .i64 0, .int .i64 0, .int .i64 0, .int .i64 0, .int .i64 0, .int .i64 0]) ?_ 6 _ rfl; (with_reducible repeat (first | refine YF ?_ _ | refine YG ?_ | refine YH ?_ _)); refine blk_put (cs := #[.int .i64 ((rd_T34 l0 x36_2).f0), .int .i64 ((rd_T34 l0 x36_2).f1), .bool ((rd_T34 l0 x36_2).f2.f0), .int .i64 ((rd_T34 l0 x36_2).f2.f1), .int .i64 ((rd_T34 l0 x36_2).f2.f2), .int .i64 0, .int .i64 0, .int .i64 0, .int .i64 0, .int .i64 0, .int .i64 0, .int .i64 0]) ?_ 5 _ rfl; (with_reducible repeat (first | refine YF ?_ _ | refine YG ?_ | refine YH ?_ _)); refine blk_put (cs := #[.int .i64 ((rd_T34 l0 x36_2).f0), .int .i64 ((rd_T34 l0 x36_2).f1), .bool ((rd_T34 l0 x36_2).f2.f0), .int .i64 ((rd_T34 l0 x36_2).f2.f1), .int .i64 0, .int .i64 0, .int .i64 0, .int .i64 0, .int .i64 0, .int .i64 0, .int .i64 0, .int .i64 0]) ?_ 4 _ rfl; (with_reducible repeat (first | refine YF ?_ _ | refine YG ?_ | refine YH ?_ _)); refine blk_put (cs := #[.int .i64 ((rd_T34 l0 x36_2).f0), .int .i64 ((rd_T34 l0 x36_2).f1), .bool ((rd_T34 l0 x36_2).f2.f0), .int .i64 0, .int .i64 0, .int .i64 0, .int .i64 0, .int .i64 0, .int .i64 0, .int .i64 0, .int .i64 0, .int .i64 0]) ?_ 3 _ rfl; (with_reducible repeat (first | refine YF ?_ _ | refine YG ?_ | refine YH ?_ _)); refine blk_put (cs := #[.int .i64 ((rd_T34 l0 x36_2).f0), .int .i64 ((rd_T34 l0 x36_2).f1), .bool false, .int .i64 0, .int .i64 0, .int .i64 0, .int .i64 0, .int .i64 0, .int .i64 0, .int .i64 0, .int .i64 0, .int .i64 0]) ?_ 2 _ rfl; (with_reducible repeat (first | refine YF ?_ _ | refine YG ?_ | refine YH ?_ _)); refine blk_put (cs := #[.int .i64 ((rd_T34 l0 x36_2).f0), .int .i64 0, .bool false, .int .i64 0, .int .i64 0, .int .i64 0, .int .i64 0, .int .i64 0, .int .i64 0, .int .i64 0, .int .i64 0, .int .i64 0]) ?_ 1 _ rfl; (with_reducible repeat (first | refine YF ?_ _ | refine YG ?_ | refine YH ?_ _)); refine blk_put (cs := #[.int .i64 0, .int .i64 0, .bool false, .int .i64 0, .int .i64 0, .int .i64 0, .int .i64 0, .int .i64 0, .int .i64 0, .int .i64 0, .int .i64 0, .int .i64 0]) ?_ 0 _ rfl; (with_reducible repeat (first | refine YF ?_ _ | refine YG ?_ | refine YH ?_ _)); exact BK240.out) hb); have n4_ := YL (YD (by repeat (first | (with_reducible first | exact HB.out | apply YA | apply YB | apply YC | refine below_set ?_ GE235.out | refine below_set ?_ GE240.out) | exact HB.out)) hb); clear HO_8; clear HO_236001; clear BK235; clear BK240; clear HB; have HO_8 := n0_; have HO_236001 := n1_; have BK235 := n2_; have BK240 := n3_; have HB := n4_; clear n0_ n1_ n2_ n3_ n4_; (try clear hb); (try clear hb2); (try clear hk); (try clear hi); have q25_0 : w24.cell? ⟨gb235, 0, none⟩ = some (.int .i64 x236000_2) := (YI BK235.out 0).trans rfl; have q25_1 : w24.cell? ⟨gb235, 1, none⟩ = some (u236001) := (YI BK235.out 1).trans rfl; have f25_0 := YJ BK235.out 0; have f25_1 := YJ BK235.out 1; obtain ⟨Ao26, co26, eo26⟩ := Kd.R_slice HO_236001.out; subst eo26))
        have n0_ := YL (Kd.S_drew HO_8.out)
        have n1_ := YL (YU HO_236001.out)
        have n2_ := YL (YG BK235.out)
        have n3_ := YL (YG BK240.out)
        have n4_ := YL (YC HB.out)
        clear HO_8; clear HO_236001; clear BK235; clear BK240; clear HB; have HO_8 := n0_; have HO_236001 := n1_; have BK235 := n2_; have BK240 := n3_; have HB := n4_; clear n0_ n1_ n2_ n3_ n4_
        have p242 : 0 ≤ (x36_2 : Int) := of_decide_eq_true (by first | (with_reducible assumption) | assumption)
        have q242 : x36_2 < (l0.length : Int) := of_decide_eq_true (by first | (with_reducible assumption) | assumption)
        obtain ⟨ad242, e242, hx242_0, hx242_1, hx242_2, hx242_3, hx242_4, hx242_5, hx242_6, hx242_7, hx242_8, hx242_9, hx242_10, hx242_11⟩ := at_T34 HR0.out x36_2 p242 q242
        have hw242_11 := hx242_11
        have hw242_10 := hx242_10
        have hw242_9 := hx242_9
        have hw242_8 := hx242_8
        have hw242_7 := hx242_7
        have hw242_6 := hx242_6
        have hw242_5 := hx242_5
        have hw242_4 := hx242_4
        have hw242_3 := hx242_3
        have hw242_2 := hx242_2
        have hw242_1 := hx242_1
        have hw242_0 := hx242_0
        obtain rfl : ad239 = ad242 := (by injection e242)
        replace hx242_0 := (HB.out.cell (World.block_lt_of_cell? w _ hx242_0)).trans hx242_0
        replace hx242_1 := (HB.out.cell (World.block_lt_of_cell? w _ hx242_1)).trans hx242_1
        replace hx242_2 := (HB.out.cell (World.block_lt_of_cell? w _ hx242_2)).trans hx242_2
        replace hx242_3 := (HB.out.cell (World.block_lt_of_cell? w _ hx242_3)).trans hx242_3
        replace hx242_4 := (HB.out.cell (World.block_lt_of_cell? w _ hx242_4)).trans hx242_4
        replace hx242_5 := (HB.out.cell (World.block_lt_of_cell? w _ hx242_5)).trans hx242_5
        replace hx242_6 := (HB.out.cell (World.block_lt_of_cell? w _ hx242_6)).trans hx242_6
        replace hx242_7 := (HB.out.cell (World.block_lt_of_cell? w _ hx242_7)).trans hx242_7
        replace hx242_8 := (HB.out.cell (World.block_lt_of_cell? w _ hx242_8)).trans hx242_8
        replace hx242_9 := (HB.out.cell (World.block_lt_of_cell? w _ hx242_9)).trans hx242_9
        replace hx242_10 := (HB.out.cell (World.block_lt_of_cell? w _ hx242_10)).trans hx242_10
        replace hx242_11 := (HB.out.cell (World.block_lt_of_cell? w _ hx242_11)).trans hx242_11
        replace p242 := eq_true p242
        replace q242 := eq_true q242
        refine start_ (n := 10) (S := fun w' => w'.cell? ⟨gb235, 0, none⟩ = some (.int .i64 x236000_2) ∧ w'.cell? ⟨gb235, 1, none⟩ = some (.slice Ao26 x236001_2.length co26) ∧ w'.cell? (ad239.add ((x36_2).toNat * 12)) = some (.int .i64 ((rd_T34 l0 x36_2).f0)) ∧ w'.cell? ⟨(ad239.add ((x36_2).toNat * 12)).block, (ad239.add ((x36_2).toNat * 12)).off + 1, none⟩ = some (.int .i64 ((rd_T34 l0 x36_2).f1)) ∧ w'.cell? ⟨(ad239.add ((x36_2).toNat * 12)).block, (ad239.add ((x36_2).toNat * 12)).off + 2, none⟩ = some (.bool ((rd_T34 l0 x36_2).f2.f0)) ∧ w'.cell? ⟨(ad239.add ((x36_2).toNat * 12)).block, (ad239.add ((x36_2).toNat * 12)).off + 3, none⟩ = some (.int .i64 ((rd_T34 l0 x36_2).f2.f1)) ∧ w'.cell? ⟨(ad239.add ((x36_2).toNat * 12)).block, (ad239.add ((x36_2).toNat * 12)).off + 4, none⟩ = some (.int .i64 ((rd_T34 l0 x36_2).f2.f2)) ∧ w'.cell? ⟨(ad239.add ((x36_2).toNat * 12)).block, (ad239.add ((x36_2).toNat * 12)).off + 5, none⟩ = some (.int .i64 ((rd_T34 l0 x36_2).f2.f3)) ∧ w'.cell? ⟨(ad239.add ((x36_2).toNat * 12)).block, (ad239.add ((x36_2).toNat * 12)).off + 6, none⟩ = some (.int .i64 ((rd_T34 l0 x36_2).f2.f4)) ∧ w'.cell? ⟨(ad239.add ((x36_2).toNat * 12)).block, (ad239.add ((x36_2).toNat * 12)).off + 7, none⟩ = some (.int .i64 ((rd_T34 l0 x36_2).f2.f5)) ∧ w'.cell? ⟨(ad239.add ((x36_2).toNat * 12)).block, (ad239.add ((x36_2).toNat * 12)).off + 8, none⟩ = some (.int .i64 ((rd_T34 l0 x36_2).f3.f0)) ∧ w'.cell? ⟨(ad239.add ((x36_2).toNat * 12)).block, (ad239.add ((x36_2).toNat * 12)).off + 9, none⟩ = some (.int .i64 ((rd_T34 l0 x36_2).f3.f1)) ∧ w'.cell? ⟨(ad239.add ((x36_2).toNat * 12)).block, (ad239.add ((x36_2).toNat * 12)).off + 10, none⟩ = some (.int .i64 ((rd_T34 l0 x36_2).f3.f2)) ∧ w'.cell? ⟨(ad239.add ((x36_2).toNat * 12)).block, (ad239.add ((x36_2).toNat * 12)).off + 11, none⟩ = some (.int .i64 ((rd_T34 l0 x36_2).f4))) (ds := [9]) #[false, false, false, false, false, false, false, false, false, false] (by kernel_rfl) rfl rfl ⟨(YI BK235.out 0).trans rfl, (YI BK235.out 1).trans rfl, ((HB.out.cell (World.block_lt_of_cell? w _ hw242_0)).trans hw242_0), ((HB.out.cell (World.block_lt_of_cell? w _ hw242_1)).trans hw242_1), ((HB.out.cell (World.block_lt_of_cell? w _ hw242_2)).trans hw242_2), ((HB.out.cell (World.block_lt_of_cell? w _ hw242_3)).trans hw242_3), ((HB.out.cell (World.block_lt_of_cell? w _ hw242_4)).trans hw242_4), ((HB.out.cell (World.block_lt_of_cell? w _ hw242_5)).trans hw242_5), ((HB.out.cell (World.block_lt_of_cell? w _ hw242_6)).trans hw242_6), ((HB.out.cell (World.block_lt_of_cell? w _ hw242_7)).trans hw242_7), ((HB.out.cell (World.block_lt_of_cell? w _ hw242_8)).trans hw242_8), ((HB.out.cell (World.block_lt_of_cell? w _ hw242_9)).trans hw242_9), ((HB.out.cell (World.block_lt_of_cell? w _ hw242_10)).trans hw242_10), ((HB.out.cell (World.block_lt_of_cell? w _ hw242_11)).trans hw242_11)⟩ (fun hHeld => ?_); refine with_tabW batch_Pack.tab13 batch_Pack.bits13 (fun HT_ HW_ => ?_)
        generalize w24.drew = w27 at HO_8 HO_236001 BK235 BK240 HB hx242_0 hx242_1 hx242_10 hx242_11 hx242_2 hx242_3 hx242_4 hx242_5 hx242_6 hx242_7 hx242_8 hx242_9 hHeld ⊢
        refine pure_ (i := 0) (N := some 52) (v := ?_) (a' := ?_) #[true, false, false, false, false, false, false, false, false, false] rfl rfl (any_of HT_.out (by kernel_rfl)) (fun _ _ _ h => h) (Or.inl ⟨by rfl, ?_⟩) ?_ ?_
        rotate_left
        ·intro w'
         go_simp; with_reducible rfl
        rotate_left
        ·simp only [Act.put, YM, YN, YO, i64_w, i32_w]
         rfl
        refine pure_ (i := 2) (N := some 54) (v := ?_) (a' := ?_) #[true, false, true, false, false, false, false, false, false, false] rfl rfl (any_of HT_.out (by kernel_rfl)) (fun _ _ _ h => h) (Or.inl ⟨by rfl, ?_⟩) ?_ ?_
        rotate_left
        ·intro w'
         go_simp; with_reducible rfl
        rotate_left
        ·simp only [Act.put, YM, YN, YO, i64_w, i32_w]
         rfl
        refine pure_ (i := 3) (N := some 55) (v := ?_) (a' := ?_) #[true, false, true, true, false, false, false, false, false, false] rfl rfl (any_of HT_.out (by kernel_rfl)) (fun _ _ _ h => h) (Or.inl ⟨by rfl, ?_⟩) ?_ ?_
        rotate_left
        ·intro w'
         go_simp; with_reducible rfl
        rotate_left
        ·simp only [Act.put, YM, YN, YO, i64_w, i32_w]
         rfl
        refine pure_ (i := 4) (N := some 56) (v := ?_) (a' := ?_) #[true, false, true, true, true, false, false, false, false, false] rfl rfl (any_of HT_.out (by kernel_rfl)) (fun _ _ _ h => h) (Or.inl ⟨by rfl, ?_⟩) ?_ ?_
        rotate_left
        ·intro w'
         go_simp; with_reducible rfl
        rotate_left
        ·simp only [Act.put, YM, YN, YO, i64_w, i32_w]
         rfl
        refine take_ (i := 1) (N := some 53) (v := ?_) (a' := ?_) #[true, true, true, true, true, false, false, false, false, false] rfl rfl (take_ofW HT_.out HW_.out (by kernel_rfl)) (fun _ _ _ h => h) (Or.inl ⟨by rfl, ?_⟩) hHeld ?_ ?_
        rotate_left
        ·rintro w' ⟨s0, s1, s2, s3, s4, s5, s6, s7, s8, s9, s10, s11, s12, s13⟩
         go_simp; with_reducible rfl
        rotate_left
        ·simp only [Act.put, YM, YN, YO, i64_w, i32_w]
         rfl
        refine take_ (i := 5) (N := some 57) (v := ?_) (a' := ?_) #[true, true, true, true, true, true, false, false, false, false] rfl rfl (take_ofW HT_.out HW_.out (by kernel_rfl)) (fun _ _ _ h => h) (Or.inl ⟨by rfl, ?_⟩) hHeld ?_ ?_
        rotate_left
        ·rintro w' ⟨s0, s1, s2, s3, s4, s5, s6, s7, s8, s9, s10, s11, s12, s13⟩
         go_simp; with_reducible rfl
        rotate_left
        ·simp only [Act.put, YM, YN, YO, i64_w, i32_w]
         rfl
        refine one_ (i := 6) (N := some 58) #[true, true, true, true, true, true, true, false, false, false] rfl rfl (one_of HT_.out (by kernel_rfl)) (by decide) (fun K hK => ?_)
        refine value_ (w1 := ?_) (v := ?_) (by rfl) rfl ?_ ?_
        rotate_left 2
        ·go_simp
         constructor
         ·rfl
         rfl
        refine hK.out _ _ ⟨(YI (YH BK235.out _) 0).trans rfl, (YI (YH BK235.out _) 1).trans rfl, (World.cell?_alloc_lt _ _ _ (World.block_lt_of_cell? _ _ (((HB.out.cell (World.block_lt_of_cell? w _ hw242_0)).trans hw242_0)))).trans (((HB.out.cell (World.block_lt_of_cell? w _ hw242_0)).trans hw242_0)), (World.cell?_alloc_lt _ _ _ (World.block_lt_of_cell? _ _ (((HB.out.cell (World.block_lt_of_cell? w _ hw242_1)).trans hw242_1)))).trans (((HB.out.cell (World.block_lt_of_cell? w _ hw242_1)).trans hw242_1)), (World.cell?_alloc_lt _ _ _ (World.block_lt_of_cell? _ _ (((HB.out.cell (World.block_lt_of_cell? w _ hw242_2)).trans hw242_2)))).trans (((HB.out.cell (World.block_lt_of_cell? w _ hw242_2)).trans hw242_2)), (World.cell?_alloc_lt _ _ _ (World.block_lt_of_cell? _ _ (((HB.out.cell (World.block_lt_of_cell? w _ hw242_3)).trans hw242_3)))).trans (((HB.out.cell (World.block_lt_of_cell? w _ hw242_3)).trans hw242_3)), (World.cell?_alloc_lt _ _ _ (World.block_lt_of_cell? _ _ (((HB.out.cell (World.block_lt_of_cell? w _ hw242_4)).trans hw242_4)))).trans (((HB.out.cell (World.block_lt_of_cell? w _ hw242_4)).trans hw242_4)), (World.cell?_alloc_lt _ _ _ (World.block_lt_of_cell? _ _ (((HB.out.cell (World.block_lt_of_cell? w _ hw242_5)).trans hw242_5)))).trans (((HB.out.cell (World.block_lt_of_cell? w _ hw242_5)).trans hw242_5)), (World.cell?_alloc_lt _ _ _ (World.block_lt_of_cell? _ _ (((HB.out.cell (World.block_lt_of_cell? w _ hw242_6)).trans hw242_6)))).trans (((HB.out.cell (World.block_lt_of_cell? w _ hw242_6)).trans hw242_6)), (World.cell?_alloc_lt _ _ _ (World.block_lt_of_cell? _ _ (((HB.out.cell (World.block_lt_of_cell? w _ hw242_7)).trans hw242_7)))).trans (((HB.out.cell (World.block_lt_of_cell? w _ hw242_7)).trans hw242_7)), (World.cell?_alloc_lt _ _ _ (World.block_lt_of_cell? _ _ (((HB.out.cell (World.block_lt_of_cell? w _ hw242_8)).trans hw242_8)))).trans (((HB.out.cell (World.block_lt_of_cell? w _ hw242_8)).trans hw242_8)), (World.cell?_alloc_lt _ _ _ (World.block_lt_of_cell? _ _ (((HB.out.cell (World.block_lt_of_cell? w _ hw242_9)).trans hw242_9)))).trans (((HB.out.cell (World.block_lt_of_cell? w _ hw242_9)).trans hw242_9)), (World.cell?_alloc_lt _ _ _ (World.block_lt_of_cell? _ _ (((HB.out.cell (World.block_lt_of_cell? w _ hw242_10)).trans hw242_10)))).trans (((HB.out.cell (World.block_lt_of_cell? w _ hw242_10)).trans hw242_10)), (World.cell?_alloc_lt _ _ _ (World.block_lt_of_cell? _ _ (((HB.out.cell (World.block_lt_of_cell? w _ hw242_11)).trans hw242_11)))).trans (((HB.out.cell (World.block_lt_of_cell? w _ hw242_11)).trans hw242_11))⟩ (fun hHeld => ?_)
        clear hK K
        refine norm_ (a' := ?_) ?_ ?_
        rotate_left
        ·show Act.put _ (some 58) _ = _
         simp only [Act.put, YM, YN, YO, i64_w, i32_w]
         rfl
        refine one_ (i := 7) (N := some 59) #[true, true, true, true, true, true, true, true, false, false] rfl rfl (one_of HT_.out (by kernel_rfl)) (by decide) (fun K hK => ?_)
        refine Kd.R_append_step k34 (w0 := w) w.heap.size (by rfl) (.tmp 53) (.tmp 58) 46 34 (.agg #[(.int .i64 0), (.int .i64 0), (.bool false), (.int .i64 0), (.int .i64 0), (.int .i64 0), (.int .i64 0), (.int .i64 0), (.int .i64 0), (.int .i64 0), (.int .i64 0), (.int .i64 0)]) 96 rfl Try.underlying46 info34 rfl (by decide) (by omega) (.slice Ao26 x236001_2.length co26) x236001_2 (⟨(rd_T34 l0 x36_2).f0, (rd_T34 l0 x36_2).f1, (⟨(rd_T34 l0 x36_2).f2.f0, (rd_T34 l0 x36_2).f2.f1, (rd_T34 l0 x36_2).f2.f2, (rd_T34 l0 x36_2).f2.f3, (rd_T34 l0 x36_2).f2.f4, (rd_T34 l0 x36_2).f2.f5⟩ : S30), (⟨(rd_T34 l0 x36_2).f3.f0, (rd_T34 l0 x36_2).f3.f1, (rd_T34 l0 x36_2).f3.f2⟩ : S32), (rd_T34 l0 x36_2).f4⟩ : S34) [.int .i64 ((rd_T34 l0 x36_2).f0), .int .i64 ((rd_T34 l0 x36_2).f1), .bool ((rd_T34 l0 x36_2).f2.f0), .int .i64 ((rd_T34 l0 x36_2).f2.f1), .int .i64 ((rd_T34 l0 x36_2).f2.f2), .int .i64 ((rd_T34 l0 x36_2).f2.f3), .int .i64 ((rd_T34 l0 x36_2).f2.f4), .int .i64 ((rd_T34 l0 x36_2).f2.f5), .int .i64 ((rd_T34 l0 x36_2).f3.f0), .int .i64 ((rd_T34 l0 x36_2).f3.f1), .int .i64 ((rd_T34 l0 x36_2).f3.f2), .int .i64 ((rd_T34 l0 x36_2).f4)] (fun k_ => k_ ≠ gb240) (fun _ => False) rfl rfl ?aP (fun _ hk => hk.elim) ?aF ?aO ?aB ?aS ?aL ?_
        (case aP => exact k34_mkM _ _ _ (⟨(rd_T34 l0 x36_2).f0, (rd_T34 l0 x36_2).f1, (⟨(rd_T34 l0 x36_2).f2.f0, (rd_T34 l0 x36_2).f2.f1, (rd_T34 l0 x36_2).f2.f2, (rd_T34 l0 x36_2).f2.f3, (rd_T34 l0 x36_2).f2.f4, (rd_T34 l0 x36_2).f2.f5⟩ : S30), (⟨(rd_T34 l0 x36_2).f3.f0, (rd_T34 l0 x36_2).f3.f1, (rd_T34 l0 x36_2).f3.f2⟩ : S32), (rd_T34 l0 x36_2).f4⟩ : S34))
        (case aB => exact (by repeat (first | (with_reducible first | exact HB.out | apply YA | apply YB | apply YC | refine below_set ?_ GE235.out | refine below_set ?_ GE240.out) | exact HB.out)))
        (case aF => exact (fun k_ hk => Kd.freshB (g := gb240) (o := .cells #[.int .i64 ((rd_T34 l0 x36_2).f0), .int .i64 ((rd_T34 l0 x36_2).f1), .bool ((rd_T34 l0 x36_2).f2.f0), .int .i64 ((rd_T34 l0 x36_2).f2.f1), .int .i64 ((rd_T34 l0 x36_2).f2.f2), .int .i64 ((rd_T34 l0 x36_2).f2.f3), .int .i64 ((rd_T34 l0 x36_2).f2.f4), .int .i64 ((rd_T34 l0 x36_2).f2.f5), .int .i64 ((rd_T34 l0 x36_2).f3.f0), .int .i64 ((rd_T34 l0 x36_2).f3.f1), .int .i64 ((rd_T34 l0 x36_2).f3.f2), .int .i64 ((rd_T34 l0 x36_2).f4)] 34 (0, 0)) (by (with_reducible repeat (first | refine YF ?_ _ | refine YG ?_ | refine YH ?_ _)); exact BK240.out) k_ hk))
        (case aO => exact (by (with_reducible repeat (first | apply YS | apply YT | apply YU)); exact Kd.R_mono HO_236001.out (fun _ hk => by first | exact hk.2 | exact trivial | (simp [hk]; done) | simp_all)))
        (case aS => exact (YE (by repeat (first | (with_reducible first | exact HB.out | apply YA | apply YB | apply YC | refine below_set ?_ GE235.out | refine below_set ?_ GE240.out) | exact HB.out))))
        (case aL => have := LMc20.out; omega)
        intro v244 w28 ho hb hg hat
        rw [← Ny243.out] at ho
        have n0_ := YL (Kd.S_after (ok := (fun k_ => k_ ≠ gb235 ∧ k_ ≠ gb240)) (by (with_reducible repeat (first | apply Kd.S_alloc | apply Kd.S_drewN | apply Kd.S_drew)); exact Kd.S_mono HO_8.out (fun _ hk => by first | exact ⟨⟨hk.1.2, hk.2⟩, hk.1.1⟩ | exact trivial | (simp [hk]; done) | simp_all)) hg hat)
        have n1_ := YL (blk_grown (g := gb235) (o := .cells #[.int .i64 x236000_2, .slice Ao26 x236001_2.length co26] 48 (0, 0)) (by (with_reducible repeat (first | refine YF ?_ _ | refine YG ?_ | refine YH ?_ _)); exact BK235.out) hg (Kd.R_ne HO_236001.out BK235.out (by decide)))
        have n2_ := YL (blk_grown (g := gb240) (o := .cells #[.int .i64 ((rd_T34 l0 x36_2).f0), .int .i64 ((rd_T34 l0 x36_2).f1), .bool ((rd_T34 l0 x36_2).f2.f0), .int .i64 ((rd_T34 l0 x36_2).f2.f1), .int .i64 ((rd_T34 l0 x36_2).f2.f2), .int .i64 ((rd_T34 l0 x36_2).f2.f3), .int .i64 ((rd_T34 l0 x36_2).f2.f4), .int .i64 ((rd_T34 l0 x36_2).f2.f5), .int .i64 ((rd_T34 l0 x36_2).f3.f0), .int .i64 ((rd_T34 l0 x36_2).f3.f1), .int .i64 ((rd_T34 l0 x36_2).f3.f2), .int .i64 ((rd_T34 l0 x36_2).f4)] 34 (0, 0)) (by (with_reducible repeat (first | refine YF ?_ _ | refine YG ?_ | refine YH ?_ _)); exact BK240.out) hg (Kd.R_away HO_236001.out (fun _ hk => hk.2)))
        have n3_ := YL (hb)
        have n4_ := YL (ho)
        clear HO_8; clear BK235; clear BK240; clear HB; clear HO_236001; have HO_8 := n0_; have BK235 := n1_; have BK240 := n2_; have HB := n3_; have HO245 := n4_; clear n0_ n1_ n2_ n3_ n4_; clear ho hb hg hat
        obtain ⟨Ao29, co29, eo29⟩ := Kd.R_slice HO245.out
        (first | subst eo29 | (injection eo29 with f1_ f2_ f3_; have f4_ := f1_.symm; have f5_ := f3_.symm; clear f1_ f2_ f3_; subst f4_; subst f5_))
        refine hK.out _ _ ⟨(YI BK235.out 0).trans rfl, (YI BK235.out 1).trans rfl, ((HB.out.cell (World.block_lt_of_cell? w _ hw242_0)).trans hw242_0), ((HB.out.cell (World.block_lt_of_cell? w _ hw242_1)).trans hw242_1), ((HB.out.cell (World.block_lt_of_cell? w _ hw242_2)).trans hw242_2), ((HB.out.cell (World.block_lt_of_cell? w _ hw242_3)).trans hw242_3), ((HB.out.cell (World.block_lt_of_cell? w _ hw242_4)).trans hw242_4), ((HB.out.cell (World.block_lt_of_cell? w _ hw242_5)).trans hw242_5), ((HB.out.cell (World.block_lt_of_cell? w _ hw242_6)).trans hw242_6), ((HB.out.cell (World.block_lt_of_cell? w _ hw242_7)).trans hw242_7), ((HB.out.cell (World.block_lt_of_cell? w _ hw242_8)).trans hw242_8), ((HB.out.cell (World.block_lt_of_cell? w _ hw242_9)).trans hw242_9), ((HB.out.cell (World.block_lt_of_cell? w _ hw242_10)).trans hw242_10), ((HB.out.cell (World.block_lt_of_cell? w _ hw242_11)).trans hw242_11)⟩ (fun hHeld => ?_)
        clear hK K
        refine norm_ (a' := ?_) ?_ ?_
        rotate_left
        ·show Act.put _ (some 59) _ = _
         simp only [Act.put, YM, YN, YO, i64_w, i32_w]
         rfl
        refine pure_ (i := 8) (N := some 60) (v := ?_) (a' := ?_) #[true, true, true, true, true, true, true, true, true, false] rfl rfl (any_of HT_.out (by kernel_rfl)) (fun _ _ _ h => h) (Or.inl ⟨by rfl, ?_⟩) ?_ ?_
        rotate_left
        ·intro w'
         go_simp; with_reducible rfl
        rotate_left
        ·simp only [Act.put, YM, YN, YO, i64_w, i32_w]
         rfl
        refine last_ (i := 9) (N := none) #[true, true, true, true, true, true, true, true, true, true] rfl rfl (one_of HT_.out (by kernel_rfl)) (by decide) (fun K hK => ?_)
        have hs30 : w28.cell? ⟨gb235, 1, none⟩ = some (.slice Ao26 x236001_2.length co26) := (YI BK235.out 1).trans rfl
        have hfs30 := YJ BK235.out 1
        have hns30_1 := NB240_235.out
        have hms30_1 := NB235_240.out
        refine skip_ (w1 := ?_) (by rfl) rfl ?_ ?_
        rotate_left
        ·go_simp
         rfl
        refine hK.out _ _ ?_
        clear hK K
        refine done_ (done_of HT_.out (by kernel_rfl)) ?_
        try go_wp2_with (go_step3)
        go_roundg k2
        case measure => have := HJ3.out; have := HK2.out; omega
        case rel => exact ⟨(x8_2), (wrap64 (x10_2 - t241)), (wrap64 (x36_2 + 1)), (x236000_2), (y243), (.slice Ao29 y243.length co29), (by first | rfl | (simp; done) | (simp [*]; done)), (by first | rfl | (simp; done) | (simp [*]; done)), H', ⟨by have := HJ3.out; have := HK2.out; omega⟩, ⟨by (with_reducible repeat (first | apply Kd.S_alloc | apply Kd.S_drewN | apply Kd.S_drew)); exact Kd.S_mono (Kd.S_far (p := ⟨gb235, 1, none⟩) (Kd.S_mono HO_8.out (fun k_ hk => (⟨hk, hk.1.1⟩ : _ ∧ k_ ≠ gb235))) (fun _ hk => hk.2) (.slice Ao29 y243.length co29)) (fun _ hk => ⟨hk.1.2, hk.1.1.1⟩)⟩, ⟨by (with_reducible repeat (first | apply YS | apply YT | apply YU)); exact Kd.R_mono (Kd.R_far (p := ⟨gb235, 1, none⟩) (Kd.R_types HO245.out BK235.out (by decide)) (fun _ hk => hk.2) (.slice Ao29 y243.length co29)) (fun _ hk => trivial)⟩, ⟨by (with_reducible repeat (first | refine YF ?_ _ | refine YG ?_ | refine YH ?_ _)); refine blk_put (cs := #[.int .i64 x236000_2, .slice Ao26 x236001_2.length co26]) ?_ 1 _ rfl; (with_reducible repeat (first | refine YF ?_ _ | refine YG ?_ | refine YH ?_ _)); exact BK235.out⟩, ⟨by repeat (first | (with_reducible first | exact HB.out | apply YA | apply YB | apply YC | refine below_set ?_ GE235.out | refine below_set ?_ GE240.out) | exact HB.out)⟩⟩
       rw [if_neg c18] at H
       have c18b0 : decide ((x236001_2.length : Int) < 32) = false := decide_eq_false c18
       have c18b1 : decide (x236001_2.length < 32) = false := decide_eq_false (by omega)
       clear c18
       by_cases c31 : x8_2.length < 4398046511104
       rotate_left
       ·rw [if_neg c31] at H
        exact absurd H (by simp)
       rw [if_pos c31] at H; have LMc31 := YL c31; clear c31
       obtain ⟨y246, hy246⟩ : ∃ y_ : List (S48), y_ = (x8_2 ++ [(⟨x236000_2, x236001_2⟩ : S48)]) := ⟨_, rfl⟩
       replace H : ((serial_Next.f x236000_2).bind fun t249 => (batch_Pack.l0 k2 l0 a2 y246 (wrap64 ((wrap64 (a2 - 3)) - t241)) l0 (l0.length : Int) (wrap64 (x36_2 + 1)) t249 (([(⟨(rd_T34 l0 x36_2).f0, (rd_T34 l0 x36_2).f1, (⟨(rd_T34 l0 x36_2).f2.f0, (rd_T34 l0 x36_2).f2.f1, (rd_T34 l0 x36_2).f2.f2, (rd_T34 l0 x36_2).f2.f3, (rd_T34 l0 x36_2).f2.f4, (rd_T34 l0 x36_2).f2.f5⟩ : S30), (⟨(rd_T34 l0 x36_2).f3.f0, (rd_T34 l0 x36_2).f3.f1, (rd_T34 l0 x36_2).f3.f2⟩ : S32), (rd_T34 l0 x36_2).f4⟩ : S34)] : List (S34))))) = some (r1, r2) := by first | (rw [hy246]; with_reducible exact H) | (have H2_ := (Option.bind_some _ _).symm.trans H; rw [hy246]; with_reducible exact H2_) | (have H2_ := (Option.bind_some _ _).symm.trans H; with_reducible exact H2_) | with_reducible exact H | (rw [hy246]; exact H) | exact H
       have Ny246 := YL hy246; clear hy246; replace H := Option.bind_eq_some_iff.mp H; obtain ⟨t249, A320, H⟩ := H
       replace H : (batch_Pack.l0 k2 l0 a2 y246 (wrap64 ((wrap64 (a2 - 3)) - t241)) l0 (l0.length : Int) (wrap64 (x36_2 + 1)) t249 (([(⟨(rd_T34 l0 x36_2).f0, (rd_T34 l0 x36_2).f1, (⟨(rd_T34 l0 x36_2).f2.f0, (rd_T34 l0 x36_2).f2.f1, (rd_T34 l0 x36_2).f2.f2, (rd_T34 l0 x36_2).f2.f3, (rd_T34 l0 x36_2).f2.f4, (rd_T34 l0 x36_2).f2.f5⟩ : S30), (⟨(rd_T34 l0 x36_2).f3.f0, (rd_T34 l0 x36_2).f3.f1, (rd_T34 l0 x36_2).f3.f2⟩ : S32), (rd_T34 l0 x36_2).f4⟩ : S34)] : List (S34)))) = some (r1, r2) := H
       have A32 := YL A320; clear A320
       obtain ⟨y250, hy250⟩ : ∃ y_ : List (S34), y_ = (([(⟨(rd_T34 l0 x36_2).f0, (rd_T34 l0 x36_2).f1, (⟨(rd_T34 l0 x36_2).f2.f0, (rd_T34 l0 x36_2).f2.f1, (rd_T34 l0 x36_2).f2.f2, (rd_T34 l0 x36_2).f2.f3, (rd_T34 l0 x36_2).f2.f4, (rd_T34 l0 x36_2).f2.f5⟩ : S30), (⟨(rd_T34 l0 x36_2).f3.f0, (rd_T34 l0 x36_2).f3.f1, (rd_T34 l0 x36_2).f3.f2⟩ : S32), (rd_T34 l0 x36_2).f4⟩ : S34)] : List (S34))) := ⟨_, rfl⟩
       replace H : (batch_Pack.l0 k2 l0 a2 y246 (wrap64 ((wrap64 (a2 - 3)) - t241)) l0 (l0.length : Int) (wrap64 (x36_2 + 1)) t249 y250) = some (r1, r2) := by first | (rw [hy250]; with_reducible exact H) | (have H2_ := (Option.bind_some _ _).symm.trans H; rw [hy250]; with_reducible exact H2_) | (have H2_ := (Option.bind_some _ _).symm.trans H; with_reducible exact H2_) | with_reducible exact H | (rw [hy250]; exact H) | exact H
       have Ny250 := YL hy250; clear hy250
       have H' := YL H
       clear H
       have p239 : 0 ≤ (x36_2 : Int) := of_decide_eq_true (by first | (with_reducible assumption) | assumption)
       have q239 : x36_2 < (l0.length : Int) := of_decide_eq_true (by first | (with_reducible assumption) | assumption)
       obtain ⟨ad239, e239, hx239_0, hx239_1, hx239_2, hx239_3, hx239_4, hx239_5, hx239_6, hx239_7, hx239_8, hx239_9, hx239_10, hx239_11⟩ := at_T34 HR0.out x36_2 p239 q239
       cases e239
       replace hx239_0 := (HB.out.cell (World.block_lt_of_cell? w _ hx239_0)).trans hx239_0
       replace hx239_1 := (HB.out.cell (World.block_lt_of_cell? w _ hx239_1)).trans hx239_1
       replace hx239_2 := (HB.out.cell (World.block_lt_of_cell? w _ hx239_2)).trans hx239_2
       replace hx239_3 := (HB.out.cell (World.block_lt_of_cell? w _ hx239_3)).trans hx239_3
       replace hx239_4 := (HB.out.cell (World.block_lt_of_cell? w _ hx239_4)).trans hx239_4
       replace hx239_5 := (HB.out.cell (World.block_lt_of_cell? w _ hx239_5)).trans hx239_5
       replace hx239_6 := (HB.out.cell (World.block_lt_of_cell? w _ hx239_6)).trans hx239_6
       replace hx239_7 := (HB.out.cell (World.block_lt_of_cell? w _ hx239_7)).trans hx239_7
       replace hx239_8 := (HB.out.cell (World.block_lt_of_cell? w _ hx239_8)).trans hx239_8
       replace hx239_9 := (HB.out.cell (World.block_lt_of_cell? w _ hx239_9)).trans hx239_9
       replace hx239_10 := (HB.out.cell (World.block_lt_of_cell? w _ hx239_10)).trans hx239_10
       replace hx239_11 := (HB.out.cell (World.block_lt_of_cell? w _ hx239_11)).trans hx239_11
       replace p239 := eq_true p239
       replace q239 := eq_true q239
       try go_wp2_with (first | go_step3 | ((with_reducible refine gate_dst (N := 12) rfl ?_); (try (refine gate_guard (by rfl) ?_; dsimp only)); refine box_event ?hg (N := 12) ?hd (cs := #[.int .i64 0, .int .i64 0, .bool false, .int .i64 0, .int .i64 0, .int .i64 0, .int .i64 0, .int .i64 0, .int .i64 0, .int .i64 0, .int .i64 0, .int .i64 0]) (t := 34) ?hr ?_; (case hd => rfl); (case hg => rfl); (case hr => first | (go_simp; done) | (go_simp; rfl)); intro gb240 hg w33 hbox hb; have n0_ := YL (Kd.S_below (Kd.S_elderB (by (with_reducible repeat (first | apply Kd.S_alloc | apply Kd.S_drewN | apply Kd.S_drew)); exact HO_8.out) gb240 (Nat.le_of_eq hg.symm)) hb); have n1_ := YL (YV (Kd.R_elderB (by (with_reducible repeat (first | apply YS | apply YT | apply YU)); exact HO_236001.out) gb240 (Nat.le_of_eq hg.symm)) hb); have n2_ := YL (YK (g := gb235) (o := .cells #[.int .i64 x236000_2, u236001] 48 (0, 0)) (by (with_reducible repeat (first | refine YF ?_ _ | refine YG ?_ | refine YH ?_ _)); exact BK235.out) hb); have n3_ := YL (YD (by repeat (first | (with_reducible first | exact HB.out | apply YA | apply YB | apply YC | refine below_set ?_ GE235.out) | exact HB.out)) hb); have n4_ := YL (hbox); have n5_ := YL ((by rw [hg]; exact (YE (by repeat (first | (with_reducible first | exact HB.out | apply YA | apply YB | apply YC | refine below_set ?_ GE235.out) | exact HB.out))) : w.heap.size ≤ gb240)); have n6_ := YL ((by rw [hg]; exact (YE (by repeat (first | (with_reducible first | exact HB.out | apply YA | apply YB | apply YC | refine below_set ?_ GE235.out) | exact HB.out))) : w.heap.size ≤ gb240)); have n7_ := YL ((by rw [hg]; exact Nat.ne_of_lt (blk_lt (g := gb235) (o := .cells #[.int .i64 x236000_2, u236001] 48 (0, 0)) (by (with_reducible repeat (first | refine YF ?_ _ | refine YG ?_ | refine YH ?_ _)); exact BK235.out)) : gb235 ≠ gb240)); have n8_ := YL ((by rw [hg]; exact Nat.ne_of_gt (blk_lt (g := gb235) (o := .cells #[.int .i64 x236000_2, u236001] 48 (0, 0)) (by (with_reducible repeat (first | refine YF ?_ _ | refine YG ?_ | refine YH ?_ _)); exact BK235.out)) : gb240 ≠ gb235)); clear HO_8; clear HO_236001; clear BK235; clear HB; have HO_8 := n0_; have HO_236001 := n1_; have BK235 := n2_; have HB := n3_; have BK240 := n4_; have GW240 := n5_; have GE240 := n6_; have NB235_240 := n7_; have NB240_235 := n8_; clear n0_ n1_ n2_ n3_ n4_ n5_ n6_ n7_ n8_; clear hb hbox hg; have hnb34 := NB240_235.out; have hnc34 := NB235_240.out; have q35_0 : w33.cell? ⟨gb240, 0, none⟩ = some (.int .i64 0) := (YI BK240.out 0).trans rfl; have q35_1 : w33.cell? ⟨gb240, 1, none⟩ = some (.int .i64 0) := (YI BK240.out 1).trans rfl; have q35_2 : w33.cell? ⟨gb240, 2, none⟩ = some (.bool false) := (YI BK240.out 2).trans rfl; have q35_3 : w33.cell? ⟨gb240, 3, none⟩ = some (.int .i64 0) := (YI BK240.out 3).trans rfl; have q35_4 : w33.cell? ⟨gb240, 4, none⟩ = some (.int .i64 0) := (YI BK240.out 4).trans rfl; have q35_5 : w33.cell? ⟨gb240, 5, none⟩ = some (.int .i64 0) := (YI BK240.out 5).trans rfl; have q35_6 : w33.cell? ⟨gb240, 6, none⟩ = some (.int .i64 0) := (YI BK240.out 6).trans rfl; have q35_7 : w33.cell? ⟨gb240, 7, none⟩ = some (.int .i64 0) := (YI BK240.out 7).trans rfl; have q35_8 : w33.cell? ⟨gb240, 8, none⟩ = some (.int .i64 0) := (YI BK240.out 8).trans rfl; have q35_9 : w33.cell? ⟨gb240, 9, none⟩ = some (.int .i64 0) := (YI BK240.out 9).trans rfl; have q35_10 : w33.cell? ⟨gb240, 10, none⟩ = some (.int .i64 0) := (YI BK240.out 10).trans rfl; have q35_11 : w33.cell? ⟨gb240, 11, none⟩ = some (.int .i64 0) := (YI BK240.out 11).trans rfl; have f35_0 := YJ BK240.out 0; have f35_1 := YJ BK240.out 1; have f35_2 := YJ BK240.out 2; have f35_3 := YJ BK240.out 3; have f35_4 := YJ BK240.out 4; have f35_5 := YJ BK240.out 5; have f35_6 := YJ BK240.out 6; have f35_7 := YJ BK240.out 7; have f35_8 := YJ BK240.out 8; have f35_9 := YJ BK240.out 9; have f35_10 := YJ BK240.out 10; have f35_11 := YJ BK240.out 11) | ((with_reducible refine gate_callee (f := 52) rfl ?_); refine goesL_ (some 42) rfl rfl Try.func52 (by kernel_rfl) rfl #[.agg #[.int .i64 ((rd_T34 l0 x36_2).f0), .int .i64 ((rd_T34 l0 x36_2).f1), .bool ((rd_T34 l0 x36_2).f2.f0), .int .i64 ((rd_T34 l0 x36_2).f2.f1), .int .i64 ((rd_T34 l0 x36_2).f2.f2), .int .i64 ((rd_T34 l0 x36_2).f2.f3), .int .i64 ((rd_T34 l0 x36_2).f2.f4), .int .i64 ((rd_T34 l0 x36_2).f2.f5), .int .i64 ((rd_T34 l0 x36_2).f3.f0), .int .i64 ((rd_T34 l0 x36_2).f3.f1), .int .i64 ((rd_T34 l0 x36_2).f3.f2), .int .i64 ((rd_T34 l0 x36_2).f4)]] rfl (by (try simp only [YP, List.map_cons, List.map_nil]); first | done | rfl | (simp only [YR, YQ]; rfl)) ?_; (with_reducible refine (object_Size.calls k2 ((rd_T34 l0 x36_2).f0) ((rd_T34 l0 x36_2).f1) ((rd_T34 l0 x36_2).f2.f0) ((rd_T34 l0 x36_2).f2.f1) ((rd_T34 l0 x36_2).f2.f2) ((rd_T34 l0 x36_2).f2.f3) ((rd_T34 l0 x36_2).f2.f4) ((rd_T34 l0 x36_2).f2.f5) ((rd_T34 l0 x36_2).f3.f0) ((rd_T34 l0 x36_2).f3.f1) ((rd_T34 l0 x36_2).f3.f2) ((rd_T34 l0 x36_2).f4) t241 _ A16.out).mono ?_); rintro e w36 ⟨rfl, hb⟩; refine ⟨_, rfl, ?_⟩; have n0_ := YL (Kd.S_below (by (with_reducible repeat (first | apply Kd.S_alloc | apply Kd.S_drewN | apply Kd.S_drew)); exact (Kd.S_mono (Kd.S_far (p := ⟨gb240, 11, none⟩) (Kd.S_far (p := ⟨gb240, 10, none⟩) (Kd.S_far (p := ⟨gb240, 9, none⟩) (Kd.S_far (p := ⟨gb240, 8, none⟩) (Kd.S_far (p := ⟨gb240, 7, none⟩) (Kd.S_far (p := ⟨gb240, 6, none⟩) (Kd.S_far (p := ⟨gb240, 5, none⟩) (Kd.S_far (p := ⟨gb240, 4, none⟩) (Kd.S_far (p := ⟨gb240, 3, none⟩) (Kd.S_far (p := ⟨gb240, 2, none⟩) (Kd.S_far (p := ⟨gb240, 1, none⟩) (Kd.S_far (p := ⟨gb240, 0, none⟩) (Kd.S_mono HO_8.out (fun k_ hk => (⟨hk, hk.2⟩ : _ ∧ k_ ≠ gb240))) (fun _ hk => hk.2) (.int .i64 ((rd_T34 l0 x36_2).f0))) (fun _ hk => hk.2) (.int .i64 ((rd_T34 l0 x36_2).f1))) (fun _ hk => hk.2) (.bool ((rd_T34 l0 x36_2).f2.f0))) (fun _ hk => hk.2) (.int .i64 ((rd_T34 l0 x36_2).f2.f1))) (fun _ hk => hk.2) (.int .i64 ((rd_T34 l0 x36_2).f2.f2))) (fun _ hk => hk.2) (.int .i64 ((rd_T34 l0 x36_2).f2.f3))) (fun _ hk => hk.2) (.int .i64 ((rd_T34 l0 x36_2).f2.f4))) (fun _ hk => hk.2) (.int .i64 ((rd_T34 l0 x36_2).f2.f5))) (fun _ hk => hk.2) (.int .i64 ((rd_T34 l0 x36_2).f3.f0))) (fun _ hk => hk.2) (.int .i64 ((rd_T34 l0 x36_2).f3.f1))) (fun _ hk => hk.2) (.int .i64 ((rd_T34 l0 x36_2).f3.f2))) (fun _ hk => hk.2) (.int .i64 ((rd_T34 l0 x36_2).f4))) (fun _ h_ => h_.1))) hb); have n1_ := YL (YV (by (with_reducible repeat (first | apply YS | apply YT | apply YU)); exact (Kd.R_mono (Kd.R_far (p := ⟨gb240, 11, none⟩) (Kd.R_far (p := ⟨gb240, 10, none⟩) (Kd.R_far (p := ⟨gb240, 9, none⟩) (Kd.R_far (p := ⟨gb240, 8, none⟩) (Kd.R_far (p := ⟨gb240, 7, none⟩) (Kd.R_far (p := ⟨gb240, 6, none⟩) (Kd.R_far (p := ⟨gb240, 5, none⟩) (Kd.R_far (p := ⟨gb240, 4, none⟩) (Kd.R_far (p := ⟨gb240, 3, none⟩) (Kd.R_far (p := ⟨gb240, 2, none⟩) (Kd.R_far (p := ⟨gb240, 1, none⟩) (Kd.R_far (p := ⟨gb240, 0, none⟩) (Kd.R_mono HO_236001.out (fun k_ hk => (⟨hk, hk.2⟩ : _ ∧ k_ ≠ gb240))) (fun _ hk => hk.2) (.int .i64 ((rd_T34 l0 x36_2).f0))) (fun _ hk => hk.2) (.int .i64 ((rd_T34 l0 x36_2).f1))) (fun _ hk => hk.2) (.bool ((rd_T34 l0 x36_2).f2.f0))) (fun _ hk => hk.2) (.int .i64 ((rd_T34 l0 x36_2).f2.f1))) (fun _ hk => hk.2) (.int .i64 ((rd_T34 l0 x36_2).f2.f2))) (fun _ hk => hk.2) (.int .i64 ((rd_T34 l0 x36_2).f2.f3))) (fun _ hk => hk.2) (.int .i64 ((rd_T34 l0 x36_2).f2.f4))) (fun _ hk => hk.2) (.int .i64 ((rd_T34 l0 x36_2).f2.f5))) (fun _ hk => hk.2) (.int .i64 ((rd_T34 l0 x36_2).f3.f0))) (fun _ hk => hk.2) (.int .i64 ((rd_T34 l0 x36_2).f3.f1))) (fun _ hk => hk.2) (.int .i64 ((rd_T34 l0 x36_2).f3.f2))) (fun _ hk => hk.2) (.int .i64 ((rd_T34 l0 x36_2).f4))) (fun _ h_ => h_.1))) hb); have n2_ := YL (YK (g := gb235) (o := .cells #[.int .i64 x236000_2, u236001] 48 (0, 0)) (by (with_reducible repeat (first | refine YF ?_ _ | refine YG ?_ | refine YH ?_ _)); refine blk_far ?_ NB235_240.out _; (with_reducible repeat (first | refine YF ?_ _ | refine YG ?_ | refine YH ?_ _)); refine blk_far ?_ NB235_240.out _; (with_reducible repeat (first | refine YF ?_ _ | refine YG ?_ | refine YH ?_ _)); refine blk_far ?_ NB235_240.out _; (with_reducible repeat (first | refine YF ?_ _ | refine YG ?_ | refine YH ?_ _)); refine blk_far ?_ NB235_240.out _; (with_reducible repeat (first | refine YF ?_ _ | refine YG ?_ | refine YH ?_ _)); refine blk_far ?_ NB235_240.out _; (with_reducible repeat (first | refine YF ?_ _ | refine YG ?_ | refine YH ?_ _)); refine blk_far ?_ NB235_240.out _; (with_reducible repeat (first | refine YF ?_ _ | refine YG ?_ | refine YH ?_ _)); refine blk_far ?_ NB235_240.out _; (with_reducible repeat (first | refine YF ?_ _ | refine YG ?_ | refine YH ?_ _)); refine blk_far ?_ NB235_240.out _; (with_reducible repeat (first | refine YF ?_ _ | refine YG ?_ | refine YH ?_ _)); refine blk_far ?_ NB235_240.out _; (with_reducible repeat (first | refine YF ?_ _ | refine YG ?_ | refine YH ?_ _)); refine blk_far ?_ NB235_240.out _; (with_reducible repeat (first | refine YF ?_ _ | refine YG ?_ | refine YH ?_ _)); refine blk_far ?_ NB235_240.out _; (with_reducible repeat (first | refine YF ?_ _ | refine YG ?_ | refine YH ?_ _)); refine blk_far ?_ NB235_240.out _; (with_reducible repeat (first | refine YF ?_ _ | refine YG ?_ | refine YH ?_ _)); exact BK235.out) hb); have n3_ := YL (YK (g := gb240) (o := .cells #[.int .i64 ((rd_T34 l0 x36_2).f0), .int .i64 ((rd_T34 l0 x36_2).f1), .bool ((rd_T34 l0 x36_2).f2.f0), .int .i64 ((rd_T34 l0 x36_2).f2.f1), .int .i64 ((rd_T34 l0 x36_2).f2.f2), .int .i64 ((rd_T34 l0 x36_2).f2.f3), .int .i64 ((rd_T34 l0 x36_2).f2.f4), .int .i64 ((rd_T34 l0 x36_2).f2.f5), .int .i64 ((rd_T34 l0 x36_2).f3.f0), .int .i64 ((rd_T34 l0 x36_2).f3.f1), .int .i64 ((rd_T34 l0 x36_2).f3.f2), .int .i64 ((rd_T34 l0 x36_2).f4)] 34 (0, 0)) (by (with_reducible repeat (first | refine YF ?_ _ | refine YG ?_ | refine YH ?_ _)); refine blk_put (cs := #[.int .i64 ((rd_T34 l0 x36_2).f0), .int .i64 ((rd_T34 l0 x36_2).f1), .bool ((rd_T34 l0 x36_2).f2.f0), .int .i64 ((rd_T34 l0 x36_2).f2.f1), .int .i64 ((rd_T34 l0 x36_2).f2.f2), .int .i64 ((rd_T34 l0 x36_2).f2.f3), .int .i64 ((rd_T34 l0 x36_2).f2.f4), .int .i64 ((rd_T34 l0 x36_2).f2.f5), .int .i64 ((rd_T34 l0 x36_2).f3.f0), .int .i64 ((rd_T34 l0 x36_2).f3.f1), .int .i64 ((rd_T34 l0 x36_2).f3.f2), .int .i64 0]) ?_ 11 _ rfl; (with_reducible repeat (first | refine YF ?_ _ | refine YG ?_ | refine YH ?_ _)); refine blk_put (cs := #[.int .i64 ((rd_T34 l0 x36_2).f0), .int .i64 ((rd_T34 l0 x36_2).f1), .bool ((rd_T34 l0 x36_2).f2.f0), .int .i64 ((rd_T34 l0 x36_2).f2.f1), .int .i64 ((rd_T34 l0 x36_2).f2.f2), .int .i64 ((rd_T34 l0 x36_2).f2.f3), .int .i64 ((rd_T34 l0 x36_2).f2.f4), .int .i64 ((rd_T34 l0 x36_2).f2.f5), .int .i64 ((rd_T34 l0 x36_2).f3.f0), .int .i64 ((rd_T34 l0 x36_2).f3.f1), .int .i64 0, .int .i64 0]) ?_ 10 _ rfl; (with_reducible repeat (first | refine YF ?_ _ | refine YG ?_ | refine YH ?_ _)); refine blk_put (cs := #[.int .i64 ((rd_T34 l0 x36_2).f0), .int .i64 ((rd_T34 l0 x36_2).f1), .bool ((rd_T34 l0 x36_2).f2.f0), .int .i64 ((rd_T34 l0 x36_2).f2.f1), .int .i64 ((rd_T34 l0 x36_2).f2.f2), .int .i64 ((rd_T34 l0 x36_2).f2.f3), .int .i64 ((rd_T34 l0 x36_2).f2.f4), .int .i64 ((rd_T34 l0 x36_2).f2.f5), .int .i64 ((rd_T34 l0 x36_2).f3.f0), .int .i64 0, .int .i64 0, .int .i64 0]) ?_ 9 _ rfl; (with_reducible repeat (first | refine YF ?_ _ | refine YG ?_ | refine YH ?_ _)); refine blk_put (cs := #[.int .i64 ((rd_T34 l0 x36_2).f0), .int .i64 ((rd_T34 l0 x36_2).f1), .bool ((rd_T34 l0 x36_2).f2.f0), .int .i64 ((rd_T34 l0 x36_2).f2.f1), .int .i64 ((rd_T34 l0 x36_2).f2.f2), .int .i64 ((rd_T34 l0 x36_2).f2.f3), .int .i64 ((rd_T34 l0 x36_2).f2.f4), .int .i64 ((rd_T34 l0 x36_2).f2.f5), .int .i64 0, .int .i64 0, .int .i64 0, .int .i64 0]) ?_ 8 _ rfl; (with_reducible repeat (first | refine YF ?_ _ | refine YG ?_ | refine YH ?_ _)); refine blk_put (cs := #[.int .i64 ((rd_T34 l0 x36_2).f0), .int .i64 ((rd_T34 l0 x36_2).f1), .bool ((rd_T34 l0 x36_2).f2.f0), .int .i64 ((rd_T34 l0 x36_2).f2.f1), .int .i64 ((rd_T34 l0 x36_2).f2.f2), .int .i64 ((rd_T34 l0 x36_2).f2.f3), .int .i64 ((rd_T34 l0 x36_2).f2.f4), .int .i64 0, .int .i64 0, .int .i64 0, .int .i64 0, .int .i64 0]) ?_ 7 _ rfl; (with_reducible repeat (first | refine YF ?_ _ | refine YG ?_ | refine YH ?_ _)); refine blk_put (cs := #[.int .i64 ((rd_T34 l0 x36_2).f0), .int .i64 ((rd_T34 l0 x36_2).f1), .bool ((rd_T34 l0 x36_2).f2.f0), .int .i64 ((rd_T34 l0 x36_2).f2.f1), .int .i64 ((rd_T34 l0 x36_2).f2.f2), .int .i64 ((rd_T34 l0 x36_2).f2.f3), .int .i64 0, .int .i64 0, .int .i64 0, .int .i64 0, .int .i64 0, .int .i64 0]) ?_ 6 _ rfl; (with_reducible repeat (first | refine YF ?_ _ | refine YG ?_ | refine YH ?_ _)); refine blk_put (cs := #[.int .i64 ((rd_T34 l0 x36_2).f0), .int .i64 ((rd_T34 l0 x36_2).f1), .bool ((rd_T34 l0 x36_2).f2.f0), .int .i64 ((rd_T34 l0 x36_2).f2.f1), .int .i64 ((rd_T34 l0 x36_2).f2.f2), .int .i64 0, .int .i64 0, .int .i64 0, .int .i64 0, .int .i64 0, .int .i64 0, .int .i64 0]) ?_ 5 _ rfl; (with_reducible repeat (first | refine YF ?_ _ | refine YG ?_ | refine YH ?_ _)); refine blk_put (cs := #[.int .i64 ((rd_T34 l0 x36_2).f0), .int .i64 ((rd_T34 l0 x36_2).f1), .bool ((rd_T34 l0 x36_2).f2.f0), .int .i64 ((rd_T34 l0 x36_2).f2.f1), .int .i64 0, .int .i64 0, .int .i64 0, .int .i64 0, .int .i64 0, .int .i64 0, .int .i64 0, .int .i64 0]) ?_ 4 _ rfl; (with_reducible repeat (first | refine YF ?_ _ | refine YG ?_ | refine YH ?_ _)); refine blk_put (cs := #[.int .i64 ((rd_T34 l0 x36_2).f0), .int .i64 ((rd_T34 l0 x36_2).f1), .bool ((rd_T34 l0 x36_2).f2.f0), .int .i64 0, .int .i64 0, .int .i64 0, .int .i64 0, .int .i64 0, .int .i64 0, .int .i64 0, .int .i64 0, .int .i64 0]) ?_ 3 _ rfl; (with_reducible repeat (first | refine YF ?_ _ | refine YG ?_ | refine YH ?_ _)); refine blk_put (cs := #[.int .i64 ((rd_T34 l0 x36_2).f0), .int .i64 ((rd_T34 l0 x36_2).f1), .bool false, .int .i64 0, .int .i64 0, .int .i64 0, .int .i64 0, .int .i64 0, .int .i64 0, .int .i64 0, .int .i64 0, .int .i64 0]) ?_ 2 _ rfl; (with_reducible repeat (first | refine YF ?_ _ | refine YG ?_ | refine YH ?_ _)); refine blk_put (cs := #[.int .i64 ((rd_T34 l0 x36_2).f0), .int .i64 0, .bool false, .int .i64 0, .int .i64 0, .int .i64 0, .int .i64 0, .int .i64 0, .int .i64 0, .int .i64 0, .int .i64 0, .int .i64 0]) ?_ 1 _ rfl; (with_reducible repeat (first | refine YF ?_ _ | refine YG ?_ | refine YH ?_ _)); refine blk_put (cs := #[.int .i64 0, .int .i64 0, .bool false, .int .i64 0, .int .i64 0, .int .i64 0, .int .i64 0, .int .i64 0, .int .i64 0, .int .i64 0, .int .i64 0, .int .i64 0]) ?_ 0 _ rfl; (with_reducible repeat (first | refine YF ?_ _ | refine YG ?_ | refine YH ?_ _)); exact BK240.out) hb); have n4_ := YL (YD (by repeat (first | (with_reducible first | exact HB.out | apply YA | apply YB | apply YC | refine below_set ?_ GE235.out | refine below_set ?_ GE240.out) | exact HB.out)) hb); clear HO_8; clear HO_236001; clear BK235; clear BK240; clear HB; have HO_8 := n0_; have HO_236001 := n1_; have BK235 := n2_; have BK240 := n3_; have HB := n4_; clear n0_ n1_ n2_ n3_ n4_; (try clear hb); (try clear hb2); (try clear hk); (try clear hi); have q37_0 : w36.cell? ⟨gb235, 0, none⟩ = some (.int .i64 x236000_2) := (YI BK235.out 0).trans rfl; have q37_1 : w36.cell? ⟨gb235, 1, none⟩ = some (u236001) := (YI BK235.out 1).trans rfl; have f37_0 := YJ BK235.out 0; have f37_1 := YJ BK235.out 1; obtain ⟨Ao38, co38, eo38⟩ := Kd.R_slice HO_236001.out; subst eo38) | ((with_reducible refine gate_builtin (b := .append) (xs := #[.tmp 64, .tmp 66]) rfl ?_); (try (refine gate_guard (by rfl) ?_; dsimp only)); at_builtin; refine Kd.S_append k48 (w0 := w) w.heap.size rfl (.tmp 64) (.tmp 66) 28 48 (.agg #[(.int .i64 0), (.slice none 0 0)]) 32 rfl Try.underlying28 info48 rfl (by decide) (by omega) u8 x8_2 (⟨x236000_2, x236001_2⟩ : S48) [.int .i64 x236000_2, .slice Ao38 x236001_2.length co38] (fun k_ => k_ ≠ gb235 ∧ k_ ≠ gb240) (fun k_ => some k_ = (.slice Ao38 x236001_2.length co38 : Value).ownBlock) rfl rfl ?aP (fun k_ hk_ => ((Kd.R_mono (ok' := fun k_ => ((fun k_ => k_ ≠ gb235 ∧ k_ ≠ gb240)) k_ ∧ some k_ ≠ (u8 : Value).ownBlock) (Kd.R_types (Kd.R_apart' (HO_236001.out) (Kd.S_typed HO_8.out) (by decide)) BK235.out (by decide)) (fun k_ hk => ⟨⟨hk.2, hk.1.1.2⟩, hk.1.2⟩))).1 k_ hk_.symm) ?aF ?aO ?aB ?aS ?aL ?_; (case aP => exact k48_mkM _ _ _ (⟨x236000_2, x236001_2⟩ : S48) (Kd.R_mono (Kd.R_tight rfl (Kd.R_mono (ok' := fun k_ => ((fun k_ => k_ ≠ gb235 ∧ k_ ≠ gb240)) k_ ∧ some k_ ≠ (u8 : Value).ownBlock) (Kd.R_types (Kd.R_apart' (HO_236001.out) (Kd.S_typed HO_8.out) (by decide)) BK235.out (by decide)) (fun k_ hk => ⟨⟨hk.2, hk.1.1.2⟩, hk.1.2⟩))) (fun _ h_ => h_))); (case aB => exact (by repeat (first | (with_reducible first | exact HB.out | apply YA | apply YB | apply YC | refine below_set ?_ GE235.out | refine below_set ?_ GE240.out) | exact HB.out))); (case aF => exact (fun k_ hk => ⟨Kd.freshB (g := gb235) (o := .cells #[.int .i64 x236000_2, .slice Ao38 x236001_2.length co38] 48 (0, 0)) (by (with_reducible repeat (first | refine YF ?_ _ | refine YG ?_ | refine YH ?_ _)); exact BK235.out) k_ hk, Kd.freshB (g := gb240) (o := .cells #[.int .i64 ((rd_T34 l0 x36_2).f0), .int .i64 ((rd_T34 l0 x36_2).f1), .bool ((rd_T34 l0 x36_2).f2.f0), .int .i64 ((rd_T34 l0 x36_2).f2.f1), .int .i64 ((rd_T34 l0 x36_2).f2.f2), .int .i64 ((rd_T34 l0 x36_2).f2.f3), .int .i64 ((rd_T34 l0 x36_2).f2.f4), .int .i64 ((rd_T34 l0 x36_2).f2.f5), .int .i64 ((rd_T34 l0 x36_2).f3.f0), .int .i64 ((rd_T34 l0 x36_2).f3.f1), .int .i64 ((rd_T34 l0 x36_2).f3.f2), .int .i64 ((rd_T34 l0 x36_2).f4)] 34 (0, 0)) (by (with_reducible repeat (first | refine YF ?_ _ | refine YG ?_ | refine YH ?_ _)); exact BK240.out) k_ hk⟩)); (case aO => exact (by (with_reducible repeat (first | apply Kd.S_alloc | apply Kd.S_drewN | apply Kd.S_drew)); exact Kd.S_mono HO_8.out (fun k_ hk => ⟨⟨hk.1.2, hk.2⟩, fun e_ => hk.1.1 e_⟩))); (case aS => exact (YE (by repeat (first | (with_reducible first | exact HB.out | apply YA | apply YB | apply YC | refine below_set ?_ GE235.out | refine below_set ?_ GE240.out) | exact HB.out)))); (case aL => have := LMc31.out; omega); intro v247 w39 ho hb hg hat; rw [← Ny246.out] at ho; have n0_ := YL (blk_grown (g := gb235) (o := .cells #[.int .i64 x236000_2, .slice Ao38 x236001_2.length co38] 48 (0, 0)) (by (with_reducible repeat (first | refine YF ?_ _ | refine YG ?_ | refine YH ?_ _)); exact BK235.out) hg (Kd.S_away HO_8.out (fun _ hk => hk.1.2))); have n1_ := YL (blk_grown (g := gb240) (o := .cells #[.int .i64 ((rd_T34 l0 x36_2).f0), .int .i64 ((rd_T34 l0 x36_2).f1), .bool ((rd_T34 l0 x36_2).f2.f0), .int .i64 ((rd_T34 l0 x36_2).f2.f1), .int .i64 ((rd_T34 l0 x36_2).f2.f2), .int .i64 ((rd_T34 l0 x36_2).f2.f3), .int .i64 ((rd_T34 l0 x36_2).f2.f4), .int .i64 ((rd_T34 l0 x36_2).f2.f5), .int .i64 ((rd_T34 l0 x36_2).f3.f0), .int .i64 ((rd_T34 l0 x36_2).f3.f1), .int .i64 ((rd_T34 l0 x36_2).f3.f2), .int .i64 ((rd_T34 l0 x36_2).f4)] 34 (0, 0)) (by (with_reducible repeat (first | refine YF ?_ _ | refine YG ?_ | refine YH ?_ _)); exact BK240.out) hg (Kd.S_ne HO_8.out BK240.out (by decide))); have n2_ := YL (hb); have n3_ := YL (ho); clear BK235; clear BK240; clear HB; clear HO_8; clear HO_236001; have BK235 := n0_; have BK240 := n1_; have HB := n2_; have HO248 := n3_; clear n0_ n1_ n2_ n3_; clear ho hb hg hat))
       have n0_ := YL (Kd.S_drew HO248.out)
       have n1_ := YL (YG BK235.out)
       have n2_ := YL (YG BK240.out)
       have n3_ := YL (YC HB.out)
       clear HO248; clear BK235; clear BK240; clear HB; have HO248 := n0_; have BK235 := n1_; have BK240 := n2_; have HB := n3_; clear n0_ n1_ n2_ n3_
       refine start_ (n := 7) (S := fun w' => w'.cell? ⟨gb235, 0, none⟩ = some (.int .i64 x236000_2) ∧ w'.cell? ⟨gb235, 1, none⟩ = some (.slice Ao38 x236001_2.length co38) ∧ w'.cell? ⟨gb240, 0, none⟩ = some (.int .i64 ((rd_T34 l0 x36_2).f0)) ∧ w'.cell? ⟨gb240, 1, none⟩ = some (.int .i64 ((rd_T34 l0 x36_2).f1)) ∧ w'.cell? ⟨gb240, 2, none⟩ = some (.bool ((rd_T34 l0 x36_2).f2.f0)) ∧ w'.cell? ⟨gb240, 3, none⟩ = some (.int .i64 ((rd_T34 l0 x36_2).f2.f1)) ∧ w'.cell? ⟨gb240, 4, none⟩ = some (.int .i64 ((rd_T34 l0 x36_2).f2.f2)) ∧ w'.cell? ⟨gb240, 5, none⟩ = some (.int .i64 ((rd_T34 l0 x36_2).f2.f3)) ∧ w'.cell? ⟨gb240, 6, none⟩ = some (.int .i64 ((rd_T34 l0 x36_2).f2.f4)) ∧ w'.cell? ⟨gb240, 7, none⟩ = some (.int .i64 ((rd_T34 l0 x36_2).f2.f5)) ∧ w'.cell? ⟨gb240, 8, none⟩ = some (.int .i64 ((rd_T34 l0 x36_2).f3.f0)) ∧ w'.cell? ⟨gb240, 9, none⟩ = some (.int .i64 ((rd_T34 l0 x36_2).f3.f1)) ∧ w'.cell? ⟨gb240, 10, none⟩ = some (.int .i64 ((rd_T34 l0 x36_2).f3.f2)) ∧ w'.cell? ⟨gb240, 11, none⟩ = some (.int .i64 ((rd_T34 l0 x36_2).f4))) (ds := [6]) #[false, false, false, false, false, false, false] (by kernel_rfl) rfl rfl ⟨(YI BK235.out 0).trans rfl, (YI BK235.out 1).trans rfl, (YI BK240.out 0).trans rfl, (YI BK240.out 1).trans rfl, (YI BK240.out 2).trans rfl, (YI BK240.out 3).trans rfl, (YI BK240.out 4).trans rfl, (YI BK240.out 5).trans rfl, (YI BK240.out 6).trans rfl, (YI BK240.out 7).trans rfl, (YI BK240.out 8).trans rfl, (YI BK240.out 9).trans rfl, (YI BK240.out 10).trans rfl, (YI BK240.out 11).trans rfl⟩ (fun hHeld => ?_)
       generalize w39.drew = w40 at HO248 BK235 BK240 HB hHeld ⊢
       refine pure_ (i := 0) (N := some 68) (v := ?_) (a' := ?_) #[true, false, false, false, false, false, false] rfl rfl (by kernel_rfl) (fun _ _ _ h => h) (Or.inl ⟨by rfl, ?_⟩) ?_ ?_
       rotate_left
       ·intro w'
        go_simp; with_reducible rfl
       rotate_left
       ·simp only [Act.put, YM, YN, YO, i64_w, i32_w]
        rfl
       refine take_ (i := 1) (N := some 69) (v := ?_) (a' := ?_) #[true, true, false, false, false, false, false] rfl rfl (by kernel_rfl) (fun _ _ _ h => h) (Or.inl ⟨by rfl, ?_⟩) hHeld ?_ ?_
       rotate_left
       ·rintro w' ⟨s0, s1, s2, s3, s4, s5, s6, s7, s8, s9, s10, s11, s12, s13⟩
        go_simp; with_reducible rfl
       rotate_left
       ·simp only [Act.put, YM, YN, YO, i64_w, i32_w]
        rfl
       refine take_ (i := 3) (N := some 71) (v := ?_) (a' := ?_) #[true, true, false, true, false, false, false] rfl rfl (by kernel_rfl) (fun _ _ _ h => h) (Or.inl ⟨by rfl, ?_⟩) hHeld ?_ ?_
       rotate_left
       ·rintro w' ⟨s0, s1, s2, s3, s4, s5, s6, s7, s8, s9, s10, s11, s12, s13⟩
        go_simp; with_reducible rfl
       rotate_left
       ·simp only [Act.put, YM, YN, YO, i64_w, i32_w]
        rfl
       refine join_ (σ := Value) 2 #[true, true, true, true, true, false, false] (fun s_ => [(70, .int .i64 t249), (72, s_)]) (fun s_ w' => (w'.cell? ⟨gb235, 0, none⟩ = some (.int .i64 x236000_2) ∧ w'.cell? ⟨gb235, 1, none⟩ = some (.slice Ao38 x236001_2.length co38) ∧ w'.cell? ⟨gb240, 0, none⟩ = some (.int .i64 ((rd_T34 l0 x36_2).f0)) ∧ w'.cell? ⟨gb240, 1, none⟩ = some (.int .i64 ((rd_T34 l0 x36_2).f1)) ∧ w'.cell? ⟨gb240, 2, none⟩ = some (.bool ((rd_T34 l0 x36_2).f2.f0)) ∧ w'.cell? ⟨gb240, 3, none⟩ = some (.int .i64 ((rd_T34 l0 x36_2).f2.f1)) ∧ w'.cell? ⟨gb240, 4, none⟩ = some (.int .i64 ((rd_T34 l0 x36_2).f2.f2)) ∧ w'.cell? ⟨gb240, 5, none⟩ = some (.int .i64 ((rd_T34 l0 x36_2).f2.f3)) ∧ w'.cell? ⟨gb240, 6, none⟩ = some (.int .i64 ((rd_T34 l0 x36_2).f2.f4)) ∧ w'.cell? ⟨gb240, 7, none⟩ = some (.int .i64 ((rd_T34 l0 x36_2).f2.f5)) ∧ w'.cell? ⟨gb240, 8, none⟩ = some (.int .i64 ((rd_T34 l0 x36_2).f3.f0)) ∧ w'.cell? ⟨gb240, 9, none⟩ = some (.int .i64 ((rd_T34 l0 x36_2).f3.f1)) ∧ w'.cell? ⟨gb240, 10, none⟩ = some (.int .i64 ((rd_T34 l0 x36_2).f3.f2)) ∧ w'.cell? ⟨gb240, 11, none⟩ = some (.int .i64 ((rd_T34 l0 x36_2).f4))) ∧ (Kd.S k48 48 w' w.heap.size (fun k_ => some k_ ≠ (s_ : Value).ownBlock ∧ k_ ≠ gb235 ∧ k_ ≠ gb240) v247 y246) ∧ (Kd.R k34 34 w' w.heap.size (fun k_ => k_ ≠ gb240) s_ y250) ∧ (w'.heap[gb235]? = some (.cells #[.int .i64 x236000_2, .slice Ao38 x236001_2.length co38] 48 (0, 0))) ∧ (w'.heap[gb240]? = some (.cells #[.int .i64 ((rd_T34 l0 x36_2).f0), .int .i64 ((rd_T34 l0 x36_2).f1), .bool ((rd_T34 l0 x36_2).f2.f0), .int .i64 ((rd_T34 l0 x36_2).f2.f1), .int .i64 ((rd_T34 l0 x36_2).f2.f2), .int .i64 ((rd_T34 l0 x36_2).f2.f3), .int .i64 ((rd_T34 l0 x36_2).f2.f4), .int .i64 ((rd_T34 l0 x36_2).f2.f5), .int .i64 ((rd_T34 l0 x36_2).f3.f0), .int .i64 ((rd_T34 l0 x36_2).f3.f1), .int .i64 ((rd_T34 l0 x36_2).f3.f2), .int .i64 ((rd_T34 l0 x36_2).f4)] 34 (0, 0))) ∧ (Below w.heap.size w w')) ?_ ?_
       rotate_left
       ·intro hCont
        refine two_ (i := 2) (j := 4) (Ni := some 70) (Nj := some 72) #[true, true, true, true, false, false, false] #[true, true, false, true, true, false, false] rfl rfl rfl rfl (by kernel_rfl) (by decide) (by decide) (fun K hK => ?_) (fun K hK => ?_)
        ·skip
         refine goes_ Try.func25 (by kernel_rfl) rfl #[.int .i64 x236000_2] (by rfl) rfl rfl (by (try simp only [YP, List.map_cons, List.map_nil]); first | done | rfl | (simp only [YR, YQ]; rfl)) ?_
         with_reducible refine (serial_Next.calls x236000_2 t249 _ A32.out).mono ?_
         rintro e w' ⟨rfl, ⟨nd, rfl⟩⟩
         refine ⟨_, rfl, ?_⟩
         refine hK.out _ _ ⟨(YI BK235.out 0).trans rfl, (YI BK235.out 1).trans rfl, (YI BK240.out 0).trans rfl, (YI BK240.out 1).trans rfl, (YI BK240.out 2).trans rfl, (YI BK240.out 3).trans rfl, (YI BK240.out 4).trans rfl, (YI BK240.out 5).trans rfl, (YI BK240.out 6).trans rfl, (YI BK240.out 7).trans rfl, (YI BK240.out 8).trans rfl, (YI BK240.out 9).trans rfl, (YI BK240.out 10).trans rfl, (YI BK240.out 11).trans rfl⟩ (fun hHeld => ?_)
         clear hK K
         refine norm_ (a' := ?_) ?_ ?_
         rotate_left
         ·show Act.put _ (some 70) _ = _
          simp only [Act.put, YM, YN, YO, i64_w, i32_w]
          rfl
         refine one_ (i := 4) (N := some 72) #[true, true, true, true, true, false, false] rfl rfl (by kernel_rfl) (by decide) (fun K hK => ?_)
         refine Kd.R_lit_step k34 _ 34 ?hg (N := 72) ?hd (xs := ([(⟨(rd_T34 l0 x36_2).f0, (rd_T34 l0 x36_2).f1, (⟨(rd_T34 l0 x36_2).f2.f0, (rd_T34 l0 x36_2).f2.f1, (rd_T34 l0 x36_2).f2.f2, (rd_T34 l0 x36_2).f2.f3, (rd_T34 l0 x36_2).f2.f4, (rd_T34 l0 x36_2).f2.f5⟩ : S30), (⟨(rd_T34 l0 x36_2).f3.f0, (rd_T34 l0 x36_2).f3.f1, (rd_T34 l0 x36_2).f3.f2⟩ : S32), (rd_T34 l0 x36_2).f4⟩ : S34)] : List (S34))) (inner := [.int .i64 ((rd_T34 l0 x36_2).f0), .int .i64 ((rd_T34 l0 x36_2).f1), .bool ((rd_T34 l0 x36_2).f2.f0), .int .i64 ((rd_T34 l0 x36_2).f2.f1), .int .i64 ((rd_T34 l0 x36_2).f2.f2), .int .i64 ((rd_T34 l0 x36_2).f2.f3), .int .i64 ((rd_T34 l0 x36_2).f2.f4), .int .i64 ((rd_T34 l0 x36_2).f2.f5), .int .i64 ((rd_T34 l0 x36_2).f3.f0), .int .i64 ((rd_T34 l0 x36_2).f3.f1), .int .i64 ((rd_T34 l0 x36_2).f3.f2), .int .i64 ((rd_T34 l0 x36_2).f4)]) (ok := fun _ => True) (okp := fun _ => True) ?hr ?hp (fun _ hk => hk) trivial (Below.refl _ _) (Nat.le_refl _) (by simp) ?_; (case hd => rfl); (case hg => rfl); (case hr => first | (go_simp; done) | (go_simp; rfl)); (case hp => exact (Reps.front (show Kd.M k34 _ _ _ (⟨(rd_T34 l0 x36_2).f0, (rd_T34 l0 x36_2).f1, (⟨(rd_T34 l0 x36_2).f2.f0, (rd_T34 l0 x36_2).f2.f1, (rd_T34 l0 x36_2).f2.f2, (rd_T34 l0 x36_2).f2.f3, (rd_T34 l0 x36_2).f2.f4, (rd_T34 l0 x36_2).f2.f5⟩ : S30), (⟨(rd_T34 l0 x36_2).f3.f0, (rd_T34 l0 x36_2).f3.f1, (rd_T34 l0 x36_2).f3.f2⟩ : S32), (rd_T34 l0 x36_2).f4⟩ : S34) [.int .i64 ((rd_T34 l0 x36_2).f0), .int .i64 ((rd_T34 l0 x36_2).f1), .bool ((rd_T34 l0 x36_2).f2.f0), .int .i64 ((rd_T34 l0 x36_2).f2.f1), .int .i64 ((rd_T34 l0 x36_2).f2.f2), .int .i64 ((rd_T34 l0 x36_2).f2.f3), .int .i64 ((rd_T34 l0 x36_2).f2.f4), .int .i64 ((rd_T34 l0 x36_2).f2.f5), .int .i64 ((rd_T34 l0 x36_2).f3.f0), .int .i64 ((rd_T34 l0 x36_2).f3.f1), .int .i64 ((rd_T34 l0 x36_2).f3.f2), .int .i64 ((rd_T34 l0 x36_2).f4)] from (k34_mkM _ _ _ (⟨(rd_T34 l0 x36_2).f0, (rd_T34 l0 x36_2).f1, (⟨(rd_T34 l0 x36_2).f2.f0, (rd_T34 l0 x36_2).f2.f1, (rd_T34 l0 x36_2).f2.f2, (rd_T34 l0 x36_2).f2.f3, (rd_T34 l0 x36_2).f2.f4, (rd_T34 l0 x36_2).f2.f5⟩ : S30), (⟨(rd_T34 l0 x36_2).f3.f0, (rd_T34 l0 x36_2).f3.f1, (rd_T34 l0 x36_2).f3.f2⟩ : S32), (rd_T34 l0 x36_2).f4⟩ : S34) )) rfl (Reps.none _ _) rfl))
         intro v251 w41 ho42 hb hg_ hnew_
         clear hg_ hnew_
         (first | rw [← Ny250.out] at ho42 | (simp only [Int.reduceToNat] at ho42; rw [← Ny250.out] at ho42))
         have n0_ := YL (Kd.S_elder' (by (with_reducible repeat (first | apply Kd.S_alloc | apply Kd.S_drewN | apply Kd.S_drew)); exact HO248.out) (Kd.R_base ho42) hb)
         have n1_ := YL (Kd.R_lower (Kd.R_newB ho42 (g := gb240) (o := .cells #[.int .i64 ((rd_T34 l0 x36_2).f0), .int .i64 ((rd_T34 l0 x36_2).f1), .bool ((rd_T34 l0 x36_2).f2.f0), .int .i64 ((rd_T34 l0 x36_2).f2.f1), .int .i64 ((rd_T34 l0 x36_2).f2.f2), .int .i64 ((rd_T34 l0 x36_2).f2.f3), .int .i64 ((rd_T34 l0 x36_2).f2.f4), .int .i64 ((rd_T34 l0 x36_2).f2.f5), .int .i64 ((rd_T34 l0 x36_2).f3.f0), .int .i64 ((rd_T34 l0 x36_2).f3.f1), .int .i64 ((rd_T34 l0 x36_2).f3.f2), .int .i64 ((rd_T34 l0 x36_2).f4)] 34 (0, 0)) (by (with_reducible repeat (first | refine YF ?_ _ | refine YG ?_ | refine YH ?_ _)); exact BK240.out)) (YE (by repeat (first | (with_reducible first | exact HB.out | apply YA | apply YB | apply YC | refine below_set ?_ GE235.out | refine below_set ?_ GE240.out) | exact HB.out))))
         have n2_ := YL (YK (g := gb235) (o := .cells #[.int .i64 x236000_2, .slice Ao38 x236001_2.length co38] 48 (0, 0)) (by (with_reducible repeat (first | refine YF ?_ _ | refine YG ?_ | refine YH ?_ _)); exact BK235.out) hb)
         have n3_ := YL (YK (g := gb240) (o := .cells #[.int .i64 ((rd_T34 l0 x36_2).f0), .int .i64 ((rd_T34 l0 x36_2).f1), .bool ((rd_T34 l0 x36_2).f2.f0), .int .i64 ((rd_T34 l0 x36_2).f2.f1), .int .i64 ((rd_T34 l0 x36_2).f2.f2), .int .i64 ((rd_T34 l0 x36_2).f2.f3), .int .i64 ((rd_T34 l0 x36_2).f2.f4), .int .i64 ((rd_T34 l0 x36_2).f2.f5), .int .i64 ((rd_T34 l0 x36_2).f3.f0), .int .i64 ((rd_T34 l0 x36_2).f3.f1), .int .i64 ((rd_T34 l0 x36_2).f3.f2), .int .i64 ((rd_T34 l0 x36_2).f4)] 34 (0, 0)) (by (with_reducible repeat (first | refine YF ?_ _ | refine YG ?_ | refine YH ?_ _)); exact BK240.out) hb)
         have n4_ := YL (YD (by repeat (first | (with_reducible first | exact HB.out | apply YA | apply YB | apply YC | refine below_set ?_ GE235.out | refine below_set ?_ GE240.out) | exact HB.out)) hb)
         clear HO248; clear BK235; clear BK240; clear HB; have HO248 := n0_; have HO252 := n1_; have BK235 := n2_; have BK240 := n3_; have HB := n4_; clear n0_ n1_ n2_ n3_ n4_; clear hb ho42
         obtain ⟨Ao43, co43, eo43⟩ := Kd.R_slice HO252.out
         (first | subst eo43 | (injection eo43 with f1_ f2_ f3_; have f4_ := f1_.symm; have f5_ := f3_.symm; clear f1_ f2_ f3_; subst f4_; subst f5_))
         refine hK.out _ _ ⟨(YI BK235.out 0).trans rfl, (YI BK235.out 1).trans rfl, (YI BK240.out 0).trans rfl, (YI BK240.out 1).trans rfl, (YI BK240.out 2).trans rfl, (YI BK240.out 3).trans rfl, (YI BK240.out 4).trans rfl, (YI BK240.out 5).trans rfl, (YI BK240.out 6).trans rfl, (YI BK240.out 7).trans rfl, (YI BK240.out 8).trans rfl, (YI BK240.out 9).trans rfl, (YI BK240.out 10).trans rfl, (YI BK240.out 11).trans rfl⟩ (fun hHeld => ?_)
         clear hK K
         refine norm_ (a' := ?_) ?_ ?_
         rotate_left
         ·show Act.put _ (some 72) _ = _
          simp only [Act.put, YM, YN, YO, i64_w, i32_w]
          rfl
         exact norm_ (by simp only [putAll, Act.put, YM, YN, YO]) (hCont (.slice Ao43 y250.length co43) _ ⟨hHeld, (by (with_reducible repeat (first | apply Kd.S_alloc | apply Kd.S_drewN | apply Kd.S_drew)); exact Kd.S_mono HO248.out (fun _ hk => by first | exact ⟨hk.2, ⟨hk.1.1, hk.1.2⟩⟩ | exact trivial | (simp [hk]; done) | simp_all)), (by (with_reducible repeat (first | apply YS | apply YT | apply YU)); exact Kd.R_mono HO252.out (fun _ hk => by first | exact hk.2 | exact trivial | (simp [hk]; done) | simp_all)), (by (with_reducible repeat (first | refine YF ?_ _ | refine YG ?_ | refine YH ?_ _)); exact BK235.out), (by (with_reducible repeat (first | refine YF ?_ _ | refine YG ?_ | refine YH ?_ _)); exact BK240.out), (by repeat (first | (with_reducible first | exact HB.out | apply YA | apply YB | apply YC | refine below_set ?_ GE235.out | refine below_set ?_ GE240.out) | exact HB.out))⟩)
        skip
        refine Kd.R_lit_step k34 _ 34 ?hg (N := 72) ?hd (xs := ([(⟨(rd_T34 l0 x36_2).f0, (rd_T34 l0 x36_2).f1, (⟨(rd_T34 l0 x36_2).f2.f0, (rd_T34 l0 x36_2).f2.f1, (rd_T34 l0 x36_2).f2.f2, (rd_T34 l0 x36_2).f2.f3, (rd_T34 l0 x36_2).f2.f4, (rd_T34 l0 x36_2).f2.f5⟩ : S30), (⟨(rd_T34 l0 x36_2).f3.f0, (rd_T34 l0 x36_2).f3.f1, (rd_T34 l0 x36_2).f3.f2⟩ : S32), (rd_T34 l0 x36_2).f4⟩ : S34)] : List (S34))) (inner := [.int .i64 ((rd_T34 l0 x36_2).f0), .int .i64 ((rd_T34 l0 x36_2).f1), .bool ((rd_T34 l0 x36_2).f2.f0), .int .i64 ((rd_T34 l0 x36_2).f2.f1), .int .i64 ((rd_T34 l0 x36_2).f2.f2), .int .i64 ((rd_T34 l0 x36_2).f2.f3), .int .i64 ((rd_T34 l0 x36_2).f2.f4), .int .i64 ((rd_T34 l0 x36_2).f2.f5), .int .i64 ((rd_T34 l0 x36_2).f3.f0), .int .i64 ((rd_T34 l0 x36_2).f3.f1), .int .i64 ((rd_T34 l0 x36_2).f3.f2), .int .i64 ((rd_T34 l0 x36_2).f4)]) (ok := fun _ => True) (okp := fun _ => True) ?hr ?hp (fun _ hk => hk) trivial (Below.refl _ _) (Nat.le_refl _) (by simp) ?_; (case hd => rfl); (case hg => rfl); (case hr => first | (go_simp; done) | (go_simp; rfl)); (case hp => exact (Reps.front (show Kd.M k34 _ _ _ (⟨(rd_T34 l0 x36_2).f0, (rd_T34 l0 x36_2).f1, (⟨(rd_T34 l0 x36_2).f2.f0, (rd_T34 l0 x36_2).f2.f1, (rd_T34 l0 x36_2).f2.f2, (rd_T34 l0 x36_2).f2.f3, (rd_T34 l0 x36_2).f2.f4, (rd_T34 l0 x36_2).f2.f5⟩ : S30), (⟨(rd_T34 l0 x36_2).f3.f0, (rd_T34 l0 x36_2).f3.f1, (rd_T34 l0 x36_2).f3.f2⟩ : S32), (rd_T34 l0 x36_2).f4⟩ : S34) [.int .i64 ((rd_T34 l0 x36_2).f0), .int .i64 ((rd_T34 l0 x36_2).f1), .bool ((rd_T34 l0 x36_2).f2.f0), .int .i64 ((rd_T34 l0 x36_2).f2.f1), .int .i64 ((rd_T34 l0 x36_2).f2.f2), .int .i64 ((rd_T34 l0 x36_2).f2.f3), .int .i64 ((rd_T34 l0 x36_2).f2.f4), .int .i64 ((rd_T34 l0 x36_2).f2.f5), .int .i64 ((rd_T34 l0 x36_2).f3.f0), .int .i64 ((rd_T34 l0 x36_2).f3.f1), .int .i64 ((rd_T34 l0 x36_2).f3.f2), .int .i64 ((rd_T34 l0 x36_2).f4)] from (k34_mkM _ _ _ (⟨(rd_T34 l0 x36_2).f0, (rd_T34 l0 x36_2).f1, (⟨(rd_T34 l0 x36_2).f2.f0, (rd_T34 l0 x36_2).f2.f1, (rd_T34 l0 x36_2).f2.f2, (rd_T34 l0 x36_2).f2.f3, (rd_T34 l0 x36_2).f2.f4, (rd_T34 l0 x36_2).f2.f5⟩ : S30), (⟨(rd_T34 l0 x36_2).f3.f0, (rd_T34 l0 x36_2).f3.f1, (rd_T34 l0 x36_2).f3.f2⟩ : S32), (rd_T34 l0 x36_2).f4⟩ : S34) )) rfl (Reps.none _ _) rfl))
        intro v251 w41 ho42 hb hg_ hnew_
        clear hg_ hnew_
        (first | rw [← Ny250.out] at ho42 | (simp only [Int.reduceToNat] at ho42; rw [← Ny250.out] at ho42))
        have n0_ := YL (Kd.S_elder' (by (with_reducible repeat (first | apply Kd.S_alloc | apply Kd.S_drewN | apply Kd.S_drew)); exact HO248.out) (Kd.R_base ho42) hb)
        have n1_ := YL (Kd.R_lower (Kd.R_newB ho42 (g := gb240) (o := .cells #[.int .i64 ((rd_T34 l0 x36_2).f0), .int .i64 ((rd_T34 l0 x36_2).f1), .bool ((rd_T34 l0 x36_2).f2.f0), .int .i64 ((rd_T34 l0 x36_2).f2.f1), .int .i64 ((rd_T34 l0 x36_2).f2.f2), .int .i64 ((rd_T34 l0 x36_2).f2.f3), .int .i64 ((rd_T34 l0 x36_2).f2.f4), .int .i64 ((rd_T34 l0 x36_2).f2.f5), .int .i64 ((rd_T34 l0 x36_2).f3.f0), .int .i64 ((rd_T34 l0 x36_2).f3.f1), .int .i64 ((rd_T34 l0 x36_2).f3.f2), .int .i64 ((rd_T34 l0 x36_2).f4)] 34 (0, 0)) (by (with_reducible repeat (first | refine YF ?_ _ | refine YG ?_ | refine YH ?_ _)); exact BK240.out)) (YE (by repeat (first | (with_reducible first | exact HB.out | apply YA | apply YB | apply YC | refine below_set ?_ GE235.out | refine below_set ?_ GE240.out) | exact HB.out))))
        have n2_ := YL (YK (g := gb235) (o := .cells #[.int .i64 x236000_2, .slice Ao38 x236001_2.length co38] 48 (0, 0)) (by (with_reducible repeat (first | refine YF ?_ _ | refine YG ?_ | refine YH ?_ _)); exact BK235.out) hb)
        have n3_ := YL (YK (g := gb240) (o := .cells #[.int .i64 ((rd_T34 l0 x36_2).f0), .int .i64 ((rd_T34 l0 x36_2).f1), .bool ((rd_T34 l0 x36_2).f2.f0), .int .i64 ((rd_T34 l0 x36_2).f2.f1), .int .i64 ((rd_T34 l0 x36_2).f2.f2), .int .i64 ((rd_T34 l0 x36_2).f2.f3), .int .i64 ((rd_T34 l0 x36_2).f2.f4), .int .i64 ((rd_T34 l0 x36_2).f2.f5), .int .i64 ((rd_T34 l0 x36_2).f3.f0), .int .i64 ((rd_T34 l0 x36_2).f3.f1), .int .i64 ((rd_T34 l0 x36_2).f3.f2), .int .i64 ((rd_T34 l0 x36_2).f4)] 34 (0, 0)) (by (with_reducible repeat (first | refine YF ?_ _ | refine YG ?_ | refine YH ?_ _)); exact BK240.out) hb)
        have n4_ := YL (YD (by repeat (first | (with_reducible first | exact HB.out | apply YA | apply YB | apply YC | refine below_set ?_ GE235.out | refine below_set ?_ GE240.out) | exact HB.out)) hb)
        clear HO248; clear BK235; clear BK240; clear HB; have HO248 := n0_; have HO252 := n1_; have BK235 := n2_; have BK240 := n3_; have HB := n4_; clear n0_ n1_ n2_ n3_ n4_; clear hb ho42
        refine hK.out _ _ ⟨(YI BK235.out 0).trans rfl, (YI BK235.out 1).trans rfl, (YI BK240.out 0).trans rfl, (YI BK240.out 1).trans rfl, (YI BK240.out 2).trans rfl, (YI BK240.out 3).trans rfl, (YI BK240.out 4).trans rfl, (YI BK240.out 5).trans rfl, (YI BK240.out 6).trans rfl, (YI BK240.out 7).trans rfl, (YI BK240.out 8).trans rfl, (YI BK240.out 9).trans rfl, (YI BK240.out 10).trans rfl, (YI BK240.out 11).trans rfl⟩ (fun hHeld => ?_)
        clear hK K
        refine norm_ (a' := ?_) ?_ ?_
        rotate_left
        ·show Act.put _ (some 72) _ = _
         simp only [Act.put, YM, YN, YO, i64_w, i32_w]
         rfl
        refine one_ (i := 2) (N := some 70) #[true, true, true, true, true, false, false] rfl rfl (by kernel_rfl) (by decide) (fun K hK => ?_)
        refine goes_ Try.func25 (by kernel_rfl) rfl #[.int .i64 x236000_2] (by rfl) rfl rfl (by (try simp only [YP, List.map_cons, List.map_nil]); first | done | rfl | (simp only [YR, YQ]; rfl)) ?_
        with_reducible refine (serial_Next.calls x236000_2 t249 _ A32.out).mono ?_
        rintro e w' ⟨rfl, ⟨nd, rfl⟩⟩
        refine ⟨_, rfl, ?_⟩
        obtain ⟨Ao43, co43, eo43⟩ := Kd.R_slice HO252.out
        (first | subst eo43 | (injection eo43 with f1_ f2_ f3_; have f4_ := f1_.symm; have f5_ := f3_.symm; clear f1_ f2_ f3_; subst f4_; subst f5_))
        refine hK.out _ _ ⟨(YI BK235.out 0).trans rfl, (YI BK235.out 1).trans rfl, (YI BK240.out 0).trans rfl, (YI BK240.out 1).trans rfl, (YI BK240.out 2).trans rfl, (YI BK240.out 3).trans rfl, (YI BK240.out 4).trans rfl, (YI BK240.out 5).trans rfl, (YI BK240.out 6).trans rfl, (YI BK240.out 7).trans rfl, (YI BK240.out 8).trans rfl, (YI BK240.out 9).trans rfl, (YI BK240.out 10).trans rfl, (YI BK240.out 11).trans rfl⟩ (fun hHeld => ?_)
        clear hK K
        refine norm_ (a' := ?_) ?_ ?_
        rotate_left
        ·show Act.put _ (some 70) _ = _
         simp only [Act.put, YM, YN, YO, i64_w, i32_w]
         rfl
        exact norm_ (by simp only [putAll, Act.put, YM, YN, YO]) (hCont (.slice Ao43 y250.length co43) _ ⟨hHeld, (by (with_reducible repeat (first | apply Kd.S_alloc | apply Kd.S_drewN | apply Kd.S_drew)); exact Kd.S_mono HO248.out (fun _ hk => by first | exact ⟨hk.2, ⟨hk.1.1, hk.1.2⟩⟩ | exact trivial | (simp [hk]; done) | simp_all)), (by (with_reducible repeat (first | apply YS | apply YT | apply YU)); exact Kd.R_mono HO252.out (fun _ hk => by first | exact hk.2 | exact trivial | (simp [hk]; done) | simp_all)), (by (with_reducible repeat (first | refine YF ?_ _ | refine YG ?_ | refine YH ?_ _)); exact BK235.out), (by (with_reducible repeat (first | refine YF ?_ _ | refine YG ?_ | refine YH ?_ _)); exact BK240.out), (by repeat (first | (with_reducible first | exact HB.out | apply YA | apply YB | apply YC | refine below_set ?_ GE235.out | refine below_set ?_ GE240.out) | exact HB.out))⟩)
       rintro v251 w44 ⟨hS_, h0_, h1_, h2_, h3_, h4_⟩
       have n0_ : Aside0 (Kd.S k48 48 w44 w.heap.size (fun k_ => some k_ ≠ (v251 : Value).ownBlock ∧ k_ ≠ gb235 ∧ k_ ≠ gb240) v247 y246) := ⟨h0_⟩
       have n1_ : Aside0 (Kd.R k34 34 w44 w.heap.size (fun k_ => k_ ≠ gb240) v251 y250) := ⟨h1_⟩
       have n2_ : Aside0 (w44.heap[gb235]? = some (.cells #[.int .i64 x236000_2, .slice Ao38 x236001_2.length co38] 48 (0, 0))) := ⟨h2_⟩
       have n3_ : Aside0 (w44.heap[gb240]? = some (.cells #[.int .i64 ((rd_T34 l0 x36_2).f0), .int .i64 ((rd_T34 l0 x36_2).f1), .bool ((rd_T34 l0 x36_2).f2.f0), .int .i64 ((rd_T34 l0 x36_2).f2.f1), .int .i64 ((rd_T34 l0 x36_2).f2.f2), .int .i64 ((rd_T34 l0 x36_2).f2.f3), .int .i64 ((rd_T34 l0 x36_2).f2.f4), .int .i64 ((rd_T34 l0 x36_2).f2.f5), .int .i64 ((rd_T34 l0 x36_2).f3.f0), .int .i64 ((rd_T34 l0 x36_2).f3.f1), .int .i64 ((rd_T34 l0 x36_2).f3.f2), .int .i64 ((rd_T34 l0 x36_2).f4)] 34 (0, 0))) := ⟨h3_⟩
       have n4_ : Aside0 (Below w.heap.size w w44) := ⟨h4_⟩
       clear HO248; clear BK235; clear BK240; clear HB; clear h0_ h1_ h2_ h3_ h4_; have HO248 := n0_; have HO252 := n1_; have BK235 := n2_; have BK240 := n3_; have HB := n4_; clear n0_ n1_ n2_ n3_ n4_
       have hHeld : w44.cell? ⟨gb235, 0, none⟩ = some (.int .i64 x236000_2) ∧ w44.cell? ⟨gb235, 1, none⟩ = some (.slice Ao38 x236001_2.length co38) ∧ w44.cell? ⟨gb240, 0, none⟩ = some (.int .i64 ((rd_T34 l0 x36_2).f0)) ∧ w44.cell? ⟨gb240, 1, none⟩ = some (.int .i64 ((rd_T34 l0 x36_2).f1)) ∧ w44.cell? ⟨gb240, 2, none⟩ = some (.bool ((rd_T34 l0 x36_2).f2.f0)) ∧ w44.cell? ⟨gb240, 3, none⟩ = some (.int .i64 ((rd_T34 l0 x36_2).f2.f1)) ∧ w44.cell? ⟨gb240, 4, none⟩ = some (.int .i64 ((rd_T34 l0 x36_2).f2.f2)) ∧ w44.cell? ⟨gb240, 5, none⟩ = some (.int .i64 ((rd_T34 l0 x36_2).f2.f3)) ∧ w44.cell? ⟨gb240, 6, none⟩ = some (.int .i64 ((rd_T34 l0 x36_2).f2.f4)) ∧ w44.cell? ⟨gb240, 7, none⟩ = some (.int .i64 ((rd_T34 l0 x36_2).f2.f5)) ∧ w44.cell? ⟨gb240, 8, none⟩ = some (.int .i64 ((rd_T34 l0 x36_2).f3.f0)) ∧ w44.cell? ⟨gb240, 9, none⟩ = some (.int .i64 ((rd_T34 l0 x36_2).f3.f1)) ∧ w44.cell? ⟨gb240, 10, none⟩ = some (.int .i64 ((rd_T34 l0 x36_2).f3.f2)) ∧ w44.cell? ⟨gb240, 11, none⟩ = some (.int .i64 ((rd_T34 l0 x36_2).f4)) := hS_
       obtain ⟨Ao45, co45, eo45⟩ := Kd.R_slice HO252.out
       (first | subst eo45 | (injection eo45 with f1_ f2_ f3_; have f4_ := f1_.symm; have f5_ := f3_.symm; clear f1_ f2_ f3_; subst f4_; subst f5_))
       refine norm_ (a' := ?_) ?_ ?_
       rotate_left
       ·simp only [putAll, Act.put, YM, YN, YO]
        rfl
       refine pure_ (i := 5) (N := some 73) (v := ?_) (a' := ?_) #[true, true, true, true, true, true, false] rfl rfl (by kernel_rfl) (fun _ _ _ h => h) (Or.inl ⟨by rfl, ?_⟩) ?_ ?_
       rotate_left
       ·intro w'
        go_simp; with_reducible rfl
       rotate_left
       ·simp only [Act.put, YM, YN, YO, i64_w, i32_w]
        rfl
       refine last_ (i := 6) (N := none) #[true, true, true, true, true, true, true] rfl rfl (by kernel_rfl) (by decide) (fun K hK => ?_)
       have hs46 : w44.cell? ⟨gb235, 0, none⟩ = some (.int .i64 x236000_2) := (YI BK235.out 0).trans rfl
       have hfs46 := YJ BK235.out 0
       have hns46_1 := NB240_235.out
       have hms46_1 := NB235_240.out
       have hs47 : w44.cell? ⟨gb235, 1, none⟩ = some (.slice Ao38 x236001_2.length co38) := (YI BK235.out 1).trans rfl
       have hfs47 := YJ BK235.out 1
       have hns47_1 := NB240_235.out
       have hms47_1 := NB235_240.out
       refine skip_ (w1 := ?_) (by rfl) rfl ?_ ?_
       rotate_left
       ·go_simp
        rfl
       refine hK.out _ _ ?_
       clear hK K
       refine done_ (by kernel_rfl) ?_
       try go_wp2_with (go_step3)
       go_roundg k2
       case measure => have := HJ3.out; have := HK2.out; omega
       case rel => exact ⟨(y246), (wrap64 ((wrap64 (a2 - 3)) - t241)), (wrap64 (x36_2 + 1)), (t249), (y250), (.slice Ao45 y250.length co45), (by first | rfl | (simp; done) | (simp [*]; done)), (by first | rfl | (simp; done) | (simp [*]; done)), H', ⟨by have := HJ3.out; have := HK2.out; omega⟩, ⟨by (with_reducible repeat (first | apply Kd.S_alloc | apply Kd.S_drewN | apply Kd.S_drew)); exact Kd.S_mono (Kd.S_far (p := ⟨gb235, 1, none⟩) (Kd.S_far (p := ⟨gb235, 0, none⟩) (Kd.S_mono HO248.out (fun k_ hk => (⟨hk, hk.2.1⟩ : _ ∧ k_ ≠ gb235))) (fun _ hk => hk.2) (.int .i64 t249)) (fun _ hk => hk.2) (.slice Ao45 y250.length co45)) (fun _ hk => ⟨hk.1.1, hk.1.2.1⟩)⟩, ⟨by (with_reducible repeat (first | apply YS | apply YT | apply YU)); exact Kd.R_mono (Kd.R_far (p := ⟨gb235, 1, none⟩) (Kd.R_far (p := ⟨gb235, 0, none⟩) (Kd.R_types HO252.out BK235.out (by decide)) (fun _ hk => hk.2) (.int .i64 t249)) (fun _ hk => hk.2) (.slice Ao45 y250.length co45)) (fun _ hk => trivial)⟩, ⟨by (with_reducible repeat (first | refine YF ?_ _ | refine YG ?_ | refine YH ?_ _)); refine blk_put (cs := #[.int .i64 t249, .slice Ao38 x236001_2.length co38]) ?_ 1 _ rfl; (with_reducible repeat (first | refine YF ?_ _ | refine YG ?_ | refine YH ?_ _)); refine blk_put (cs := #[.int .i64 x236000_2, .slice Ao38 x236001_2.length co38]) ?_ 0 _ rfl; (with_reducible repeat (first | refine YF ?_ _ | refine YG ?_ | refine YH ?_ _)); exact BK235.out⟩, ⟨by repeat (first | (with_reducible first | exact HB.out | apply YA | apply YB | apply YC | refine below_set ?_ GE235.out | refine below_set ?_ GE240.out) | exact HB.out)⟩⟩
      rw [if_neg c17] at H; have c17b0 : decide (t241 ≤ x10_2) = false := decide_eq_false c17; clear c17
      by_cases c48 : x8_2.length < 4398046511104
      rotate_left
      ·rw [if_neg c48] at H
       exact absurd H (by simp)
      rw [if_pos c48] at H; have LMc48 := YL c48; clear c48
      obtain ⟨y253, hy253⟩ : ∃ y_ : List (S48), y_ = (x8_2 ++ [(⟨x236000_2, x236001_2⟩ : S48)]) := ⟨_, rfl⟩
      replace H : ((serial_Next.f x236000_2).bind fun t256 => (batch_Pack.l0 k2 l0 a2 y253 (wrap64 ((wrap64 (a2 - 3)) - t241)) l0 (l0.length : Int) (wrap64 (x36_2 + 1)) t256 (([(⟨(rd_T34 l0 x36_2).f0, (rd_T34 l0 x36_2).f1, (⟨(rd_T34 l0 x36_2).f2.f0, (rd_T34 l0 x36_2).f2.f1, (rd_T34 l0 x36_2).f2.f2, (rd_T34 l0 x36_2).f2.f3, (rd_T34 l0 x36_2).f2.f4, (rd_T34 l0 x36_2).f2.f5⟩ : S30), (⟨(rd_T34 l0 x36_2).f3.f0, (rd_T34 l0 x36_2).f3.f1, (rd_T34 l0 x36_2).f3.f2⟩ : S32), (rd_T34 l0 x36_2).f4⟩ : S34)] : List (S34))))) = some (r1, r2) := by first | (rw [hy253]; with_reducible exact H) | (have H2_ := (Option.bind_some _ _).symm.trans H; rw [hy253]; with_reducible exact H2_) | (have H2_ := (Option.bind_some _ _).symm.trans H; with_reducible exact H2_) | with_reducible exact H | (rw [hy253]; exact H) | exact H
      have Ny253 := YL hy253; clear hy253; replace H := Option.bind_eq_some_iff.mp H; obtain ⟨t256, A490, H⟩ := H
      replace H : (batch_Pack.l0 k2 l0 a2 y253 (wrap64 ((wrap64 (a2 - 3)) - t241)) l0 (l0.length : Int) (wrap64 (x36_2 + 1)) t256 (([(⟨(rd_T34 l0 x36_2).f0, (rd_T34 l0 x36_2).f1, (⟨(rd_T34 l0 x36_2).f2.f0, (rd_T34 l0 x36_2).f2.f1, (rd_T34 l0 x36_2).f2.f2, (rd_T34 l0 x36_2).f2.f3, (rd_T34 l0 x36_2).f2.f4, (rd_T34 l0 x36_2).f2.f5⟩ : S30), (⟨(rd_T34 l0 x36_2).f3.f0, (rd_T34 l0 x36_2).f3.f1, (rd_T34 l0 x36_2).f3.f2⟩ : S32), (rd_T34 l0 x36_2).f4⟩ : S34)] : List (S34)))) = some (r1, r2) := H
      have A49 := YL A490; clear A490
      obtain ⟨y257, hy257⟩ : ∃ y_ : List (S34), y_ = (([(⟨(rd_T34 l0 x36_2).f0, (rd_T34 l0 x36_2).f1, (⟨(rd_T34 l0 x36_2).f2.f0, (rd_T34 l0 x36_2).f2.f1, (rd_T34 l0 x36_2).f2.f2, (rd_T34 l0 x36_2).f2.f3, (rd_T34 l0 x36_2).f2.f4, (rd_T34 l0 x36_2).f2.f5⟩ : S30), (⟨(rd_T34 l0 x36_2).f3.f0, (rd_T34 l0 x36_2).f3.f1, (rd_T34 l0 x36_2).f3.f2⟩ : S32), (rd_T34 l0 x36_2).f4⟩ : S34)] : List (S34))) := ⟨_, rfl⟩
      replace H : (batch_Pack.l0 k2 l0 a2 y253 (wrap64 ((wrap64 (a2 - 3)) - t241)) l0 (l0.length : Int) (wrap64 (x36_2 + 1)) t256 y257) = some (r1, r2) := by first | (rw [hy257]; with_reducible exact H) | (have H2_ := (Option.bind_some _ _).symm.trans H; rw [hy257]; with_reducible exact H2_) | (have H2_ := (Option.bind_some _ _).symm.trans H; with_reducible exact H2_) | with_reducible exact H | (rw [hy257]; exact H) | exact H
      have Ny257 := YL hy257; clear hy257
      have H' := YL H
      clear H
      have p239 : 0 ≤ (x36_2 : Int) := of_decide_eq_true (by first | (with_reducible assumption) | assumption)
      have q239 : x36_2 < (l0.length : Int) := of_decide_eq_true (by first | (with_reducible assumption) | assumption)
      obtain ⟨ad239, e239, hx239_0, hx239_1, hx239_2, hx239_3, hx239_4, hx239_5, hx239_6, hx239_7, hx239_8, hx239_9, hx239_10, hx239_11⟩ := at_T34 HR0.out x36_2 p239 q239
      cases e239
      replace hx239_0 := (HB.out.cell (World.block_lt_of_cell? w _ hx239_0)).trans hx239_0
      replace hx239_1 := (HB.out.cell (World.block_lt_of_cell? w _ hx239_1)).trans hx239_1
      replace hx239_2 := (HB.out.cell (World.block_lt_of_cell? w _ hx239_2)).trans hx239_2
      replace hx239_3 := (HB.out.cell (World.block_lt_of_cell? w _ hx239_3)).trans hx239_3
      replace hx239_4 := (HB.out.cell (World.block_lt_of_cell? w _ hx239_4)).trans hx239_4
      replace hx239_5 := (HB.out.cell (World.block_lt_of_cell? w _ hx239_5)).trans hx239_5
      replace hx239_6 := (HB.out.cell (World.block_lt_of_cell? w _ hx239_6)).trans hx239_6
      replace hx239_7 := (HB.out.cell (World.block_lt_of_cell? w _ hx239_7)).trans hx239_7
      replace hx239_8 := (HB.out.cell (World.block_lt_of_cell? w _ hx239_8)).trans hx239_8
      replace hx239_9 := (HB.out.cell (World.block_lt_of_cell? w _ hx239_9)).trans hx239_9
      replace hx239_10 := (HB.out.cell (World.block_lt_of_cell? w _ hx239_10)).trans hx239_10
      replace hx239_11 := (HB.out.cell (World.block_lt_of_cell? w _ hx239_11)).trans hx239_11
      replace p239 := eq_true p239
      replace q239 := eq_true q239
      try go_wp2_with (first | go_step3 | ((with_reducible refine gate_dst (N := 12) rfl ?_); (try (refine gate_guard (by rfl) ?_; dsimp only)); refine box_event ?hg (N := 12) ?hd (cs := #[.int .i64 0, .int .i64 0, .bool false, .int .i64 0, .int .i64 0, .int .i64 0, .int .i64 0, .int .i64 0, .int .i64 0, .int .i64 0, .int .i64 0, .int .i64 0]) (t := 34) ?hr ?_; (case hd => rfl); (case hg => rfl); (case hr => first | (go_simp; done) | (go_simp; rfl)); intro gb240 hg w50 hbox hb; have n0_ := YL (Kd.S_below (Kd.S_elderB (by (with_reducible repeat (first | apply Kd.S_alloc | apply Kd.S_drewN | apply Kd.S_drew)); exact HO_8.out) gb240 (Nat.le_of_eq hg.symm)) hb); have n1_ := YL (YV (Kd.R_elderB (by (with_reducible repeat (first | apply YS | apply YT | apply YU)); exact HO_236001.out) gb240 (Nat.le_of_eq hg.symm)) hb); have n2_ := YL (YK (g := gb235) (o := .cells #[.int .i64 x236000_2, u236001] 48 (0, 0)) (by (with_reducible repeat (first | refine YF ?_ _ | refine YG ?_ | refine YH ?_ _)); exact BK235.out) hb); have n3_ := YL (YD (by repeat (first | (with_reducible first | exact HB.out | apply YA | apply YB | apply YC | refine below_set ?_ GE235.out) | exact HB.out)) hb); have n4_ := YL (hbox); have n5_ := YL ((by rw [hg]; exact (YE (by repeat (first | (with_reducible first | exact HB.out | apply YA | apply YB | apply YC | refine below_set ?_ GE235.out) | exact HB.out))) : w.heap.size ≤ gb240)); have n6_ := YL ((by rw [hg]; exact (YE (by repeat (first | (with_reducible first | exact HB.out | apply YA | apply YB | apply YC | refine below_set ?_ GE235.out) | exact HB.out))) : w.heap.size ≤ gb240)); have n7_ := YL ((by rw [hg]; exact Nat.ne_of_lt (blk_lt (g := gb235) (o := .cells #[.int .i64 x236000_2, u236001] 48 (0, 0)) (by (with_reducible repeat (first | refine YF ?_ _ | refine YG ?_ | refine YH ?_ _)); exact BK235.out)) : gb235 ≠ gb240)); have n8_ := YL ((by rw [hg]; exact Nat.ne_of_gt (blk_lt (g := gb235) (o := .cells #[.int .i64 x236000_2, u236001] 48 (0, 0)) (by (with_reducible repeat (first | refine YF ?_ _ | refine YG ?_ | refine YH ?_ _)); exact BK235.out)) : gb240 ≠ gb235)); clear HO_8; clear HO_236001; clear BK235; clear HB; have HO_8 := n0_; have HO_236001 := n1_; have BK235 := n2_; have HB := n3_; have BK240 := n4_; have GW240 := n5_; have GE240 := n6_; have NB235_240 := n7_; have NB240_235 := n8_; clear n0_ n1_ n2_ n3_ n4_ n5_ n6_ n7_ n8_; clear hb hbox hg; have hnb51 := NB240_235.out; have hnc51 := NB235_240.out; have q52_0 : w50.cell? ⟨gb240, 0, none⟩ = some (.int .i64 0) := (YI BK240.out 0).trans rfl; have q52_1 : w50.cell? ⟨gb240, 1, none⟩ = some (.int .i64 0) := (YI BK240.out 1).trans rfl; have q52_2 : w50.cell? ⟨gb240, 2, none⟩ = some (.bool false) := (YI BK240.out 2).trans rfl; have q52_3 : w50.cell? ⟨gb240, 3, none⟩ = some (.int .i64 0) := (YI BK240.out 3).trans rfl; have q52_4 : w50.cell? ⟨gb240, 4, none⟩ = some (.int .i64 0) := (YI BK240.out 4).trans rfl; have q52_5 : w50.cell? ⟨gb240, 5, none⟩ = some (.int .i64 0) := (YI BK240.out 5).trans rfl; have q52_6 : w50.cell? ⟨gb240, 6, none⟩ = some (.int .i64 0) := (YI BK240.out 6).trans rfl; have q52_7 : w50.cell? ⟨gb240, 7, none⟩ = some (.int .i64 0) := (YI BK240.out 7).trans rfl; have q52_8 : w50.cell? ⟨gb240, 8, none⟩ = some (.int .i64 0) := (YI BK240.out 8).trans rfl; have q52_9 : w50.cell? ⟨gb240, 9, none⟩ = some (.int .i64 0) := (YI BK240.out 9).trans rfl; have q52_10 : w50.cell? ⟨gb240, 10, none⟩ = some (.int .i64 0) := (YI BK240.out 10).trans rfl; have q52_11 : w50.cell? ⟨gb240, 11, none⟩ = some (.int .i64 0) := (YI BK240.out 11).trans rfl; have f52_0 := YJ BK240.out 0; have f52_1 := YJ BK240.out 1; have f52_2 := YJ BK240.out 2; have f52_3 := YJ BK240.out 3; have f52_4 := YJ BK240.out 4; have f52_5 := YJ BK240.out 5; have f52_6 := YJ BK240.out 6; have f52_7 := YJ BK240.out 7; have f52_8 := YJ BK240.out 8; have f52_9 := YJ BK240.out 9; have f52_10 := YJ BK240.out 10; have f52_11 := YJ BK240.out 11) | ((with_reducible refine gate_callee (f := 52) rfl ?_); refine goesL_ (some 42) rfl rfl Try.func52 (by kernel_rfl) rfl #[.agg #[.int .i64 ((rd_T34 l0 x36_2).f0), .int .i64 ((rd_T34 l0 x36_2).f1), .bool ((rd_T34 l0 x36_2).f2.f0), .int .i64 ((rd_T34 l0 x36_2).f2.f1), .int .i64 ((rd_T34 l0 x36_2).f2.f2), .int .i64 ((rd_T34 l0 x36_2).f2.f3), .int .i64 ((rd_T34 l0 x36_2).f2.f4), .int .i64 ((rd_T34 l0 x36_2).f2.f5), .int .i64 ((rd_T34 l0 x36_2).f3.f0), .int .i64 ((rd_T34 l0 x36_2).f3.f1), .int .i64 ((rd_T34 l0 x36_2).f3.f2), .int .i64 ((rd_T34 l0 x36_2).f4)]] rfl (by (try simp only [YP, List.map_cons, List.map_nil]); first | done | rfl | (simp only [YR, YQ]; rfl)) ?_; (with_reducible refine (object_Size.calls k2 ((rd_T34 l0 x36_2).f0) ((rd_T34 l0 x36_2).f1) ((rd_T34 l0 x36_2).f2.f0) ((rd_T34 l0 x36_2).f2.f1) ((rd_T34 l0 x36_2).f2.f2) ((rd_T34 l0 x36_2).f2.f3) ((rd_T34 l0 x36_2).f2.f4) ((rd_T34 l0 x36_2).f2.f5) ((rd_T34 l0 x36_2).f3.f0) ((rd_T34 l0 x36_2).f3.f1) ((rd_T34 l0 x36_2).f3.f2) ((rd_T34 l0 x36_2).f4) t241 _ A16.out).mono ?_); rintro e w53 ⟨rfl, hb⟩; refine ⟨_, rfl, ?_⟩; have n0_ := YL (Kd.S_below (by (with_reducible repeat (first | apply Kd.S_alloc | apply Kd.S_drewN | apply Kd.S_drew)); exact (Kd.S_mono (Kd.S_far (p := ⟨gb240, 11, none⟩) (Kd.S_far (p := ⟨gb240, 10, none⟩) (Kd.S_far (p := ⟨gb240, 9, none⟩) (Kd.S_far (p := ⟨gb240, 8, none⟩) (Kd.S_far (p := ⟨gb240, 7, none⟩) (Kd.S_far (p := ⟨gb240, 6, none⟩) (Kd.S_far (p := ⟨gb240, 5, none⟩) (Kd.S_far (p := ⟨gb240, 4, none⟩) (Kd.S_far (p := ⟨gb240, 3, none⟩) (Kd.S_far (p := ⟨gb240, 2, none⟩) (Kd.S_far (p := ⟨gb240, 1, none⟩) (Kd.S_far (p := ⟨gb240, 0, none⟩) (Kd.S_mono HO_8.out (fun k_ hk => (⟨hk, hk.2⟩ : _ ∧ k_ ≠ gb240))) (fun _ hk => hk.2) (.int .i64 ((rd_T34 l0 x36_2).f0))) (fun _ hk => hk.2) (.int .i64 ((rd_T34 l0 x36_2).f1))) (fun _ hk => hk.2) (.bool ((rd_T34 l0 x36_2).f2.f0))) (fun _ hk => hk.2) (.int .i64 ((rd_T34 l0 x36_2).f2.f1))) (fun _ hk => hk.2) (.int .i64 ((rd_T34 l0 x36_2).f2.f2))) (fun _ hk => hk.2) (.int .i64 ((rd_T34 l0 x36_2).f2.f3))) (fun _ hk => hk.2) (.int .i64 ((rd_T34 l0 x36_2).f2.f4))) (fun _ hk => hk.2) (.int .i64 ((rd_T34 l0 x36_2).f2.f5))) (fun _ hk => hk.2) (.int .i64 ((rd_T34 l0 x36_2).f3.f0))) (fun _ hk => hk.2) (.int .i64 ((rd_T34 l0 x36_2).f3.f1))) (fun _ hk => hk.2) (.int .i64 ((rd_T34 l0 x36_2).f3.f2))) (fun _ hk => hk.2) (.int .i64 ((rd_T34 l0 x36_2).f4))) (fun _ h_ => h_.1))) hb); have n1_ := YL (YV (by (with_reducible repeat (first | apply YS | apply YT | apply YU)); exact (Kd.R_mono (Kd.R_far (p := ⟨gb240, 11, none⟩) (Kd.R_far (p := ⟨gb240, 10, none⟩) (Kd.R_far (p := ⟨gb240, 9, none⟩) (Kd.R_far (p := ⟨gb240, 8, none⟩) (Kd.R_far (p := ⟨gb240, 7, none⟩) (Kd.R_far (p := ⟨gb240, 6, none⟩) (Kd.R_far (p := ⟨gb240, 5, none⟩) (Kd.R_far (p := ⟨gb240, 4, none⟩) (Kd.R_far (p := ⟨gb240, 3, none⟩) (Kd.R_far (p := ⟨gb240, 2, none⟩) (Kd.R_far (p := ⟨gb240, 1, none⟩) (Kd.R_far (p := ⟨gb240, 0, none⟩) (Kd.R_mono HO_236001.out (fun k_ hk => (⟨hk, hk.2⟩ : _ ∧ k_ ≠ gb240))) (fun _ hk => hk.2) (.int .i64 ((rd_T34 l0 x36_2).f0))) (fun _ hk => hk.2) (.int .i64 ((rd_T34 l0 x36_2).f1))) (fun _ hk => hk.2) (.bool ((rd_T34 l0 x36_2).f2.f0))) (fun _ hk => hk.2) (.int .i64 ((rd_T34 l0 x36_2).f2.f1))) (fun _ hk => hk.2) (.int .i64 ((rd_T34 l0 x36_2).f2.f2))) (fun _ hk => hk.2) (.int .i64 ((rd_T34 l0 x36_2).f2.f3))) (fun _ hk => hk.2) (.int .i64 ((rd_T34 l0 x36_2).f2.f4))) (fun _ hk => hk.2) (.int .i64 ((rd_T34 l0 x36_2).f2.f5))) (fun _ hk => hk.2) (.int .i64 ((rd_T34 l0 x36_2).f3.f0))) (fun _ hk => hk.2) (.int .i64 ((rd_T34 l0 x36_2).f3.f1))) (fun _ hk => hk.2) (.int .i64 ((rd_T34 l0 x36_2).f3.f2))) (fun _ hk => hk.2) (.int .i64 ((rd_T34 l0 x36_2).f4))) (fun _ h_ => h_.1))) hb); have n2_ := YL (YK (g := gb235) (o := .cells #[.int .i64 x236000_2, u236001] 48 (0, 0)) (by (with_reducible repeat (first | refine YF ?_ _ | refine YG ?_ | refine YH ?_ _)); refine blk_far ?_ NB235_240.out _; (with_reducible repeat (first | refine YF ?_ _ | refine YG ?_ | refine YH ?_ _)); refine blk_far ?_ NB235_240.out _; (with_reducible repeat (first | refine YF ?_ _ | refine YG ?_ | refine YH ?_ _)); refine blk_far ?_ NB235_240.out _; (with_reducible repeat (first | refine YF ?_ _ | refine YG ?_ | refine YH ?_ _)); refine blk_far ?_ NB235_240.out _; (with_reducible repeat (first | refine YF ?_ _ | refine YG ?_ | refine YH ?_ _)); refine blk_far ?_ NB235_240.out _; (with_reducible repeat (first | refine YF ?_ _ | refine YG ?_ | refine YH ?_ _)); refine blk_far ?_ NB235_240.out _; (with_reducible repeat (first | refine YF ?_ _ | refine YG ?_ | refine YH ?_ _)); refine blk_far ?_ NB235_240.out _; (with_reducible repeat (first | refine YF ?_ _ | refine YG ?_ | refine YH ?_ _)); refine blk_far ?_ NB235_240.out _; (with_reducible repeat (first | refine YF ?_ _ | refine YG ?_ | refine YH ?_ _)); refine blk_far ?_ NB235_240.out _; (with_reducible repeat (first | refine YF ?_ _ | refine YG ?_ | refine YH ?_ _)); refine blk_far ?_ NB235_240.out _; (with_reducible repeat (first | refine YF ?_ _ | refine YG ?_ | refine YH ?_ _)); refine blk_far ?_ NB235_240.out _; (with_reducible repeat (first | refine YF ?_ _ | refine YG ?_ | refine YH ?_ _)); refine blk_far ?_ NB235_240.out _; (with_reducible repeat (first | refine YF ?_ _ | refine YG ?_ | refine YH ?_ _)); exact BK235.out) hb); have n3_ := YL (YK (g := gb240) (o := .cells #[.int .i64 ((rd_T34 l0 x36_2).f0), .int .i64 ((rd_T34 l0 x36_2).f1), .bool ((rd_T34 l0 x36_2).f2.f0), .int .i64 ((rd_T34 l0 x36_2).f2.f1), .int .i64 ((rd_T34 l0 x36_2).f2.f2), .int .i64 ((rd_T34 l0 x36_2).f2.f3), .int .i64 ((rd_T34 l0 x36_2).f2.f4), .int .i64 ((rd_T34 l0 x36_2).f2.f5), .int .i64 ((rd_T34 l0 x36_2).f3.f0), .int .i64 ((rd_T34 l0 x36_2).f3.f1), .int .i64 ((rd_T34 l0 x36_2).f3.f2), .int .i64 ((rd_T34 l0 x36_2).f4)] 34 (0, 0)) (by (with_reducible repeat (first | refine YF ?_ _ | refine YG ?_ | refine YH ?_ _)); refine blk_put (cs := #[.int .i64 ((rd_T34 l0 x36_2).f0), .int .i64 ((rd_T34 l0 x36_2).f1), .bool ((rd_T34 l0 x36_2).f2.f0), .int .i64 ((rd_T34 l0 x36_2).f2.f1), .int .i64 ((rd_T34 l0 x36_2).f2.f2), .int .i64 ((rd_T34 l0 x36_2).f2.f3), .int .i64 ((rd_T34 l0 x36_2).f2.f4), .int .i64 ((rd_T34 l0 x36_2).f2.f5), .int .i64 ((rd_T34 l0 x36_2).f3.f0), .int .i64 ((rd_T34 l0 x36_2).f3.f1), .int .i64 ((rd_T34 l0 x36_2).f3.f2), .int .i64 0]) ?_ 11 _ rfl; (with_reducible repeat (first | refine YF ?_ _ | refine YG ?_ | refine YH ?_ _)); refine blk_put (cs := #[.int .i64 ((rd_T34 l0 x36_2).f0), .int .i64 ((rd_T34 l0 x36_2).f1), .bool ((rd_T34 l0 x36_2).f2.f0), .int .i64 ((rd_T34 l0 x36_2).f2.f1), .int .i64 ((rd_T34 l0 x36_2).f2.f2), .int .i64 ((rd_T34 l0 x36_2).f2.f3), .int .i64 ((rd_T34 l0 x36_2).f2.f4), .int .i64 ((rd_T34 l0 x36_2).f2.f5), .int .i64 ((rd_T34 l0 x36_2).f3.f0), .int .i64 ((rd_T34 l0 x36_2).f3.f1), .int .i64 0, .int .i64 0]) ?_ 10 _ rfl; (with_reducible repeat (first | refine YF ?_ _ | refine YG ?_ | refine YH ?_ _)); refine blk_put (cs := #[.int .i64 ((rd_T34 l0 x36_2).f0), .int .i64 ((rd_T34 l0 x36_2).f1), .bool ((rd_T34 l0 x36_2).f2.f0), .int .i64 ((rd_T34 l0 x36_2).f2.f1), .int .i64 ((rd_T34 l0 x36_2).f2.f2), .int .i64 ((rd_T34 l0 x36_2).f2.f3), .int .i64 ((rd_T34 l0 x36_2).f2.f4), .int .i64 ((rd_T34 l0 x36_2).f2.f5), .int .i64 ((rd_T34 l0 x36_2).f3.f0), .int .i64 0, .int .i64 0, .int .i64 0]) ?_ 9 _ rfl; (with_reducible repeat (first | refine YF ?_ _ | refine YG ?_ | refine YH ?_ _)); refine blk_put (cs := #[.int .i64 ((rd_T34 l0 x36_2).f0), .int .i64 ((rd_T34 l0 x36_2).f1), .bool ((rd_T34 l0 x36_2).f2.f0), .int .i64 ((rd_T34 l0 x36_2).f2.f1), .int .i64 ((rd_T34 l0 x36_2).f2.f2), .int .i64 ((rd_T34 l0 x36_2).f2.f3), .int .i64 ((rd_T34 l0 x36_2).f2.f4), .int .i64 ((rd_T34 l0 x36_2).f2.f5), .int .i64 0, .int .i64 0, .int .i64 0, .int .i64 0]) ?_ 8 _ rfl; (with_reducible repeat (first | refine YF ?_ _ | refine YG ?_ | refine YH ?_ _)); refine blk_put (cs := #[.int .i64 ((rd_T34 l0 x36_2).f0), .int .i64 ((rd_T34 l0 x36_2).f1), .bool ((rd_T34 l0 x36_2).f2.f0), .int .i64 ((rd_T34 l0 x36_2).f2.f1), .int .i64 ((rd_T34 l0 x36_2).f2.f2), .int .i64 ((rd_T34 l0 x36_2).f2.f3), .int .i64 ((rd_T34 l0 x36_2).f2.f4), .int .i64 0, .int .i64 0, .int .i64 0, .int .i64 0, .int .i64 0]) ?_ 7 _ rfl; (with_reducible repeat (first | refine YF ?_ _ | refine YG ?_ | refine YH ?_ _)); refine blk_put (cs := #[.int .i64 ((rd_T34 l0 x36_2).f0), .int .i64 ((rd_T34 l0 x36_2).f1), .bool ((rd_T34 l0 x36_2).f2.f0), .int .i64 ((rd_T34 l0 x36_2).f2.f1), .int .i64 ((rd_T34 l0 x36_2).f2.f2), .int .i64 ((rd_T34 l0 x36_2).f2.f3), .int .i64 0, .int .i64 0, .int .i64 0, .int .i64 0, .int .i64 0, .int .i64 0]) ?_ 6 _ rfl; (with_reducible repeat (first | refine YF ?_ _ | refine YG ?_ | refine YH ?_ _)); refine blk_put (cs := #[.int .i64 ((rd_T34 l0 x36_2).f0), .int .i64 ((rd_T34 l0 x36_2).f1), .bool ((rd_T34 l0 x36_2).f2.f0), .int .i64 ((rd_T34 l0 x36_2).f2.f1), .int .i64 ((rd_T34 l0 x36_2).f2.f2), .int .i64 0, .int .i64 0, .int .i64 0, .int .i64 0, .int .i64 0, .int .i64 0, .int .i64 0]) ?_ 5 _ rfl; (with_reducible repeat (first | refine YF ?_ _ | refine YG ?_ | refine YH ?_ _)); refine blk_put (cs := #[.int .i64 ((rd_T34 l0 x36_2).f0), .int .i64 ((rd_T34 l0 x36_2).f1), .bool ((rd_T34 l0 x36_2).f2.f0), .int .i64 ((rd_T34 l0 x36_2).f2.f1), .int .i64 0, .int .i64 0, .int .i64 0, .int .i64 0, .int .i64 0, .int .i64 0, .int .i64 0, .int .i64 0]) ?_ 4 _ rfl; (with_reducible repeat (first | refine YF ?_ _ | refine YG ?_ | refine YH ?_ _)); refine blk_put (cs := #[.int .i64 ((rd_T34 l0 x36_2).f0), .int .i64 ((rd_T34 l0 x36_2).f1), .bool ((rd_T34 l0 x36_2).f2.f0), .int .i64 0, .int .i64 0, .int .i64 0, .int .i64 0, .int .i64 0, .int .i64 0, .int .i64 0, .int .i64 0, .int .i64 0]) ?_ 3 _ rfl; (with_reducible repeat (first | refine YF ?_ _ | refine YG ?_ | refine YH ?_ _)); refine blk_put (cs := #[.int .i64 ((rd_T34 l0 x36_2).f0), .int .i64 ((rd_T34 l0 x36_2).f1), .bool false, .int .i64 0, .int .i64 0, .int .i64 0, .int .i64 0, .int .i64 0, .int .i64 0, .int .i64 0, .int .i64 0, .int .i64 0]) ?_ 2 _ rfl; (with_reducible repeat (first | refine YF ?_ _ | refine YG ?_ | refine YH ?_ _)); refine blk_put (cs := #[.int .i64 ((rd_T34 l0 x36_2).f0), .int .i64 0, .bool false, .int .i64 0, .int .i64 0, .int .i64 0, .int .i64 0, .int .i64 0, .int .i64 0, .int .i64 0, .int .i64 0, .int .i64 0]) ?_ 1 _ rfl; (with_reducible repeat (first | refine YF ?_ _ | refine YG ?_ | refine YH ?_ _)); refine blk_put (cs := #[.int .i64 0, .int .i64 0, .bool false, .int .i64 0, .int .i64 0, .int .i64 0, .int .i64 0, .int .i64 0, .int .i64 0, .int .i64 0, .int .i64 0, .int .i64 0]) ?_ 0 _ rfl; (with_reducible repeat (first | refine YF ?_ _ | refine YG ?_ | refine YH ?_ _)); exact BK240.out) hb); have n4_ := YL (YD (by repeat (first | (with_reducible first | exact HB.out | apply YA | apply YB | apply YC | refine below_set ?_ GE235.out | refine below_set ?_ GE240.out) | exact HB.out)) hb); clear HO_8; clear HO_236001; clear BK235; clear BK240; clear HB; have HO_8 := n0_; have HO_236001 := n1_; have BK235 := n2_; have BK240 := n3_; have HB := n4_; clear n0_ n1_ n2_ n3_ n4_; (try clear hb); (try clear hb2); (try clear hk); (try clear hi); have q54_0 : w53.cell? ⟨gb235, 0, none⟩ = some (.int .i64 x236000_2) := (YI BK235.out 0).trans rfl; have q54_1 : w53.cell? ⟨gb235, 1, none⟩ = some (u236001) := (YI BK235.out 1).trans rfl; have f54_0 := YJ BK235.out 0; have f54_1 := YJ BK235.out 1; obtain ⟨Ao56, co56, eo56⟩ := Kd.R_slice HO_236001.out; subst eo56) | ((with_reducible refine gate_builtin (b := .append) (xs := #[.tmp 64, .tmp 66]) rfl ?_); (try (refine gate_guard (by rfl) ?_; dsimp only)); at_builtin; refine Kd.S_append k48 (w0 := w) w.heap.size rfl (.tmp 64) (.tmp 66) 28 48 (.agg #[(.int .i64 0), (.slice none 0 0)]) 32 rfl Try.underlying28 info48 rfl (by decide) (by omega) u8 x8_2 (⟨x236000_2, x236001_2⟩ : S48) [.int .i64 x236000_2, .slice Ao56 x236001_2.length co56] (fun k_ => k_ ≠ gb235 ∧ k_ ≠ gb240) (fun k_ => some k_ = (.slice Ao56 x236001_2.length co56 : Value).ownBlock) rfl rfl ?aP (fun k_ hk_ => ((Kd.R_mono (ok' := fun k_ => ((fun k_ => k_ ≠ gb235 ∧ k_ ≠ gb240)) k_ ∧ some k_ ≠ (u8 : Value).ownBlock) (Kd.R_types (Kd.R_apart' (HO_236001.out) (Kd.S_typed HO_8.out) (by decide)) BK235.out (by decide)) (fun k_ hk => ⟨⟨hk.2, hk.1.1.2⟩, hk.1.2⟩))).1 k_ hk_.symm) ?aF ?aO ?aB ?aS ?aL ?_; (case aP => exact k48_mkM _ _ _ (⟨x236000_2, x236001_2⟩ : S48) (Kd.R_mono (Kd.R_tight rfl (Kd.R_mono (ok' := fun k_ => ((fun k_ => k_ ≠ gb235 ∧ k_ ≠ gb240)) k_ ∧ some k_ ≠ (u8 : Value).ownBlock) (Kd.R_types (Kd.R_apart' (HO_236001.out) (Kd.S_typed HO_8.out) (by decide)) BK235.out (by decide)) (fun k_ hk => ⟨⟨hk.2, hk.1.1.2⟩, hk.1.2⟩))) (fun _ h_ => h_))); (case aB => exact (by repeat (first | (with_reducible first | exact HB.out | apply YA | apply YB | apply YC | refine below_set ?_ GE235.out | refine below_set ?_ GE240.out) | exact HB.out))); (case aF => exact (fun k_ hk => ⟨Kd.freshB (g := gb235) (o := .cells #[.int .i64 x236000_2, .slice Ao56 x236001_2.length co56] 48 (0, 0)) (by (with_reducible repeat (first | refine YF ?_ _ | refine YG ?_ | refine YH ?_ _)); exact BK235.out) k_ hk, Kd.freshB (g := gb240) (o := .cells #[.int .i64 ((rd_T34 l0 x36_2).f0), .int .i64 ((rd_T34 l0 x36_2).f1), .bool ((rd_T34 l0 x36_2).f2.f0), .int .i64 ((rd_T34 l0 x36_2).f2.f1), .int .i64 ((rd_T34 l0 x36_2).f2.f2), .int .i64 ((rd_T34 l0 x36_2).f2.f3), .int .i64 ((rd_T34 l0 x36_2).f2.f4), .int .i64 ((rd_T34 l0 x36_2).f2.f5), .int .i64 ((rd_T34 l0 x36_2).f3.f0), .int .i64 ((rd_T34 l0 x36_2).f3.f1), .int .i64 ((rd_T34 l0 x36_2).f3.f2), .int .i64 ((rd_T34 l0 x36_2).f4)] 34 (0, 0)) (by (with_reducible repeat (first | refine YF ?_ _ | refine YG ?_ | refine YH ?_ _)); exact BK240.out) k_ hk⟩)); (case aO => exact (by (with_reducible repeat (first | apply Kd.S_alloc | apply Kd.S_drewN | apply Kd.S_drew)); exact Kd.S_mono HO_8.out (fun k_ hk => ⟨⟨hk.1.2, hk.2⟩, fun e_ => hk.1.1 e_⟩))); (case aS => exact (YE (by repeat (first | (with_reducible first | exact HB.out | apply YA | apply YB | apply YC | refine below_set ?_ GE235.out | refine below_set ?_ GE240.out) | exact HB.out)))); (case aL => have := LMc48.out; omega); intro v254 w55 ho hb hg hat; rw [← Ny253.out] at ho; have n0_ := YL (blk_grown (g := gb235) (o := .cells #[.int .i64 x236000_2, .slice Ao56 x236001_2.length co56] 48 (0, 0)) (by (with_reducible repeat (first | refine YF ?_ _ | refine YG ?_ | refine YH ?_ _)); exact BK235.out) hg (Kd.S_away HO_8.out (fun _ hk => hk.1.2))); have n1_ := YL (blk_grown (g := gb240) (o := .cells #[.int .i64 ((rd_T34 l0 x36_2).f0), .int .i64 ((rd_T34 l0 x36_2).f1), .bool ((rd_T34 l0 x36_2).f2.f0), .int .i64 ((rd_T34 l0 x36_2).f2.f1), .int .i64 ((rd_T34 l0 x36_2).f2.f2), .int .i64 ((rd_T34 l0 x36_2).f2.f3), .int .i64 ((rd_T34 l0 x36_2).f2.f4), .int .i64 ((rd_T34 l0 x36_2).f2.f5), .int .i64 ((rd_T34 l0 x36_2).f3.f0), .int .i64 ((rd_T34 l0 x36_2).f3.f1), .int .i64 ((rd_T34 l0 x36_2).f3.f2), .int .i64 ((rd_T34 l0 x36_2).f4)] 34 (0, 0)) (by (with_reducible repeat (first | refine YF ?_ _ | refine YG ?_ | refine YH ?_ _)); exact BK240.out) hg (Kd.S_ne HO_8.out BK240.out (by decide))); have n2_ := YL (hb); have n3_ := YL (ho); clear BK235; clear BK240; clear HB; clear HO_8; clear HO_236001; have BK235 := n0_; have BK240 := n1_; have HB := n2_; have HO255 := n3_; clear n0_ n1_ n2_ n3_; clear ho hb hg hat))
      have n0_ := YL (Kd.S_drew HO255.out)
      have n1_ := YL (YG BK235.out)
      have n2_ := YL (YG BK240.out)
      have n3_ := YL (YC HB.out)
      clear HO255; clear BK235; clear BK240; clear HB; have HO255 := n0_; have BK235 := n1_; have BK240 := n2_; have HB := n3_; clear n0_ n1_ n2_ n3_
      refine start_ (n := 7) (S := fun w' => w'.cell? ⟨gb235, 0, none⟩ = some (.int .i64 x236000_2) ∧ w'.cell? ⟨gb235, 1, none⟩ = some (.slice Ao56 x236001_2.length co56) ∧ w'.cell? ⟨gb240, 0, none⟩ = some (.int .i64 ((rd_T34 l0 x36_2).f0)) ∧ w'.cell? ⟨gb240, 1, none⟩ = some (.int .i64 ((rd_T34 l0 x36_2).f1)) ∧ w'.cell? ⟨gb240, 2, none⟩ = some (.bool ((rd_T34 l0 x36_2).f2.f0)) ∧ w'.cell? ⟨gb240, 3, none⟩ = some (.int .i64 ((rd_T34 l0 x36_2).f2.f1)) ∧ w'.cell? ⟨gb240, 4, none⟩ = some (.int .i64 ((rd_T34 l0 x36_2).f2.f2)) ∧ w'.cell? ⟨gb240, 5, none⟩ = some (.int .i64 ((rd_T34 l0 x36_2).f2.f3)) ∧ w'.cell? ⟨gb240, 6, none⟩ = some (.int .i64 ((rd_T34 l0 x36_2).f2.f4)) ∧ w'.cell? ⟨gb240, 7, none⟩ = some (.int .i64 ((rd_T34 l0 x36_2).f2.f5)) ∧ w'.cell? ⟨gb240, 8, none⟩ = some (.int .i64 ((rd_T34 l0 x36_2).f3.f0)) ∧ w'.cell? ⟨gb240, 9, none⟩ = some (.int .i64 ((rd_T34 l0 x36_2).f3.f1)) ∧ w'.cell? ⟨gb240, 10, none⟩ = some (.int .i64 ((rd_T34 l0 x36_2).f3.f2)) ∧ w'.cell? ⟨gb240, 11, none⟩ = some (.int .i64 ((rd_T34 l0 x36_2).f4))) (ds := [6]) #[false, false, false, false, false, false, false] (by kernel_rfl) rfl rfl ⟨(YI BK235.out 0).trans rfl, (YI BK235.out 1).trans rfl, (YI BK240.out 0).trans rfl, (YI BK240.out 1).trans rfl, (YI BK240.out 2).trans rfl, (YI BK240.out 3).trans rfl, (YI BK240.out 4).trans rfl, (YI BK240.out 5).trans rfl, (YI BK240.out 6).trans rfl, (YI BK240.out 7).trans rfl, (YI BK240.out 8).trans rfl, (YI BK240.out 9).trans rfl, (YI BK240.out 10).trans rfl, (YI BK240.out 11).trans rfl⟩ (fun hHeld => ?_)
      generalize w55.drew = w57 at HO255 BK235 BK240 HB hHeld ⊢
      refine pure_ (i := 0) (N := some 68) (v := ?_) (a' := ?_) #[true, false, false, false, false, false, false] rfl rfl (by kernel_rfl) (fun _ _ _ h => h) (Or.inl ⟨by rfl, ?_⟩) ?_ ?_
      rotate_left
      ·intro w'
       go_simp; with_reducible rfl
      rotate_left
      ·simp only [Act.put, YM, YN, YO, i64_w, i32_w]
       rfl
      refine take_ (i := 1) (N := some 69) (v := ?_) (a' := ?_) #[true, true, false, false, false, false, false] rfl rfl (by kernel_rfl) (fun _ _ _ h => h) (Or.inl ⟨by rfl, ?_⟩) hHeld ?_ ?_
      rotate_left
      ·rintro w' ⟨s0, s1, s2, s3, s4, s5, s6, s7, s8, s9, s10, s11, s12, s13⟩
       go_simp; with_reducible rfl
      rotate_left
      ·simp only [Act.put, YM, YN, YO, i64_w, i32_w]
       rfl
      refine take_ (i := 3) (N := some 71) (v := ?_) (a' := ?_) #[true, true, false, true, false, false, false] rfl rfl (by kernel_rfl) (fun _ _ _ h => h) (Or.inl ⟨by rfl, ?_⟩) hHeld ?_ ?_
      rotate_left
      ·rintro w' ⟨s0, s1, s2, s3, s4, s5, s6, s7, s8, s9, s10, s11, s12, s13⟩
       go_simp; with_reducible rfl
      rotate_left
      ·simp only [Act.put, YM, YN, YO, i64_w, i32_w]
       rfl
      refine join_ (σ := Value) 2 #[true, true, true, true, true, false, false] (fun s_ => [(70, .int .i64 t256), (72, s_)]) (fun s_ w' => (w'.cell? ⟨gb235, 0, none⟩ = some (.int .i64 x236000_2) ∧ w'.cell? ⟨gb235, 1, none⟩ = some (.slice Ao56 x236001_2.length co56) ∧ w'.cell? ⟨gb240, 0, none⟩ = some (.int .i64 ((rd_T34 l0 x36_2).f0)) ∧ w'.cell? ⟨gb240, 1, none⟩ = some (.int .i64 ((rd_T34 l0 x36_2).f1)) ∧ w'.cell? ⟨gb240, 2, none⟩ = some (.bool ((rd_T34 l0 x36_2).f2.f0)) ∧ w'.cell? ⟨gb240, 3, none⟩ = some (.int .i64 ((rd_T34 l0 x36_2).f2.f1)) ∧ w'.cell? ⟨gb240, 4, none⟩ = some (.int .i64 ((rd_T34 l0 x36_2).f2.f2)) ∧ w'.cell? ⟨gb240, 5, none⟩ = some (.int .i64 ((rd_T34 l0 x36_2).f2.f3)) ∧ w'.cell? ⟨gb240, 6, none⟩ = some (.int .i64 ((rd_T34 l0 x36_2).f2.f4)) ∧ w'.cell? ⟨gb240, 7, none⟩ = some (.int .i64 ((rd_T34 l0 x36_2).f2.f5)) ∧ w'.cell? ⟨gb240, 8, none⟩ = some (.int .i64 ((rd_T34 l0 x36_2).f3.f0)) ∧ w'.cell? ⟨gb240, 9, none⟩ = some (.int .i64 ((rd_T34 l0 x36_2).f3.f1)) ∧ w'.cell? ⟨gb240, 10, none⟩ = some (.int .i64 ((rd_T34 l0 x36_2).f3.f2)) ∧ w'.cell? ⟨gb240, 11, none⟩ = some (.int .i64 ((rd_T34 l0 x36_2).f4))) ∧ (Kd.S k48 48 w' w.heap.size (fun k_ => some k_ ≠ (s_ : Value).ownBlock ∧ k_ ≠ gb235 ∧ k_ ≠ gb240) v254 y253) ∧ (Kd.R k34 34 w' w.heap.size (fun k_ => k_ ≠ gb240) s_ y257) ∧ (w'.heap[gb235]? = some (.cells #[.int .i64 x236000_2, .slice Ao56 x236001_2.length co56] 48 (0, 0))) ∧ (w'.heap[gb240]? = some (.cells #[.int .i64 ((rd_T34 l0 x36_2).f0), .int .i64 ((rd_T34 l0 x36_2).f1), .bool ((rd_T34 l0 x36_2).f2.f0), .int .i64 ((rd_T34 l0 x36_2).f2.f1), .int .i64 ((rd_T34 l0 x36_2).f2.f2), .int .i64 ((rd_T34 l0 x36_2).f2.f3), .int .i64 ((rd_T34 l0 x36_2).f2.f4), .int .i64 ((rd_T34 l0 x36_2).f2.f5), .int .i64 ((rd_T34 l0 x36_2).f3.f0), .int .i64 ((rd_T34 l0 x36_2).f3.f1), .int .i64 ((rd_T34 l0 x36_2).f3.f2), .int .i64 ((rd_T34 l0 x36_2).f4)] 34 (0, 0))) ∧ (Below w.heap.size w w')) ?_ ?_
      rotate_left
      ·intro hCont
       refine two_ (i := 2) (j := 4) (Ni := some 70) (Nj := some 72) #[true, true, true, true, false, false, false] #[true, true, false, true, true, false, false] rfl rfl rfl rfl (by kernel_rfl) (by decide) (by decide) (fun K hK => ?_) (fun K hK => ?_)
       ·skip
        refine goes_ Try.func25 (by kernel_rfl) rfl #[.int .i64 x236000_2] (by rfl) rfl rfl (by (try simp only [YP, List.map_cons, List.map_nil]); first | done | rfl | (simp only [YR, YQ]; rfl)) ?_
        with_reducible refine (serial_Next.calls x236000_2 t256 _ A49.out).mono ?_
        rintro e w' ⟨rfl, ⟨nd, rfl⟩⟩
        refine ⟨_, rfl, ?_⟩
        refine hK.out _ _ ⟨(YI BK235.out 0).trans rfl, (YI BK235.out 1).trans rfl, (YI BK240.out 0).trans rfl, (YI BK240.out 1).trans rfl, (YI BK240.out 2).trans rfl, (YI BK240.out 3).trans rfl, (YI BK240.out 4).trans rfl, (YI BK240.out 5).trans rfl, (YI BK240.out 6).trans rfl, (YI BK240.out 7).trans rfl, (YI BK240.out 8).trans rfl, (YI BK240.out 9).trans rfl, (YI BK240.out 10).trans rfl, (YI BK240.out 11).trans rfl⟩ (fun hHeld => ?_)
        clear hK K
        refine norm_ (a' := ?_) ?_ ?_
        rotate_left
        ·show Act.put _ (some 70) _ = _
         simp only [Act.put, YM, YN, YO, i64_w, i32_w]
         rfl
        refine one_ (i := 4) (N := some 72) #[true, true, true, true, true, false, false] rfl rfl (by kernel_rfl) (by decide) (fun K hK => ?_)
        refine Kd.R_lit_step k34 _ 34 ?hg (N := 72) ?hd (xs := ([(⟨(rd_T34 l0 x36_2).f0, (rd_T34 l0 x36_2).f1, (⟨(rd_T34 l0 x36_2).f2.f0, (rd_T34 l0 x36_2).f2.f1, (rd_T34 l0 x36_2).f2.f2, (rd_T34 l0 x36_2).f2.f3, (rd_T34 l0 x36_2).f2.f4, (rd_T34 l0 x36_2).f2.f5⟩ : S30), (⟨(rd_T34 l0 x36_2).f3.f0, (rd_T34 l0 x36_2).f3.f1, (rd_T34 l0 x36_2).f3.f2⟩ : S32), (rd_T34 l0 x36_2).f4⟩ : S34)] : List (S34))) (inner := [.int .i64 ((rd_T34 l0 x36_2).f0), .int .i64 ((rd_T34 l0 x36_2).f1), .bool ((rd_T34 l0 x36_2).f2.f0), .int .i64 ((rd_T34 l0 x36_2).f2.f1), .int .i64 ((rd_T34 l0 x36_2).f2.f2), .int .i64 ((rd_T34 l0 x36_2).f2.f3), .int .i64 ((rd_T34 l0 x36_2).f2.f4), .int .i64 ((rd_T34 l0 x36_2).f2.f5), .int .i64 ((rd_T34 l0 x36_2).f3.f0), .int .i64 ((rd_T34 l0 x36_2).f3.f1), .int .i64 ((rd_T34 l0 x36_2).f3.f2), .int .i64 ((rd_T34 l0 x36_2).f4)]) (ok := fun _ => True) (okp := fun _ => True) ?hr ?hp (fun _ hk => hk) trivial (Below.refl _ _) (Nat.le_refl _) (by simp) ?_; (case hd => rfl); (case hg => rfl); (case hr => first | (go_simp; done) | (go_simp; rfl)); (case hp => exact (Reps.front (show Kd.M k34 _ _ _ (⟨(rd_T34 l0 x36_2).f0, (rd_T34 l0 x36_2).f1, (⟨(rd_T34 l0 x36_2).f2.f0, (rd_T34 l0 x36_2).f2.f1, (rd_T34 l0 x36_2).f2.f2, (rd_T34 l0 x36_2).f2.f3, (rd_T34 l0 x36_2).f2.f4, (rd_T34 l0 x36_2).f2.f5⟩ : S30), (⟨(rd_T34 l0 x36_2).f3.f0, (rd_T34 l0 x36_2).f3.f1, (rd_T34 l0 x36_2).f3.f2⟩ : S32), (rd_T34 l0 x36_2).f4⟩ : S34) [.int .i64 ((rd_T34 l0 x36_2).f0), .int .i64 ((rd_T34 l0 x36_2).f1), .bool ((rd_T34 l0 x36_2).f2.f0), .int .i64 ((rd_T34 l0 x36_2).f2.f1), .int .i64 ((rd_T34 l0 x36_2).f2.f2), .int .i64 ((rd_T34 l0 x36_2).f2.f3), .int .i64 ((rd_T34 l0 x36_2).f2.f4), .int .i64 ((rd_T34 l0 x36_2).f2.f5), .int .i64 ((rd_T34 l0 x36_2).f3.f0), .int .i64 ((rd_T34 l0 x36_2).f3.f1), .int .i64 ((rd_T34 l0 x36_2).f3.f2), .int .i64 ((rd_T34 l0 x36_2).f4)] from (k34_mkM _ _ _ (⟨(rd_T34 l0 x36_2).f0, (rd_T34 l0 x36_2).f1, (⟨(rd_T34 l0 x36_2).f2.f0, (rd_T34 l0 x36_2).f2.f1, (rd_T34 l0 x36_2).f2.f2, (rd_T34 l0 x36_2).f2.f3, (rd_T34 l0 x36_2).f2.f4, (rd_T34 l0 x36_2).f2.f5⟩ : S30), (⟨(rd_T34 l0 x36_2).f3.f0, (rd_T34 l0 x36_2).f3.f1, (rd_T34 l0 x36_2).f3.f2⟩ : S32), (rd_T34 l0 x36_2).f4⟩ : S34) )) rfl (Reps.none _ _) rfl))
        intro v258 w58 ho59 hb hg_ hnew_
        clear hg_ hnew_
        (first | rw [← Ny257.out] at ho59 | (simp only [Int.reduceToNat] at ho59; rw [← Ny257.out] at ho59))
        have n0_ := YL (Kd.S_elder' (by (with_reducible repeat (first | apply Kd.S_alloc | apply Kd.S_drewN | apply Kd.S_drew)); exact HO255.out) (Kd.R_base ho59) hb)
        have n1_ := YL (Kd.R_lower (Kd.R_newB ho59 (g := gb240) (o := .cells #[.int .i64 ((rd_T34 l0 x36_2).f0), .int .i64 ((rd_T34 l0 x36_2).f1), .bool ((rd_T34 l0 x36_2).f2.f0), .int .i64 ((rd_T34 l0 x36_2).f2.f1), .int .i64 ((rd_T34 l0 x36_2).f2.f2), .int .i64 ((rd_T34 l0 x36_2).f2.f3), .int .i64 ((rd_T34 l0 x36_2).f2.f4), .int .i64 ((rd_T34 l0 x36_2).f2.f5), .int .i64 ((rd_T34 l0 x36_2).f3.f0), .int .i64 ((rd_T34 l0 x36_2).f3.f1), .int .i64 ((rd_T34 l0 x36_2).f3.f2), .int .i64 ((rd_T34 l0 x36_2).f4)] 34 (0, 0)) (by (with_reducible repeat (first | refine YF ?_ _ | refine YG ?_ | refine YH ?_ _)); exact BK240.out)) (YE (by repeat (first | (with_reducible first | exact HB.out | apply YA | apply YB | apply YC | refine below_set ?_ GE235.out | refine below_set ?_ GE240.out) | exact HB.out))))
        have n2_ := YL (YK (g := gb235) (o := .cells #[.int .i64 x236000_2, .slice Ao56 x236001_2.length co56] 48 (0, 0)) (by (with_reducible repeat (first | refine YF ?_ _ | refine YG ?_ | refine YH ?_ _)); exact BK235.out) hb)
        have n3_ := YL (YK (g := gb240) (o := .cells #[.int .i64 ((rd_T34 l0 x36_2).f0), .int .i64 ((rd_T34 l0 x36_2).f1), .bool ((rd_T34 l0 x36_2).f2.f0), .int .i64 ((rd_T34 l0 x36_2).f2.f1), .int .i64 ((rd_T34 l0 x36_2).f2.f2), .int .i64 ((rd_T34 l0 x36_2).f2.f3), .int .i64 ((rd_T34 l0 x36_2).f2.f4), .int .i64 ((rd_T34 l0 x36_2).f2.f5), .int .i64 ((rd_T34 l0 x36_2).f3.f0), .int .i64 ((rd_T34 l0 x36_2).f3.f1), .int .i64 ((rd_T34 l0 x36_2).f3.f2), .int .i64 ((rd_T34 l0 x36_2).f4)] 34 (0, 0)) (by (with_reducible repeat (first | refine YF ?_ _ | refine YG ?_ | refine YH ?_ _)); exact BK240.out) hb)
        have n4_ := YL (YD (by repeat (first | (with_reducible first | exact HB.out | apply YA | apply YB | apply YC | refine below_set ?_ GE235.out | refine below_set ?_ GE240.out) | exact HB.out)) hb)
        clear HO255; clear BK235; clear BK240; clear HB; have HO255 := n0_; have HO259 := n1_; have BK235 := n2_; have BK240 := n3_; have HB := n4_; clear n0_ n1_ n2_ n3_ n4_; clear hb ho59
        obtain ⟨Ao60, co60, eo60⟩ := Kd.R_slice HO259.out
        (first | subst eo60 | (injection eo60 with f1_ f2_ f3_; have f4_ := f1_.symm; have f5_ := f3_.symm; clear f1_ f2_ f3_; subst f4_; subst f5_))
        refine hK.out _ _ ⟨(YI BK235.out 0).trans rfl, (YI BK235.out 1).trans rfl, (YI BK240.out 0).trans rfl, (YI BK240.out 1).trans rfl, (YI BK240.out 2).trans rfl, (YI BK240.out 3).trans rfl, (YI BK240.out 4).trans rfl, (YI BK240.out 5).trans rfl, (YI BK240.out 6).trans rfl, (YI BK240.out 7).trans rfl, (YI BK240.out 8).trans rfl, (YI BK240.out 9).trans rfl, (YI BK240.out 10).trans rfl, (YI BK240.out 11).trans rfl⟩ (fun hHeld => ?_)
        clear hK K
        refine norm_ (a' := ?_) ?_ ?_
        rotate_left
        ·show Act.put _ (some 72) _ = _
         simp only [Act.put, YM, YN, YO, i64_w, i32_w]
         rfl
        exact norm_ (by simp only [putAll, Act.put, YM, YN, YO]) (hCont (.slice Ao60 y257.length co60) _ ⟨hHeld, (by (with_reducible repeat (first | apply Kd.S_alloc | apply Kd.S_drewN | apply Kd.S_drew)); exact Kd.S_mono HO255.out (fun _ hk => by first | exact ⟨hk.2, ⟨hk.1.1, hk.1.2⟩⟩ | exact trivial | (simp [hk]; done) | simp_all)), (by (with_reducible repeat (first | apply YS | apply YT | apply YU)); exact Kd.R_mono HO259.out (fun _ hk => by first | exact hk.2 | exact trivial | (simp [hk]; done) | simp_all)), (by (with_reducible repeat (first | refine YF ?_ _ | refine YG ?_ | refine YH ?_ _)); exact BK235.out), (by (with_reducible repeat (first | refine YF ?_ _ | refine YG ?_ | refine YH ?_ _)); exact BK240.out), (by repeat (first | (with_reducible first | exact HB.out | apply YA | apply YB | apply YC | refine below_set ?_ GE235.out | refine below_set ?_ GE240.out) | exact HB.out))⟩)
       skip
       refine Kd.R_lit_step k34 _ 34 ?hg (N := 72) ?hd (xs := ([(⟨(rd_T34 l0 x36_2).f0, (rd_T34 l0 x36_2).f1, (⟨(rd_T34 l0 x36_2).f2.f0, (rd_T34 l0 x36_2).f2.f1, (rd_T34 l0 x36_2).f2.f2, (rd_T34 l0 x36_2).f2.f3, (rd_T34 l0 x36_2).f2.f4, (rd_T34 l0 x36_2).f2.f5⟩ : S30), (⟨(rd_T34 l0 x36_2).f3.f0, (rd_T34 l0 x36_2).f3.f1, (rd_T34 l0 x36_2).f3.f2⟩ : S32), (rd_T34 l0 x36_2).f4⟩ : S34)] : List (S34))) (inner := [.int .i64 ((rd_T34 l0 x36_2).f0), .int .i64 ((rd_T34 l0 x36_2).f1), .bool ((rd_T34 l0 x36_2).f2.f0), .int .i64 ((rd_T34 l0 x36_2).f2.f1), .int .i64 ((rd_T34 l0 x36_2).f2.f2), .int .i64 ((rd_T34 l0 x36_2).f2.f3), .int .i64 ((rd_T34 l0 x36_2).f2.f4), .int .i64 ((rd_T34 l0 x36_2).f2.f5), .int .i64 ((rd_T34 l0 x36_2).f3.f0), .int .i64 ((rd_T34 l0 x36_2).f3.f1), .int .i64 ((rd_T34 l0 x36_2).f3.f2), .int .i64 ((rd_T34 l0 x36_2).f4)]) (ok := fun _ => True) (okp := fun _ => True) ?hr ?hp (fun _ hk => hk) trivial (Below.refl _ _) (Nat.le_refl _) (by simp) ?_; (case hd => rfl); (case hg => rfl); (case hr => first | (go_simp; done) | (go_simp; rfl)); (case hp => exact (Reps.front (show Kd.M k34 _ _ _ (⟨(rd_T34 l0 x36_2).f0, (rd_T34 l0 x36_2).f1, (⟨(rd_T34 l0 x36_2).f2.f0, (rd_T34 l0 x36_2).f2.f1, (rd_T34 l0 x36_2).f2.f2, (rd_T34 l0 x36_2).f2.f3, (rd_T34 l0 x36_2).f2.f4, (rd_T34 l0 x36_2).f2.f5⟩ : S30), (⟨(rd_T34 l0 x36_2).f3.f0, (rd_T34 l0 x36_2).f3.f1, (rd_T34 l0 x36_2).f3.f2⟩ : S32), (rd_T34 l0 x36_2).f4⟩ : S34) [.int .i64 ((rd_T34 l0 x36_2).f0), .int .i64 ((rd_T34 l0 x36_2).f1), .bool ((rd_T34 l0 x36_2).f2.f0), .int .i64 ((rd_T34 l0 x36_2).f2.f1), .int .i64 ((rd_T34 l0 x36_2).f2.f2), .int .i64 ((rd_T34 l0 x36_2).f2.f3), .int .i64 ((rd_T34 l0 x36_2).f2.f4), .int .i64 ((rd_T34 l0 x36_2).f2.f5), .int .i64 ((rd_T34 l0 x36_2).f3.f0), .int .i64 ((rd_T34 l0 x36_2).f3.f1), .int .i64 ((rd_T34 l0 x36_2).f3.f2), .int .i64 ((rd_T34 l0 x36_2).f4)] from (k34_mkM _ _ _ (⟨(rd_T34 l0 x36_2).f0, (rd_T34 l0 x36_2).f1, (⟨(rd_T34 l0 x36_2).f2.f0, (rd_T34 l0 x36_2).f2.f1, (rd_T34 l0 x36_2).f2.f2, (rd_T34 l0 x36_2).f2.f3, (rd_T34 l0 x36_2).f2.f4, (rd_T34 l0 x36_2).f2.f5⟩ : S30), (⟨(rd_T34 l0 x36_2).f3.f0, (rd_T34 l0 x36_2).f3.f1, (rd_T34 l0 x36_2).f3.f2⟩ : S32), (rd_T34 l0 x36_2).f4⟩ : S34) )) rfl (Reps.none _ _) rfl))
       intro v258 w58 ho59 hb hg_ hnew_
       clear hg_ hnew_
       (first | rw [← Ny257.out] at ho59 | (simp only [Int.reduceToNat] at ho59; rw [← Ny257.out] at ho59))
       have n0_ := YL (Kd.S_elder' (by (with_reducible repeat (first | apply Kd.S_alloc | apply Kd.S_drewN | apply Kd.S_drew)); exact HO255.out) (Kd.R_base ho59) hb)
       have n1_ := YL (Kd.R_lower (Kd.R_newB ho59 (g := gb240) (o := .cells #[.int .i64 ((rd_T34 l0 x36_2).f0), .int .i64 ((rd_T34 l0 x36_2).f1), .bool ((rd_T34 l0 x36_2).f2.f0), .int .i64 ((rd_T34 l0 x36_2).f2.f1), .int .i64 ((rd_T34 l0 x36_2).f2.f2), .int .i64 ((rd_T34 l0 x36_2).f2.f3), .int .i64 ((rd_T34 l0 x36_2).f2.f4), .int .i64 ((rd_T34 l0 x36_2).f2.f5), .int .i64 ((rd_T34 l0 x36_2).f3.f0), .int .i64 ((rd_T34 l0 x36_2).f3.f1), .int .i64 ((rd_T34 l0 x36_2).f3.f2), .int .i64 ((rd_T34 l0 x36_2).f4)] 34 (0, 0)) (by (with_reducible repeat (first | refine YF ?_ _ | refine YG ?_ | refine YH ?_ _)); exact BK240.out)) (YE (by repeat (first | (with_reducible first | exact HB.out | apply YA | apply YB | apply YC | refine below_set ?_ GE235.out | refine below_set ?_ GE240.out) | exact HB.out))))
       have n2_ := YL (YK (g := gb235) (o := .cells #[.int .i64 x236000_2, .slice Ao56 x236001_2.length co56] 48 (0, 0)) (by (with_reducible repeat (first | refine YF ?_ _ | refine YG ?_ | refine YH ?_ _)); exact BK235.out) hb)
       have n3_ := YL (YK (g := gb240) (o := .cells #[.int .i64 ((rd_T34 l0 x36_2).f0), .int .i64 ((rd_T34 l0 x36_2).f1), .bool ((rd_T34 l0 x36_2).f2.f0), .int .i64 ((rd_T34 l0 x36_2).f2.f1), .int .i64 ((rd_T34 l0 x36_2).f2.f2), .int .i64 ((rd_T34 l0 x36_2).f2.f3), .int .i64 ((rd_T34 l0 x36_2).f2.f4), .int .i64 ((rd_T34 l0 x36_2).f2.f5), .int .i64 ((rd_T34 l0 x36_2).f3.f0), .int .i64 ((rd_T34 l0 x36_2).f3.f1), .int .i64 ((rd_T34 l0 x36_2).f3.f2), .int .i64 ((rd_T34 l0 x36_2).f4)] 34 (0, 0)) (by (with_reducible repeat (first | refine YF ?_ _ | refine YG ?_ | refine YH ?_ _)); exact BK240.out) hb)
       have n4_ := YL (YD (by repeat (first | (with_reducible first | exact HB.out | apply YA | apply YB | apply YC | refine below_set ?_ GE235.out | refine below_set ?_ GE240.out) | exact HB.out)) hb)
       clear HO255; clear BK235; clear BK240; clear HB; have HO255 := n0_; have HO259 := n1_; have BK235 := n2_; have BK240 := n3_; have HB := n4_; clear n0_ n1_ n2_ n3_ n4_; clear hb ho59
       refine hK.out _ _ ⟨(YI BK235.out 0).trans rfl, (YI BK235.out 1).trans rfl, (YI BK240.out 0).trans rfl, (YI BK240.out 1).trans rfl, (YI BK240.out 2).trans rfl, (YI BK240.out 3).trans rfl, (YI BK240.out 4).trans rfl, (YI BK240.out 5).trans rfl, (YI BK240.out 6).trans rfl, (YI BK240.out 7).trans rfl, (YI BK240.out 8).trans rfl, (YI BK240.out 9).trans rfl, (YI BK240.out 10).trans rfl, (YI BK240.out 11).trans rfl⟩ (fun hHeld => ?_)
       clear hK K
       refine norm_ (a' := ?_) ?_ ?_
       rotate_left
       ·show Act.put _ (some 72) _ = _
        simp only [Act.put, YM, YN, YO, i64_w, i32_w]
        rfl
       refine one_ (i := 2) (N := some 70) #[true, true, true, true, true, false, false] rfl rfl (by kernel_rfl) (by decide) (fun K hK => ?_)
       refine goes_ Try.func25 (by kernel_rfl) rfl #[.int .i64 x236000_2] (by rfl) rfl rfl (by (try simp only [YP, List.map_cons, List.map_nil]); first | done | rfl | (simp only [YR, YQ]; rfl)) ?_
       with_reducible refine (serial_Next.calls x236000_2 t256 _ A49.out).mono ?_
       rintro e w' ⟨rfl, ⟨nd, rfl⟩⟩
       refine ⟨_, rfl, ?_⟩
       obtain ⟨Ao60, co60, eo60⟩ := Kd.R_slice HO259.out
       (first | subst eo60 | (injection eo60 with f1_ f2_ f3_; have f4_ := f1_.symm; have f5_ := f3_.symm; clear f1_ f2_ f3_; subst f4_; subst f5_))
       refine hK.out _ _ ⟨(YI BK235.out 0).trans rfl, (YI BK235.out 1).trans rfl, (YI BK240.out 0).trans rfl, (YI BK240.out 1).trans rfl, (YI BK240.out 2).trans rfl, (YI BK240.out 3).trans rfl, (YI BK240.out 4).trans rfl, (YI BK240.out 5).trans rfl, (YI BK240.out 6).trans rfl, (YI BK240.out 7).trans rfl, (YI BK240.out 8).trans rfl, (YI BK240.out 9).trans rfl, (YI BK240.out 10).trans rfl, (YI BK240.out 11).trans rfl⟩ (fun hHeld => ?_)
       clear hK K
       refine norm_ (a' := ?_) ?_ ?_
       rotate_left
       ·show Act.put _ (some 70) _ = _
        simp only [Act.put, YM, YN, YO, i64_w, i32_w]
        rfl
       exact norm_ (by simp only [putAll, Act.put, YM, YN, YO]) (hCont (.slice Ao60 y257.length co60) _ ⟨hHeld, (by (with_reducible repeat (first | apply Kd.S_alloc | apply Kd.S_drewN | apply Kd.S_drew)); exact Kd.S_mono HO255.out (fun _ hk => by first | exact ⟨hk.2, ⟨hk.1.1, hk.1.2⟩⟩ | exact trivial | (simp [hk]; done) | simp_all)), (by (with_reducible repeat (first | apply YS | apply YT | apply YU)); exact Kd.R_mono HO259.out (fun _ hk => by first | exact hk.2 | exact trivial | (simp [hk]; done) | simp_all)), (by (with_reducible repeat (first | refine YF ?_ _ | refine YG ?_ | refine YH ?_ _)); exact BK235.out), (by (with_reducible repeat (first | refine YF ?_ _ | refine YG ?_ | refine YH ?_ _)); exact BK240.out), (by repeat (first | (with_reducible first | exact HB.out | apply YA | apply YB | apply YC | refine below_set ?_ GE235.out | refine below_set ?_ GE240.out) | exact HB.out))⟩)
      rintro v258 w61 ⟨hS_, h0_, h1_, h2_, h3_, h4_⟩
      have n0_ : Aside0 (Kd.S k48 48 w61 w.heap.size (fun k_ => some k_ ≠ (v258 : Value).ownBlock ∧ k_ ≠ gb235 ∧ k_ ≠ gb240) v254 y253) := ⟨h0_⟩
      have n1_ : Aside0 (Kd.R k34 34 w61 w.heap.size (fun k_ => k_ ≠ gb240) v258 y257) := ⟨h1_⟩
      have n2_ : Aside0 (w61.heap[gb235]? = some (.cells #[.int .i64 x236000_2, .slice Ao56 x236001_2.length co56] 48 (0, 0))) := ⟨h2_⟩
      have n3_ : Aside0 (w61.heap[gb240]? = some (.cells #[.int .i64 ((rd_T34 l0 x36_2).f0), .int .i64 ((rd_T34 l0 x36_2).f1), .bool ((rd_T34 l0 x36_2).f2.f0), .int .i64 ((rd_T34 l0 x36_2).f2.f1), .int .i64 ((rd_T34 l0 x36_2).f2.f2), .int .i64 ((rd_T34 l0 x36_2).f2.f3), .int .i64 ((rd_T34 l0 x36_2).f2.f4), .int .i64 ((rd_T34 l0 x36_2).f2.f5), .int .i64 ((rd_T34 l0 x36_2).f3.f0), .int .i64 ((rd_T34 l0 x36_2).f3.f1), .int .i64 ((rd_T34 l0 x36_2).f3.f2), .int .i64 ((rd_T34 l0 x36_2).f4)] 34 (0, 0))) := ⟨h3_⟩
      have n4_ : Aside0 (Below w.heap.size w w61) := ⟨h4_⟩
      clear HO255; clear BK235; clear BK240; clear HB; clear h0_ h1_ h2_ h3_ h4_; have HO255 := n0_; have HO259 := n1_; have BK235 := n2_; have BK240 := n3_; have HB := n4_; clear n0_ n1_ n2_ n3_ n4_
      have hHeld : w61.cell? ⟨gb235, 0, none⟩ = some (.int .i64 x236000_2) ∧ w61.cell? ⟨gb235, 1, none⟩ = some (.slice Ao56 x236001_2.length co56) ∧ w61.cell? ⟨gb240, 0, none⟩ = some (.int .i64 ((rd_T34 l0 x36_2).f0)) ∧ w61.cell? ⟨gb240, 1, none⟩ = some (.int .i64 ((rd_T34 l0 x36_2).f1)) ∧ w61.cell? ⟨gb240, 2, none⟩ = some (.bool ((rd_T34 l0 x36_2).f2.f0)) ∧ w61.cell? ⟨gb240, 3, none⟩ = some (.int .i64 ((rd_T34 l0 x36_2).f2.f1)) ∧ w61.cell? ⟨gb240, 4, none⟩ = some (.int .i64 ((rd_T34 l0 x36_2).f2.f2)) ∧ w61.cell? ⟨gb240, 5, none⟩ = some (.int .i64 ((rd_T34 l0 x36_2).f2.f3)) ∧ w61.cell? ⟨gb240, 6, none⟩ = some (.int .i64 ((rd_T34 l0 x36_2).f2.f4)) ∧ w61.cell? ⟨gb240, 7, none⟩ = some (.int .i64 ((rd_T34 l0 x36_2).f2.f5)) ∧ w61.cell? ⟨gb240, 8, none⟩ = some (.int .i64 ((rd_T34 l0 x36_2).f3.f0)) ∧ w61.cell? ⟨gb240, 9, none⟩ = some (.int .i64 ((rd_T34 l0 x36_2).f3.f1)) ∧ w61.cell? ⟨gb240, 10, none⟩ = some (.int .i64 ((rd_T34 l0 x36_2).f3.f2)) ∧ w61.cell? ⟨gb240, 11, none⟩ = some (.int .i64 ((rd_T34 l0 x36_2).f4)) := hS_
      obtain ⟨Ao62, co62, eo62⟩ := Kd.R_slice HO259.out
      (first | subst eo62 | (injection eo62 with f1_ f2_ f3_; have f4_ := f1_.symm; have f5_ := f3_.symm; clear f1_ f2_ f3_; subst f4_; subst f5_))
      refine norm_ (a' := ?_) ?_ ?_
      rotate_left
      ·simp only [putAll, Act.put, YM, YN, YO]
       rfl
      refine pure_ (i := 5) (N := some 73) (v := ?_) (a' := ?_) #[true, true, true, true, true, true, false] rfl rfl (by kernel_rfl) (fun _ _ _ h => h) (Or.inl ⟨by rfl, ?_⟩) ?_ ?_
      rotate_left
      ·intro w'
       go_simp; with_reducible rfl
      rotate_left
      ·simp only [Act.put, YM, YN, YO, i64_w, i32_w]
       rfl
      refine last_ (i := 6) (N := none) #[true, true, true, true, true, true, true] rfl rfl (by kernel_rfl) (by decide) (fun K hK => ?_)
      have hs63 : w61.cell? ⟨gb235, 0, none⟩ = some (.int .i64 x236000_2) := (YI BK235.out 0).trans rfl
      have hfs63 := YJ BK235.out 0
      have hns63_1 := NB240_235.out
      have hms63_1 := NB235_240.out
      have hs64 : w61.cell? ⟨gb235, 1, none⟩ = some (.slice Ao56 x236001_2.length co56) := (YI BK235.out 1).trans rfl
      have hfs64 := YJ BK235.out 1
      have hns64_1 := NB240_235.out
      have hms64_1 := NB235_240.out
      refine skip_ (w1 := ?_) (by rfl) rfl ?_ ?_
      rotate_left
      ·go_simp
       rfl
      refine hK.out _ _ ?_
      clear hK K
      refine done_ (by kernel_rfl) ?_
      try go_wp2_with (go_step3)
      go_roundg k2
      case measure => have := HJ3.out; have := HK2.out; omega
      case rel => exact ⟨(y253), (wrap64 ((wrap64 (a2 - 3)) - t241)), (wrap64 (x36_2 + 1)), (t256), (y257), (.slice Ao62 y257.length co62), (by first | rfl | (simp; done) | (simp [*]; done)), (by first | rfl | (simp; done) | (simp [*]; done)), H', ⟨by have := HJ3.out; have := HK2.out; omega⟩, ⟨by (with_reducible repeat (first | apply Kd.S_alloc | apply Kd.S_drewN | apply Kd.S_drew)); exact Kd.S_mono (Kd.S_far (p := ⟨gb235, 1, none⟩) (Kd.S_far (p := ⟨gb235, 0, none⟩) (Kd.S_mono HO255.out (fun k_ hk => (⟨hk, hk.2.1⟩ : _ ∧ k_ ≠ gb235))) (fun _ hk => hk.2) (.int .i64 t256)) (fun _ hk => hk.2) (.slice Ao62 y257.length co62)) (fun _ hk => ⟨hk.1.1, hk.1.2.1⟩)⟩, ⟨by (with_reducible repeat (first | apply YS | apply YT | apply YU)); exact Kd.R_mono (Kd.R_far (p := ⟨gb235, 1, none⟩) (Kd.R_far (p := ⟨gb235, 0, none⟩) (Kd.R_types HO259.out BK235.out (by decide)) (fun _ hk => hk.2) (.int .i64 t256)) (fun _ hk => hk.2) (.slice Ao62 y257.length co62)) (fun _ hk => trivial)⟩, ⟨by (with_reducible repeat (first | refine YF ?_ _ | refine YG ?_ | refine YH ?_ _)); refine blk_put (cs := #[.int .i64 t256, .slice Ao56 x236001_2.length co56]) ?_ 1 _ rfl; (with_reducible repeat (first | refine YF ?_ _ | refine YG ?_ | refine YH ?_ _)); refine blk_put (cs := #[.int .i64 x236000_2, .slice Ao56 x236001_2.length co56]) ?_ 0 _ rfl; (with_reducible repeat (first | refine YF ?_ _ | refine YG ?_ | refine YH ?_ _)); exact BK235.out⟩, ⟨by repeat (first | (with_reducible first | exact HB.out | apply YA | apply YB | apply YC | refine below_set ?_ GE235.out | refine below_set ?_ GE240.out) | exact HB.out)⟩⟩
     rw [if_neg c13] at H
     have c13b0 : decide (x36_2 < (l0.length : Int)) = false := decide_eq_false c13
     clear c13
     by_cases c65 : (x236001_2.length : Int) > 0
     ·rw [if_pos c65] at H
      have c65b0 : decide (0 < (x236001_2.length : Int)) = true := decide_eq_true c65
      have c65b1 : decide (0 < x236001_2.length) = true := decide_eq_true (by omega)
      clear c65
      by_cases c66 : x8_2.length < 4398046511104
      rotate_left
      ·rw [if_neg c66] at H
       exact absurd H (by simp)
      rw [if_pos c66] at H; have LMc66 := YL c66; clear c66
      obtain ⟨y236, hy236⟩ : ∃ y_ : List (S48), y_ = (x8_2 ++ [(⟨x236000_2, x236001_2⟩ : S48)]) := ⟨_, rfl⟩
      replace H : (some (y236, 0)) = some (r1, r2) := by first | (rw [hy236]; with_reducible exact H) | (have H2_ := (Option.bind_some _ _).symm.trans H; rw [hy236]; with_reducible exact H2_) | (have H2_ := (Option.bind_some _ _).symm.trans H; with_reducible exact H2_) | with_reducible exact H | (rw [hy236]; exact H) | exact H
      have Ny236 := YL hy236; clear hy236
      simp only [Option.some.injEq, Prod.mk.injEq] at H
      obtain ⟨rfl, rfl⟩ := H
      have q67_0 : wr.cell? ⟨gb235, 0, none⟩ = some (.int .i64 x236000_2) := (YI BK235.out 0).trans rfl
      have q67_1 : wr.cell? ⟨gb235, 1, none⟩ = some (u236001) := (YI BK235.out 1).trans rfl
      have f67_0 := YJ BK235.out 0
      have f67_1 := YJ BK235.out 1
      obtain ⟨Ao68, co68, eo68⟩ := Kd.R_slice HO_236001.out
      subst eo68
      go_wp2_with (first | go_step3 | ((with_reducible refine gate_builtin (b := .append) (xs := #[.tmp 83, .tmp 85]) rfl ?_); (try (refine gate_guard (by rfl) ?_; dsimp only)); at_builtin; refine Kd.S_append k48 (w0 := w) w.heap.size rfl (.tmp 83) (.tmp 85) 28 48 (.agg #[(.int .i64 0), (.slice none 0 0)]) 32 rfl Try.underlying28 info48 rfl (by decide) (by omega) u8 x8_2 (⟨x236000_2, x236001_2⟩ : S48) [.int .i64 x236000_2, .slice Ao68 x236001_2.length co68] (fun k_ => k_ ≠ gb235) (fun k_ => some k_ = (.slice Ao68 x236001_2.length co68 : Value).ownBlock) rfl rfl ?aP (fun k_ hk_ => ((Kd.R_mono (ok' := fun k_ => ((fun k_ => k_ ≠ gb235)) k_ ∧ some k_ ≠ (u8 : Value).ownBlock) (Kd.R_types (Kd.R_apart' (HO_236001.out) (Kd.S_typed HO_8.out) (by decide)) BK235.out (by decide)) (fun k_ hk => ⟨hk.2, hk.1.2⟩))).1 k_ hk_.symm) ?aF ?aO ?aB ?aS ?aL ?_; (case aP => exact k48_mkM _ _ _ (⟨x236000_2, x236001_2⟩ : S48) (Kd.R_mono (Kd.R_tight rfl (Kd.R_mono (ok' := fun k_ => ((fun k_ => k_ ≠ gb235)) k_ ∧ some k_ ≠ (u8 : Value).ownBlock) (Kd.R_types (Kd.R_apart' (HO_236001.out) (Kd.S_typed HO_8.out) (by decide)) BK235.out (by decide)) (fun k_ hk => ⟨hk.2, hk.1.2⟩))) (fun _ h_ => h_))); (case aB => exact (by repeat (first | (with_reducible first | exact HB.out | apply YA | apply YB | apply YC | refine below_set ?_ GE235.out) | exact HB.out))); (case aF => exact (fun k_ hk => Kd.freshB (g := gb235) (o := .cells #[.int .i64 x236000_2, .slice Ao68 x236001_2.length co68] 48 (0, 0)) (by (with_reducible repeat (first | refine YF ?_ _ | refine YG ?_ | refine YH ?_ _)); exact BK235.out) k_ hk)); (case aO => exact (by (with_reducible repeat (first | apply Kd.S_alloc | apply Kd.S_drewN | apply Kd.S_drew)); exact Kd.S_mono HO_8.out (fun k_ hk => ⟨hk.2, fun e_ => hk.1 e_⟩))); (case aS => exact (YE (by repeat (first | (with_reducible first | exact HB.out | apply YA | apply YB | apply YC | refine below_set ?_ GE235.out) | exact HB.out)))); (case aL => have := LMc66.out; omega); intro v237 w69 ho hb hg hat; rw [← Ny236.out] at ho; have n0_ := YL (blk_grown (g := gb235) (o := .cells #[.int .i64 x236000_2, .slice Ao68 x236001_2.length co68] 48 (0, 0)) (by (with_reducible repeat (first | refine YF ?_ _ | refine YG ?_ | refine YH ?_ _)); exact BK235.out) hg (Kd.S_away HO_8.out (fun _ hk => hk.2))); have n1_ := YL (hb); have n2_ := YL (ho); clear BK235; clear HB; clear HO_8; clear HO_236001; have BK235 := n0_; have HB := n1_; have HO238 := n2_; clear n0_ n1_ n2_; clear ho hb hg hat))
      (try simp only [Exit.noGoto_ret])
      go_ret2
      exact ⟨_, by first | rfl | (simp [errW_none, errW_some] <;> rfl) | (simp [*, errW_none, errW_some] <;> rfl), by (with_reducible repeat (first | apply Kd.S_alloc | apply Kd.S_drewN | apply Kd.S_drew)); exact Kd.S_mono HO238.out (fun _ hk => trivial), by repeat (first | (with_reducible first | exact HB.out | apply YA | apply YB | apply YC | refine below_set ?_ GE235.out) | exact HB.out)⟩
     rw [if_neg c65] at H
     have c65b0 : decide (0 < (x236001_2.length : Int)) = false := decide_eq_false c65
     have c65b1 : decide (0 < x236001_2.length) = false := decide_eq_false (by omega)
     clear c65
     simp only [Option.some.injEq, Prod.mk.injEq] at H
     obtain ⟨rfl, rfl⟩ := H
     have q70_0 : wr.cell? ⟨gb235, 0, none⟩ = some (.int .i64 x236000_2) := (YI BK235.out 0).trans rfl
     have q70_1 : wr.cell? ⟨gb235, 1, none⟩ = some (u236001) := (YI BK235.out 1).trans rfl
     have f70_0 := YJ BK235.out 0
     have f70_1 := YJ BK235.out 1
     obtain ⟨Ao71, co71, eo71⟩ := Kd.R_slice HO_236001.out
     subst eo71
     go_wp2_with (go_step3)
     (try simp only [Exit.noGoto_ret])
     go_ret2
     exact ⟨_, by first | rfl | (simp [errW_none, errW_some] <;> rfl) | (simp [*, errW_none, errW_some] <;> rfl), by (with_reducible repeat (first | apply Kd.S_alloc | apply Kd.S_drewN | apply Kd.S_drew)); exact Kd.S_mono HO_8.out (fun _ hk => trivial), by repeat (first | (with_reducible first | exact HB.out | apply YA | apply YB | apply YC | refine below_set ?_ GE235.out) | exact HB.out)⟩
end Go.Proofs.Ytclbempnhelmoaa.P
namespace Go.Proofs.Ytclbempnhelmoaa.P
open Go.RowKit YtclbempnhelmoaaW.PrintWords YtclbempnhelmoaaW.PrintLast YtclbempnhelmoaaW.PrintMore
def nextN (a : Int) : Int := wrap64 (IntKind.u16.wrap ((IntKind.u16.wrap a) + 1))
theorem nxt_eq (a : Int) : serial_Next.f a = some (nextN a) := rfl
def nextL (nx : Int) (X : List S48) : Int := X.foldl (fun _ b => nextN b.f0) nx
def goneL (X : List S48) : Nat := (X.map fun b => b.f1.length).sum
theorem take_nextL {nx : Int} {B : List S48} (i : Nat) (h : i < B.length) : nextL nx (B.take (i + 1)) = nextN (B[i]).f0 := by
 unfold nextL
 rw [List.take_succ_eq_append_getElem h, List.foldl_append]
 rfl
theorem take_goneL {B : List S48} (i : Nat) (h : i < B.length) : goneL (B.take (i + 1)) = goneL (B.take i) + (B[i]).f1.length := by
 unfold goneL
 rw [List.take_succ_eq_append_getElem h, List.map_append, List.sum_append]
 simp
theorem goneL_le (B : List S48) (i : Nat) : goneL (B.take i) ≤ goneL B := by
 conv => rhs; rw [← List.take_append_drop i B]
 unfold goneL
 rw [List.map_append, List.sum_append]
 omega
theorem take_at {pw : S48 → Bool} (B : List S48) : ∀ (i : Nat), i ≤ B.length → (∀ j (hj : j < B.length), j < i → pw (B[j]) = true) → (i = B.length ∨ ∃ h : i < B.length, pw (B[i]) = false) → B.takeWhile pw = B.take i := by
 induction B with
 | nil => intro i h _ _; simp
 | cons o r ih =>
  intro i h h1 h2
  cases i with
  | zero =>
   rcases h2 with h2 | ⟨hl, h2⟩
   ·simp at h2
   ·rw [List.takeWhile_cons_of_neg (by simpa using h2)]; rfl
  | succ i =>
   have a := h1 0 (by simp) (by omega)
   have b := ih i (by simpa using h) (fun j hj hji => h1 (j + 1) (by simpa using hj) (by omega)) (by
    rcases h2 with h2 | ⟨hl, h2⟩
    ·exact .inl (by simpa using h2)
    ·exact .inr ⟨by simpa using hl, by simpa using h2⟩)
   rw [List.takeWhile_cons_of_pos (by simpa using a), b]
   rfl
theorem pack_nW {W : List S34} {nW : Nat} (hn : nW = W.length) (k : Nat) (A0 : Option Addr) (c0 : Nat) (a1 : Int) (r1 : List S48) (r2 : Int) (w : World) (hr0 : Kd.C k34 w A0 W.length W) (hc0 : W.length ≤ c0) (h : batch_Pack.f k W a1 512 = some (r1, r2)) :
  Calls Try.prog 27 #[.slice A0 nW c0, .int .i64 a1, .int .i64 512] w fun e w' => ∃ v0_ : Value, e = .returned (.tuple #[v0_, .int .i64 r2]) ∧ Kd.S k48 48 w' w.heap.size (fun _ => True) v0_ r1 ∧ Below w.heap.size w w' := by
 subst hn
 exact batch_Pack.calls k A0 c0 W a1 512 r1 r2 w hr0 hc0 h
theorem clo_nD {Y : List S34} {nD : Nat} (hn : nD = Y.length) (A0 : Option Addr) (c0 : Nat) (w : World) (hr : Kd.C k34 w A0 Y.length Y) (hl : Y.length ≤ 1000000000000) :
  Calls Try.prog 30 #[.slice A0 nD c0] w fun e w' => ∃ v0_ : Value, e = .returned v0_ ∧ Kd.R k34 34 w' w.heap.size (fun _ => True) v0_ Y ∧ Below w.heap.size w w' := by
 subst hn
 exact slices_CloneO.calls A0 c0 Y Y w hr (if_pos hl)
theorem cut_o (A : Option Addr) (n c G : Nat) (hm : G ≤ n) : ∀ W : World, (Instr.slice 46 (.slice A n c) (some (.int .i64 (G : Int))) none none).run Try.prog W = .ok (.slice (if c = G then A else A.map (·.add (G * k34.sz))) (n - G) (c - G)) W := by
 obtain ⟨i0, hi0, _, hsz, _⟩ := info_parts info34
 exact cut_from (P := Try.prog) 46 34 .i64 Try.underlying46 hi0 k34.sz hsz A n c (G : Int) (by omega) (by omega)
theorem Kd.C_step_ {w : World} {base n c : Nat} {ok : Nat → Prop} {A : Option Addr} {W : List S34} (h : k34.R 34 w base ok (.slice A n c) W) : k34.C w A W.length W := (Kd.R_reads' h).2.2
theorem SeX.start {w0 w w1 : World} {F : Nat → Prop} {g : Nat} {wn tr nx : Int} {W : List S34} {O : List (It × Int)} {vw vo va : Value} {B : List S48} (h : Sd w0 w F g wn tr W O nx vw vo) (hb : Below w.heap.size w w1) (ha : k48.R 48 w1 w.heap.size (fun _ => True) va B) :
  SeX w0 w w1 F g wn tr W O vw vo w1 (fun k => F k ∨ (w.heap.size ≤ k ∧ k < w1.heap.size)) O nx vo [] (.slice none 0 0) ∧ k48.R 48 w1 w0.heap.size (fun k => w.heap.size ≤ k ∧ k < w1.heap.size) va B :=
 ⟨⟨(h.below hb).more (fun k hk => .inl hk) (fun k hk => hk.elim (fun e => Nat.lt_of_lt_of_le (h.lt k e) hb.size) (fun e => e.2)), SX.refl _ _ _, fun k hk => hk, Kd.R_nil _ _ _ _ _, fun k hk => by simp [Value.ownBlock] at hk⟩, Kd.R_lower (Kd.R_mono (Kd.R_bound ha) (fun k hk => ⟨hk.2.1, hk.2.2.1⟩)) (below_size h.bl)⟩
def dat (O : List (It × Int)) : List (S48 × Int) := O.map fun o => (o.1.b, o.2)
def sse.T3 : Bool × List (List Nat × List Nat) := (true, [([], []), ([0], [0]), ([1], [1]), ([2], [2]), ([], []), ([4], [4]), ([5], [5]), ([6], [6]), ([3, 7], [3, 7]), ([8], [8]), ([9], [9]), ([9], [9]), ([10, 8, 0, 1, 2, 3, 4, 5, 6, 7, 8, 9, 10], [10]), ([11, 12, 0, 1, 2, 3, 4, 5, 6, 7, 8, 9, 10, 11, 12], [11])])
def sse.B3 : List Nat := [0, 1, 3, 7, 0, 16, 48, 112, 255, 511, 1023, 1023, 2047, 8191]
theorem sse.tab3 : rtab .any (opsOf Try.f12 3) = sse.T3 := by kernel_rfl
theorem sse.bits3 : waitsOk sse.T3.2 sse.B3 = true := by kernel_rfl
def sse.T10 : Bool × List (List Nat × List Nat) := (true, [([], []), ([0], [0]), ([], []), ([], []), ([3], [3]), ([4], [4]), ([5], [5]), ([1, 2, 6], [1, 2, 6]), ([7], [7])])
def sse.B10 : List Nat := [0, 1, 0, 0, 8, 24, 56, 127, 255]
theorem sse.tab10 : rtab .any (opsOf Try.f12 10) = sse.T10 := by kernel_rfl
theorem sse.bits10 : waitsOk sse.T10.2 sse.B10 = true := by kernel_rfl
def sse.T15 : Bool × List (List Nat × List Nat) := (true, [([], []), ([], []), ([1], [1]), ([2], [2]), ([3], [3]), ([], []), ([5], [5]), ([4, 6], [4, 6]), ([0, 0, 1, 2, 3, 4, 5, 6, 7], [0]), ([8, 0, 1, 2, 3, 4, 5, 6, 7], [8]), ([9, 7, 7, 0, 1, 2, 3, 4, 5, 6, 7], [7, 9])])
def sse.B15 : List Nat := [0, 0, 2, 6, 14, 0, 32, 126, 255, 511, 1023]
theorem sse.tab15 : rtab .any (opsOf Try.f12 15) = sse.T15 := by kernel_rfl
theorem sse.bits15 : waitsOk sse.T15.2 sse.B15 = true := by kernel_rfl
theorem ssend_s {w0 w : World} {F : Nat → Prop} {g : Nat} {wn tr nx : Int} {W : List S34} {O : List (It × Int)} {vw vo : Value} (h : Sd w0 w F g wn tr W O nx vw vo) (hlw : W.length ≤ 1024) (hlo : O.length ≤ 1000000) (KK : Nat) (B : List S48) (rp : Int) (hpk : batch_Pack.f KK W nx 512 = some (B, rp)) (hlb : B.length ≤ 1024)
  (pw : S48 → Bool) (hwi : ∀ b ∈ B, serial_Within.f KK b.f0 (firstL O nx) wn = some (pw b)) (hgo : goneL B ≤ W.length) :
  Calls Try.prog 12 #[.pointer (some ⟨g, 0, none⟩)] w fun e w' => ∃ v F' vw' vo' O', e = .returned v ∧ Sd w0 w' F' g wn tr (W.drop (goneL (B.takeWhile pw))) O' (nextL nx (B.takeWhile pw)) vw' vo' ∧ SX w F (Wr g vw vo O) w' F' (Wr g vw' vo' O') ∧
   k48.R 48 w' w0.heap.size (fun k => w.heap.size ≤ k ∧ ¬ Wr g vw' vo' O' k) v (B.takeWhile pw) ∧ (∀ k, v.ownBlock = some k → w.heap.size ≤ k ∧ ¬ F' k) ∧ dat O' = dat O ++ (B.takeWhile pw).map fun b => (b, 1) := by
 obtain ⟨Aw, cw, rfl, hlc, hC⟩ := Kd.R_reads h.roww
 obtain ⟨nW, hnW⟩ : ∃ nW, nW = W.length := ⟨_, rfl⟩
 obtain ⟨fst, hfs⟩ : ∃ fst, fst = firstL O nx := ⟨_, rfl⟩
 obtain ⟨n, hn⟩ : ∃ n, n = B.length := ⟨_, rfl⟩
 have HS := Aside0.mk h
 have hx : w.cell? ⟨g, 2, none⟩ = some (.slice Aw nW cw) := by rw [hnW]; exact (blk_cell h.blk 2).trans rfl
 have hnx : w.cell? ⟨g, 4, none⟩ = some (.int .i64 nx) := (blk_cell h.blk 4).trans rfl
 have HCW := Aside0.mk hC
 have HLC := Aside0.mk hlc
 have HNW := Aside0.mk hnW
 have HFS := Aside0.mk hfs
 have HN := Aside0.mk hn
 have HPK := Aside0.mk hpk
 have HLW := Aside0.mk hlw
 have HLO0 := Aside0.mk hlo
 have HLB := Aside0.mk hlb
 have HWA := Aside0.mk hwi
 have HGO := Aside0.mk hgo
 have HLT := Aside0.mk h.lt
 have HOW := Aside0.mk (show ∀ k, (Value.slice Aw W.length cw).ownBlock = some k → F k from fun k hk => (h.roww.1 k hk).1)
 have HRW := Aside0.mk h.wr
 have H00 := Aside0.mk (below_size h.bl)
 rw [← hfs] at HWA
 rw [← hnW] at HS HOW HRW
 clear h hlw hlo hpk hlb hwi hgo hnW hfs hn hlc hC
 go_enter Try.func12, Try.ntmps12
 go_upto_region 3 with go_step3
 refine start_ (n := 14) (S := fun w' => w'.cell? ⟨g, 2, none⟩ = some (.slice Aw nW cw) ∧ w'.cell? ⟨g, 4, none⟩ = some (.int .i64 nx)) (ds := [8]) #[false, false, false, false, false, false, false, false, false, false, false, false, false, false] (by kernel_rfl) rfl rfl ⟨hx, hnx⟩ (fun hHeld => ?_); refine with_tabW sse.tab3 sse.bits3 (fun HT_ HW_ => ?_)
 refine pure_ (i := 0) (N := some 14) (v := ?_) (a' := ?_) #[true, false, false, false, false, false, false, false, false, false, false, false, false, false] rfl rfl (any_of HT_.out (by kernel_rfl)) (fun _ _ _ h => h) (Or.inl ⟨by rfl, ?_⟩) ?_ ?_
 rotate_left
 ·intro w'
  go_simp
  with_reducible rfl
 rotate_left
 ·simp only [Act.put, List.setIfInBounds_toArray, List.set_cons_zero, List.set_cons_succ, i64_w, i32_w]
  rfl
 refine pure_ (i := 1) (N := some 15) (v := ?_) (a' := ?_) #[true, true, false, false, false, false, false, false, false, false, false, false, false, false] rfl rfl (any_of HT_.out (by kernel_rfl)) (fun _ _ _ h => h) (Or.inl ⟨by rfl, ?_⟩) ?_ ?_
 rotate_left
 ·intro w'
  go_simp
  with_reducible rfl
 rotate_left
 ·simp only [Act.put, List.setIfInBounds_toArray, List.set_cons_zero, List.set_cons_succ, i64_w, i32_w]
  rfl
 refine pure_ (i := 2) (N := some 16) (v := ?_) (a' := ?_) #[true, true, true, false, false, false, false, false, false, false, false, false, false, false] rfl rfl (any_of HT_.out (by kernel_rfl)) (fun _ _ _ h => h) (Or.inl ⟨by rfl, ?_⟩) ?_ ?_
 rotate_left
 ·intro w'
  go_simp
  with_reducible rfl
 rotate_left
 ·simp only [Act.put, List.setIfInBounds_toArray, List.set_cons_zero, List.set_cons_succ, i64_w, i32_w]
  rfl
 refine pure_ (i := 4) (N := some 18) (v := ?_) (a' := ?_) #[true, true, true, false, true, false, false, false, false, false, false, false, false, false] rfl rfl (any_of HT_.out (by kernel_rfl)) (fun _ _ _ h => h) (Or.inl ⟨by rfl, ?_⟩) ?_ ?_
 rotate_left
 ·intro w'
  go_simp
  with_reducible rfl
 rotate_left
 ·simp only [Act.put, List.setIfInBounds_toArray, List.set_cons_zero, List.set_cons_succ, i64_w, i32_w]
  rfl
 refine pure_ (i := 5) (N := some 19) (v := ?_) (a' := ?_) #[true, true, true, false, true, true, false, false, false, false, false, false, false, false] rfl rfl (any_of HT_.out (by kernel_rfl)) (fun _ _ _ h => h) (Or.inl ⟨by rfl, ?_⟩) ?_ ?_
 rotate_left
 ·intro w'
  go_simp
  with_reducible rfl
 rotate_left
 ·simp only [Act.put, List.setIfInBounds_toArray, List.set_cons_zero, List.set_cons_succ, i64_w, i32_w]
  rfl
 refine pure_ (i := 6) (N := some 20) (v := ?_) (a' := ?_) #[true, true, true, false, true, true, true, false, false, false, false, false, false, false] rfl rfl (any_of HT_.out (by kernel_rfl)) (fun _ _ _ h => h) (Or.inl ⟨by rfl, ?_⟩) ?_ ?_
 rotate_left
 ·intro w'
  go_simp
  with_reducible rfl
 rotate_left
 ·simp only [Act.put, List.setIfInBounds_toArray, List.set_cons_zero, List.set_cons_succ, i64_w, i32_w]
  rfl
 refine take_ (i := 3) (N := some 17) (v := ?_) (a' := ?_) #[true, true, true, true, true, true, true, false, false, false, false, false, false, false] rfl rfl (take_ofW HT_.out HW_.out (by kernel_rfl)) (fun _ _ _ h => h) (Or.inl ⟨by rfl, ?_⟩) hHeld ?_ ?_
 rotate_left
 ·rintro w' ⟨s0, s1⟩
  go_simp
  with_reducible rfl
 rotate_left
 ·simp only [Act.put, List.setIfInBounds_toArray, List.set_cons_zero, List.set_cons_succ, i64_w, i32_w]
  rfl
 refine take_ (i := 7) (N := some 21) (v := ?_) (a' := ?_) #[true, true, true, true, true, true, true, true, false, false, false, false, false, false] rfl rfl (take_ofW HT_.out HW_.out (by kernel_rfl)) (fun _ _ _ h => h) (Or.inl ⟨by rfl, ?_⟩) hHeld ?_ ?_
 rotate_left
 ·rintro w' ⟨s0, s1⟩
  go_simp
  with_reducible rfl
 rotate_left
 ·simp only [Act.put, List.setIfInBounds_toArray, List.set_cons_zero, List.set_cons_succ, i64_w, i32_w]
  rfl
 refine last_ (i := 8) (N := some 22) #[true, true, true, true, true, true, true, true, true, false, false, false, false, false] rfl rfl (one_of HT_.out (by kernel_rfl)) (by decide) (fun K hK => ?_)
 refine goes_ Try.func27 (by kernel_rfl) rfl #[.slice Aw nW cw, .int .i64 nx, .int .i64 512] (by rfl) rfl rfl (by simp only [List.map_toArray, List.map_cons, List.map_nil]; rfl) ?_
 with_reducible refine (pack_nW HNW.out KK Aw cw nx B rp _ (Kd.C_below HCW.out (below_drew (Below.refl _ _))) HLC.out HPK.out).mono ?_
 rintro e w1 ⟨va, rfl, hs, hb⟩
 refine ⟨_, rfl, ?_⟩
 have HB1 := Aside0.mk (below_step (below_drew (Below.refl w.heap.size w)) hb)
 obtain ⟨S1, hva⟩ := SeX.start HS.out HB1.out (Kd.S_R hs)
 have S1 := Aside0.mk S1
 obtain ⟨Aa, ca, ev⟩ := Kd.R_slice hva
 rw [← HN.out] at ev
 subst ev
 have HALL := Aside0.mk hva
 clear hs hb hva
 refine hK.out _ _ ?_
 clear hK K
 refine norm_ (a' := ?_) ?_ ?_
 rotate_left
 ·show Act.put _ (some 22) _ = _
  simp only [Act.put, List.setIfInBounds_toArray, List.set_cons_zero, List.set_cons_succ, i64_w, i32_w]
  rfl
 refine pure_ (i := 9) (N := some 13) (v := ?_) (a' := ?_) #[true, true, true, true, true, true, true, true, true, true, false, false, false, false] rfl rfl (any_of HT_.out (by kernel_rfl)) (fun _ _ _ h => h) (Or.inl ⟨by rfl, ?_⟩) ?_ ?_
 rotate_left
 ·intro w'
  go_simp
  with_reducible rfl
 rotate_left
 ·simp only [Act.put, List.setIfInBounds_toArray, List.set_cons_zero, List.set_cons_succ, i64_w, i32_w]
  rfl
 refine pure_ (i := 10) (N := some 23) (v := ?_) (a' := ?_) #[true, true, true, true, true, true, true, true, true, true, true, false, false, false] rfl rfl (any_of HT_.out (by kernel_rfl)) (fun _ _ _ h => h) (Or.inl ⟨by rfl, ?_⟩) ?_ ?_
 rotate_left
 ·intro w'
  go_simp
  with_reducible rfl
 rotate_left
 ·simp only [Act.put, List.setIfInBounds_toArray, List.set_cons_zero, List.set_cons_succ, i64_w, i32_w]
  rfl
 refine pure_ (i := 11) (N := some 24) (v := ?_) (a' := ?_) #[true, true, true, true, true, true, true, true, true, true, true, true, false, false] rfl rfl (any_of HT_.out (by kernel_rfl)) (fun _ _ _ h => h) (Or.inl ⟨by rfl, ?_⟩) ?_ ?_
 rotate_left
 ·intro w'
  go_simp
  with_reducible rfl
 rotate_left
 ·simp only [Act.put, List.setIfInBounds_toArray, List.set_cons_zero, List.set_cons_succ, i64_w, i32_w]
  rfl
 refine pure_ (i := 12) (N := some 3) (v := ?_) (a' := ?_) #[true, true, true, true, true, true, true, true, true, true, true, true, true, false] rfl rfl (any_of HT_.out (by kernel_rfl)) (fun _ _ _ h => h) (Or.inl ⟨by rfl, ?_⟩) ?_ ?_
 rotate_left
 ·intro w'
  go_simp
  with_reducible rfl
 rotate_left
 ·simp only [Act.put, List.setIfInBounds_toArray, List.set_cons_zero, List.set_cons_succ, i64_w, i32_w]
  rfl
 refine pure_ (i := 13) (N := some 4) (v := ?_) (a' := ?_) #[true, true, true, true, true, true, true, true, true, true, true, true, true, true] rfl rfl (any_of HT_.out (by kernel_rfl)) (fun _ _ _ h => h) (Or.inl ⟨by rfl, ?_⟩) ?_ ?_
 rotate_left
 ·intro w'
  go_simp
  with_reducible rfl
 rotate_left
 ·simp only [Act.put, List.setIfInBounds_toArray, List.set_cons_zero, List.set_cons_succ, i64_w, i32_w]
  rfl
 refine done_ (done_of HT_.out (by kernel_rfl)) ?_
 have HF := Aside0.mk (show SeF w0 w w1 (Wr g (.slice Aw nW cw) vo O) from ⟨H00.out, HB1.out.size, fun k hk => HLT.out k (HRW.out k hk)⟩)
 go_wp2_with (first | go_step3 | (go_at_call 28; (with_reducible refine (sfirst_s S1.out.sd).mono ?_); rintro x_ w2 ⟨rfl, rfl⟩; (rw [← HFS.out])))
 go_loopg [6, 7, 29] n (fun kq v6' v7 v29 wr => ∃ (x : Int) (v6 : Value) (G : Nat) (F' : Nat → Prop) (O2 : List (It × Int)) (nx2 : Int) (vo2 : Value), v29 = .int .i64 x ∧ v6 = v6' ∧ v7 = .int .i64 (G : Int) ∧ Aside0 (0 ≤ x) ∧ Aside0 (x + kq = n) ∧ Aside0 (SeX w0 w w1 F g wn tr W O (.slice Aw nW cw) vo wr F' O2 nx2 vo2 (B.take x.toNat) v6) ∧ Aside0 (G = goneL (B.take x.toNat)) ∧ Aside0 (dat O2 = dat O ++ (B.take x.toNat).map fun b => (b, 1)) ∧ Aside0 (nx2 = nextL nx (B.take x.toNat)) ∧ Aside0 (∀ j (hj : j < B.length), (j : Int) < x → pw (B[j]) = true))
 case atStart => exact ⟨0, _, 0, _, O, nx, vo, rfl, rfl, rfl, ⟨by omega⟩, ⟨by omega⟩, S1, ⟨rfl⟩, ⟨by simp⟩, ⟨rfl⟩, ⟨fun j hj hh => by omega⟩⟩
 case round =>
  clear S1
  obtain ⟨x, v6, G, F', O2, nx2, vo2, rfl, rfl, rfl, H0, HI, SS, HGG, HO2, HNX, HA⟩ := hrel
  obtain ⟨Ao, co, rfl⟩ := Kd.R_slice SS.out.sd.rowo
  obtain ⟨mo, hmo⟩ : ∃ mo, mo = (O2.map Prod.fst).length := ⟨_, rfl⟩
  rw [← hmo] at SS
  have HGL := Aside0.mk (show G ≤ W.length by rw [HGG.out]; exact Nat.le_trans (goneL_le B _) HGO.out)
  have HLO := Aside0.mk (show O2.length ≤ 2000000 by
   have e1 := congrArg List.length HO2.out
   simp only [dat, List.length_map, List.length_append, List.length_take] at e1
   have := HLO0.out
   have := HLB.out
   omega)
  clear hmo
  cases gk with
  | zero =>
   have HX := Aside0.mk (show B.takeWhile pw = B.take x.toNat from take_at B x.toNat (by have := HI.out; have := HN.out; have := H0.out; omega) (fun j hj hji => HA.out j hj (by omega)) (.inl (by have := HI.out; have := HN.out; have := H0.out; omega)))
   obtain ⟨A3, hA3⟩ : ∃ A3, A3 = (if cw = G then Aw else Aw.map (·.add (G * k34.sz))) := ⟨_, rfl⟩
   obtain ⟨c3, hc3⟩ : ∃ c3, c3 = cw - G := ⟨_, rfl⟩
   have HD3 := Aside0.mk (show k34.C wr A3 (W.drop G).length (W.drop G) by rw [hA3]; exact Kd.C_drop (Kd.C_step_ SS.out.sd.roww) HGL.out HLC.out)
   have HD4 := Aside0.mk (show (W.drop G).length ≤ 1000000000000 by have := HLW.out; rw [List.length_drop]; omega)
   obtain ⟨nD, hnD⟩ : ∃ nD, nD = (W.drop G).length := ⟨_, rfl⟩
   have HND := Aside0.mk hnD
   have hcut := cut_o Aw nW cw G (by have := HGL.out; have := HNW.out; omega)
   rw [show nW - G = nD by rw [hnD, List.length_drop, ← HNW.out], ← hA3, ← hc3] at hcut
   have g2 : wr.cell? ⟨g, 2, none⟩ = some (.slice Aw nW cw) := (blk_cell SS.out.sd.blk 2).trans rfl
   clear hA3 hc3 hnD
   have hnl : decide (x < (n : Int)) = false := decide_eq_false (by have := HI.out; omega)
   go_wp2_with (first | go_step3 | (go_at_call 30; (with_reducible refine (clo_nD HND.out A3 c3 _ HD3.out HD4.out).mono ?_); rintro x_ wc ⟨v3, rfl, hr, hb⟩; have HV3 := Aside0.mk hr; have HBC := Aside0.mk hb; have g22 : wc.cell? ⟨g, 2, none⟩ = some (.slice Aw nW cw) := (blk_cell (SS.out.below hb).sd.blk 2).trans rfl; have gf2 := blk_frozen (SS.out.below hb).sd.blk 2; obtain ⟨A9, c9, ev9⟩ := Kd.R_slice hr; (rw [← HND.out] at ev9); subst ev9; clear hr hb))
   simp only [Exit.noGoto]
   go_ret
   obtain ⟨F'', e1, e2, e3, e4⟩ := SS.out.fin HF.out HLT.out HOW.out HBC.out HV3.out HB1.out
   exact ⟨_, F'', _, _, O2, rfl, by rw [HX.out, ← HNX.out, ← HGG.out]; exact e1, by have e5 := e2; rw [HNW.out] at e5; exact e5, by rw [HX.out]; exact e3, e4, by rw [HX.out]; exact HO2.out⟩
  | succ k1 =>
   have hlt := (show x < (n : Int) by have := HI.out; omega)
   have h0 := H0.out
   have hd : decide (x < (n : Int)) = true := decide_eq_true hlt
   have hw : wrap64 (x + 1) = x + 1 := w64 (by omega) (by have := HLB.out; have := HN.out; omega)
   have HXL := Aside0.mk (show x.toNat < B.length by have := HN.out; omega)
   obtain ⟨ad, A1, c1, e_, hx0, hx1, hi1⟩ := SS.out.at HF.out HALL.out x h0 hlt
   cases e_
   obtain ⟨y, hy⟩ : ∃ y, y = rd_T48 B x := ⟨_, rfl⟩
   have HY := Aside0.mk (show y = B[x.toNat]'(HXL.out) by rw [hy]; unfold rd_T48; rw [List.getD_eq_getElem?_getD, List.getElem?_eq_getElem HXL.out]; rfl)
   rw [← hy] at hx0 hx1 hi1
   obtain ⟨m1, hm1⟩ : ∃ m1, m1 = y.f1.length := ⟨_, rfl⟩
   rw [← hm1] at hx1 hi1
   have HI1 := Aside0.mk hi1
   have HM1 := Aside0.mk hm1
   have HYB := Aside0.mk (HWA.out y (by rw [HY.out]; exact List.getElem_mem _))
   have h0t := eq_true h0
   have hltt := eq_true hlt
   clear hy hm1 hi1
   cases hpw : pw y with
   | false =>
    have HWI := Aside0.mk (show serial_Within.f KK y.f0 fst wn = some false by rw [← hpw]; exact HYB.out)
    have HX := Aside0.mk (show B.takeWhile pw = B.take x.toNat from take_at B x.toNat (Nat.le_of_lt HXL.out) (fun j hj hji => HA.out j hj (by have := H0.out; omega)) (.inr ⟨HXL.out, by rw [← HY.out]; exact hpw⟩))
    clear hpw
    go_upto_region 10 with (first | go_step3 | ((with_reducible refine gate_dst (N := 9) rfl ?_); refine box_event ?hg (N := 9) ?hd (cs := #[.int .i64 0, .slice none 0 0]) (t := 48) ?hr ?_; (case hd => rfl); (case hg => rfl); (case hr => first | (go_simp; done) | (go_simp; rfl) | rfl | kernel_rfl); intro gb hg w3 hbox hb; have S3 := Aside0.mk (SS.out.below (show Below wr.heap.size wr ((w3.setCell ⟨gb, 0, none⟩ (.int .i64 y.f0)).setCell ⟨gb, 1, none⟩ (.slice A1 m1 c1)) from below_set (below_set hb (Nat.le_of_eq hg.symm)) (Nat.le_of_eq hg.symm))); have BB3 := Aside0.mk (blk_put (blk_put hbox 0 (.int .i64 y.f0) (cs' := #[.int .i64 y.f0, .slice none 0 0]) rfl) 1 (.slice A1 m1 c1) (cs' := #[.int .i64 y.f0, .slice A1 m1 c1]) rfl); have HGB := Aside0.mk (show ∀ k, v6.ownBlock = some k → k < gb from fun k hk => by rw [hg]; exact Kd.R_lt SS.out.out k hk); have a0 := (blk_cell hbox 0).trans rfl; have a1 := (blk_cell hbox 1).trans rfl; have af0 := blk_frozen hbox 0; have af1 := blk_frozen hbox 1; have b0 : ((w3.setCell ⟨gb, 0, none⟩ (.int .i64 y.f0)).setCell ⟨gb, 1, none⟩ (.slice A1 m1 c1)).cell? ⟨gb, 0, none⟩ = some (.int .i64 y.f0) := (blk_cell BB3.out 0).trans rfl; have z0 : ((w3.setCell ⟨gb, 0, none⟩ (.int .i64 y.f0)).setCell ⟨gb, 1, none⟩ (.slice A1 m1 c1)).cell? ⟨g, 0, none⟩ = some (.int .i64 wn) := (blk_cell S3.out.sd.blk 0).trans rfl; clear hb hbox hg))
    refine start_ (n := 9) (S := fun w' => w'.cell? ⟨gb, 0, none⟩ = some (.int .i64 y.f0) ∧ w'.cell? ⟨g, 0, none⟩ = some (.int .i64 wn)) (ds := [7]) #[false, false, false, false, false, false, false, false, false] (by kernel_rfl) rfl rfl ⟨b0, z0⟩ (fun hHeld => ?_); refine with_tabW sse.tab10 sse.bits10 (fun HT_ HW_ => ?_)
    refine pure_ (i := 0) (N := some 33) (v := ?_) (a' := ?_) #[true, false, false, false, false, false, false, false, false] rfl rfl (any_of HT_.out (by kernel_rfl)) (fun _ _ _ h => h) (Or.inl ⟨by rfl, ?_⟩) ?_ ?_
    rotate_left
    ·intro w'
     go_simp
     with_reducible rfl
    rotate_left
    ·simp only [Act.put, List.setIfInBounds_toArray, List.set_cons_zero, List.set_cons_succ, i64_w, i32_w]
     rfl
    refine pure_ (i := 2) (N := some 35) (v := ?_) (a' := ?_) #[true, false, true, false, false, false, false, false, false] rfl rfl (any_of HT_.out (by kernel_rfl)) (fun _ _ _ h => h) (Or.inl ⟨by rfl, ?_⟩) ?_ ?_
    rotate_left
    ·intro w'
     go_simp
     with_reducible rfl
    rotate_left
    ·simp only [Act.put, List.setIfInBounds_toArray, List.set_cons_zero, List.set_cons_succ, i64_w, i32_w]
     rfl
    refine pure_ (i := 3) (N := some 36) (v := ?_) (a' := ?_) #[true, false, true, true, false, false, false, false, false] rfl rfl (any_of HT_.out (by kernel_rfl)) (fun _ _ _ h => h) (Or.inl ⟨by rfl, ?_⟩) ?_ ?_
    rotate_left
    ·intro w'
     go_simp
     with_reducible rfl
    rotate_left
    ·simp only [Act.put, List.setIfInBounds_toArray, List.set_cons_zero, List.set_cons_succ, i64_w, i32_w]
     rfl
    refine pure_ (i := 4) (N := some 37) (v := ?_) (a' := ?_) #[true, false, true, true, true, false, false, false, false] rfl rfl (any_of HT_.out (by kernel_rfl)) (fun _ _ _ h => h) (Or.inl ⟨by rfl, ?_⟩) ?_ ?_
    rotate_left
    ·intro w'
     go_simp
     with_reducible rfl
    rotate_left
    ·simp only [Act.put, List.setIfInBounds_toArray, List.set_cons_zero, List.set_cons_succ, i64_w, i32_w]
     rfl
    refine pure_ (i := 5) (N := some 38) (v := ?_) (a' := ?_) #[true, false, true, true, true, true, false, false, false] rfl rfl (any_of HT_.out (by kernel_rfl)) (fun _ _ _ h => h) (Or.inl ⟨by rfl, ?_⟩) ?_ ?_
    rotate_left
    ·intro w'
     go_simp
     with_reducible rfl
    rotate_left
    ·simp only [Act.put, List.setIfInBounds_toArray, List.set_cons_zero, List.set_cons_succ, i64_w, i32_w]
     rfl
    refine take_ (i := 1) (N := some 34) (v := ?_) (a' := ?_) #[true, true, true, true, true, true, false, false, false] rfl rfl (take_ofW HT_.out HW_.out (by kernel_rfl)) (fun _ _ _ h => h) (Or.inl ⟨by rfl, ?_⟩) hHeld ?_ ?_
    rotate_left
    ·rintro w' ⟨s0, s1⟩
     go_simp
     with_reducible rfl
    rotate_left
    ·simp only [Act.put, List.setIfInBounds_toArray, List.set_cons_zero, List.set_cons_succ, i64_w, i32_w]
     rfl
    refine take_ (i := 6) (N := some 39) (v := ?_) (a' := ?_) #[true, true, true, true, true, true, true, false, false] rfl rfl (take_ofW HT_.out HW_.out (by kernel_rfl)) (fun _ _ _ h => h) (Or.inl ⟨by rfl, ?_⟩) hHeld ?_ ?_
    rotate_left
    ·rintro w' ⟨s0, s1⟩
     go_simp
     with_reducible rfl
    rotate_left
    ·simp only [Act.put, List.setIfInBounds_toArray, List.set_cons_zero, List.set_cons_succ, i64_w, i32_w]
     rfl
    refine last_ (i := 7) (N := some 40) #[true, true, true, true, true, true, true, true, false] rfl rfl (one_of HT_.out (by kernel_rfl)) (by decide) (fun K hK => ?_)
    refine goes_ Try.func17 (by kernel_rfl) rfl #[.int .i64 y.f0, .int .i64 fst, .int .i64 wn] (by rfl) rfl rfl (by simp only [List.map_toArray, List.map_cons, List.map_nil]; rfl) ?_
    with_reducible refine (serial_Within.calls KK _ _ _ _ _ HWI.out).mono ?_
    rintro e w4 ⟨rfl, hb4⟩
    refine ⟨_, rfl, ?_⟩
    have S4 := Aside0.mk (S3.out.drew.below hb4)
    have BB4 := Aside0.mk (blk_below (blk_below BB3.out (below_drew (Below.refl _ _))) hb4)
    have b40 : w4.cell? ⟨gb, 0, none⟩ = some (.int .i64 y.f0) := (blk_cell BB4.out 0).trans rfl
    have b41 : w4.cell? ⟨gb, 1, none⟩ = some (.slice A1 m1 c1) := (blk_cell BB4.out 1).trans rfl
    clear hb4
    refine hK.out _ _ ?_
    clear hK K
    refine norm_ (a' := ?_) ?_ ?_
    rotate_left
    ·show Act.put _ (some 40) _ = _
     simp only [Act.put, List.setIfInBounds_toArray, List.set_cons_zero, List.set_cons_succ, i64_w, i32_w]
     rfl
    refine pure_ (i := 8) (N := some 41) (v := ?_) (a' := ?_) #[true, true, true, true, true, true, true, true, true] rfl rfl (any_of HT_.out (by kernel_rfl)) (fun _ _ _ h => h) (Or.inl ⟨by rfl, ?_⟩) ?_ ?_
    rotate_left
    ·intro w'
     go_simp
     with_reducible rfl
    rotate_left
    ·simp only [Act.put, List.setIfInBounds_toArray, List.set_cons_zero, List.set_cons_succ, i64_w, i32_w]
     rfl
    refine done_ (done_of HT_.out (by kernel_rfl)) ?_
    obtain ⟨A3, hA3⟩ : ∃ A3, A3 = (if cw = G then Aw else Aw.map (·.add (G * k34.sz))) := ⟨_, rfl⟩
    obtain ⟨c3, hc3⟩ : ∃ c3, c3 = cw - G := ⟨_, rfl⟩
    have HD3 := Aside0.mk (show k34.C w4 A3 (W.drop G).length (W.drop G) by rw [hA3]; exact Kd.C_drop (Kd.C_step_ S4.out.sd.roww) HGL.out HLC.out)
    have HD4 := Aside0.mk (show (W.drop G).length ≤ 1000000000000 by have := HLW.out; rw [List.length_drop]; omega)
    obtain ⟨nD, hnD⟩ : ∃ nD, nD = (W.drop G).length := ⟨_, rfl⟩
    have HND := Aside0.mk hnD
    have hcut := cut_o Aw nW cw G (by have := HGL.out; have := HNW.out; omega)
    rw [show nW - G = nD by rw [hnD, List.length_drop, ← HNW.out], ← hA3, ← hc3] at hcut
    have g2 : w4.cell? ⟨g, 2, none⟩ = some (.slice Aw nW cw) := (blk_cell S4.out.sd.blk 2).trans rfl
    clear hA3 hc3 hnD
    go_wp2_with (first | go_step3 | (go_at_call 30; (with_reducible refine (clo_nD HND.out A3 c3 _ HD3.out HD4.out).mono ?_); rintro x_ wc ⟨v3, rfl, hr, hb⟩; have HV3 := Aside0.mk hr; have HBC := Aside0.mk hb; have g22 : wc.cell? ⟨g, 2, none⟩ = some (.slice Aw nW cw) := (blk_cell (S4.out.below hb).sd.blk 2).trans rfl; have gf2 := blk_frozen (S4.out.below hb).sd.blk 2; obtain ⟨A9, c9, ev9⟩ := Kd.R_slice hr; (rw [← HND.out] at ev9); subst ev9; clear hr hb))
    simp only [Exit.noGoto]
    go_ret
    obtain ⟨F'', e1, e2, e3, e4⟩ := S4.out.fin HF.out HLT.out HOW.out HBC.out HV3.out HB1.out
    exact ⟨_, F'', _, _, O2, rfl, by rw [HX.out, ← HNX.out, ← HGG.out]; exact e1, by have e5 := e2; rw [HNW.out] at e5; exact e5, by rw [HX.out]; exact e3, e4, by rw [HX.out]; exact HO2.out⟩
   | true =>
    have HWI := Aside0.mk (show serial_Within.f KK y.f0 fst wn = some true by rw [← hpw]; exact HYB.out)
    have HPW := Aside0.mk hpw
    have HKE := Aside0.mk (show B.take x.toNat ++ [y] = B.take (x.toNat + 1) by rw [HY.out, List.take_succ_eq_append_getElem HXL.out])
    have hgw : wrap64 ((G : Int) + (m1 : Int)) = ((G + m1 : Nat) : Int) := w64 (by omega) (by
     have e1 := take_goneL x.toNat HXL.out
     have e2 := goneL_le B (x.toNat + 1)
     have := HGO.out
     have := HLW.out
     have := HGG.out
     have := HM1.out
     rw [← HY.out] at e1
     omega)
    clear hpw
    go_upto_region 10 with (first | go_step3 | ((with_reducible refine gate_dst (N := 9) rfl ?_); refine box_event ?hg (N := 9) ?hd (cs := #[.int .i64 0, .slice none 0 0]) (t := 48) ?hr ?_; (case hd => rfl); (case hg => rfl); (case hr => first | (go_simp; done) | (go_simp; rfl) | rfl | kernel_rfl); intro gb hg w3 hbox hb; have S3 := Aside0.mk (SS.out.below (show Below wr.heap.size wr ((w3.setCell ⟨gb, 0, none⟩ (.int .i64 y.f0)).setCell ⟨gb, 1, none⟩ (.slice A1 m1 c1)) from below_set (below_set hb (Nat.le_of_eq hg.symm)) (Nat.le_of_eq hg.symm))); have BB3 := Aside0.mk (blk_put (blk_put hbox 0 (.int .i64 y.f0) (cs' := #[.int .i64 y.f0, .slice none 0 0]) rfl) 1 (.slice A1 m1 c1) (cs' := #[.int .i64 y.f0, .slice A1 m1 c1]) rfl); have HGB := Aside0.mk (show ∀ k, v6.ownBlock = some k → k < gb from fun k hk => by rw [hg]; exact Kd.R_lt SS.out.out k hk); have a0 := (blk_cell hbox 0).trans rfl; have a1 := (blk_cell hbox 1).trans rfl; have af0 := blk_frozen hbox 0; have af1 := blk_frozen hbox 1; have b0 : ((w3.setCell ⟨gb, 0, none⟩ (.int .i64 y.f0)).setCell ⟨gb, 1, none⟩ (.slice A1 m1 c1)).cell? ⟨gb, 0, none⟩ = some (.int .i64 y.f0) := (blk_cell BB3.out 0).trans rfl; have z0 : ((w3.setCell ⟨gb, 0, none⟩ (.int .i64 y.f0)).setCell ⟨gb, 1, none⟩ (.slice A1 m1 c1)).cell? ⟨g, 0, none⟩ = some (.int .i64 wn) := (blk_cell S3.out.sd.blk 0).trans rfl; clear hb hbox hg))
    refine start_ (n := 9) (S := fun w' => w'.cell? ⟨gb, 0, none⟩ = some (.int .i64 y.f0) ∧ w'.cell? ⟨g, 0, none⟩ = some (.int .i64 wn)) (ds := [7]) #[false, false, false, false, false, false, false, false, false] (by kernel_rfl) rfl rfl ⟨b0, z0⟩ (fun hHeld => ?_); refine with_tabW sse.tab10 sse.bits10 (fun HT_ HW_ => ?_)
    refine pure_ (i := 0) (N := some 33) (v := ?_) (a' := ?_) #[true, false, false, false, false, false, false, false, false] rfl rfl (any_of HT_.out (by kernel_rfl)) (fun _ _ _ h => h) (Or.inl ⟨by rfl, ?_⟩) ?_ ?_
    rotate_left
    ·intro w'
     go_simp
     with_reducible rfl
    rotate_left
    ·simp only [Act.put, List.setIfInBounds_toArray, List.set_cons_zero, List.set_cons_succ, i64_w, i32_w]
     rfl
    refine pure_ (i := 2) (N := some 35) (v := ?_) (a' := ?_) #[true, false, true, false, false, false, false, false, false] rfl rfl (any_of HT_.out (by kernel_rfl)) (fun _ _ _ h => h) (Or.inl ⟨by rfl, ?_⟩) ?_ ?_
    rotate_left
    ·intro w'
     go_simp
     with_reducible rfl
    rotate_left
    ·simp only [Act.put, List.setIfInBounds_toArray, List.set_cons_zero, List.set_cons_succ, i64_w, i32_w]
     rfl
    refine pure_ (i := 3) (N := some 36) (v := ?_) (a' := ?_) #[true, false, true, true, false, false, false, false, false] rfl rfl (any_of HT_.out (by kernel_rfl)) (fun _ _ _ h => h) (Or.inl ⟨by rfl, ?_⟩) ?_ ?_
    rotate_left
    ·intro w'
     go_simp
     with_reducible rfl
    rotate_left
    ·simp only [Act.put, List.setIfInBounds_toArray, List.set_cons_zero, List.set_cons_succ, i64_w, i32_w]
     rfl
    refine pure_ (i := 4) (N := some 37) (v := ?_) (a' := ?_) #[true, false, true, true, true, false, false, false, false] rfl rfl (any_of HT_.out (by kernel_rfl)) (fun _ _ _ h => h) (Or.inl ⟨by rfl, ?_⟩) ?_ ?_
    rotate_left
    ·intro w'
     go_simp
     with_reducible rfl
    rotate_left
    ·simp only [Act.put, List.setIfInBounds_toArray, List.set_cons_zero, List.set_cons_succ, i64_w, i32_w]
     rfl
    refine pure_ (i := 5) (N := some 38) (v := ?_) (a' := ?_) #[true, false, true, true, true, true, false, false, false] rfl rfl (any_of HT_.out (by kernel_rfl)) (fun _ _ _ h => h) (Or.inl ⟨by rfl, ?_⟩) ?_ ?_
    rotate_left
    ·intro w'
     go_simp
     with_reducible rfl
    rotate_left
    ·simp only [Act.put, List.setIfInBounds_toArray, List.set_cons_zero, List.set_cons_succ, i64_w, i32_w]
     rfl
    refine take_ (i := 1) (N := some 34) (v := ?_) (a' := ?_) #[true, true, true, true, true, true, false, false, false] rfl rfl (take_ofW HT_.out HW_.out (by kernel_rfl)) (fun _ _ _ h => h) (Or.inl ⟨by rfl, ?_⟩) hHeld ?_ ?_
    rotate_left
    ·rintro w' ⟨s0, s1⟩
     go_simp
     with_reducible rfl
    rotate_left
    ·simp only [Act.put, List.setIfInBounds_toArray, List.set_cons_zero, List.set_cons_succ, i64_w, i32_w]
     rfl
    refine take_ (i := 6) (N := some 39) (v := ?_) (a' := ?_) #[true, true, true, true, true, true, true, false, false] rfl rfl (take_ofW HT_.out HW_.out (by kernel_rfl)) (fun _ _ _ h => h) (Or.inl ⟨by rfl, ?_⟩) hHeld ?_ ?_
    rotate_left
    ·rintro w' ⟨s0, s1⟩
     go_simp
     with_reducible rfl
    rotate_left
    ·simp only [Act.put, List.setIfInBounds_toArray, List.set_cons_zero, List.set_cons_succ, i64_w, i32_w]
     rfl
    refine last_ (i := 7) (N := some 40) #[true, true, true, true, true, true, true, true, false] rfl rfl (one_of HT_.out (by kernel_rfl)) (by decide) (fun K hK => ?_)
    refine goes_ Try.func17 (by kernel_rfl) rfl #[.int .i64 y.f0, .int .i64 fst, .int .i64 wn] (by rfl) rfl rfl (by simp only [List.map_toArray, List.map_cons, List.map_nil]; rfl) ?_
    with_reducible refine (serial_Within.calls KK _ _ _ _ _ HWI.out).mono ?_
    rintro e w4 ⟨rfl, hb4⟩
    refine ⟨_, rfl, ?_⟩
    have S4 := Aside0.mk (S3.out.drew.below hb4)
    have BB4 := Aside0.mk (blk_below (blk_below BB3.out (below_drew (Below.refl _ _))) hb4)
    have b40 : w4.cell? ⟨gb, 0, none⟩ = some (.int .i64 y.f0) := (blk_cell BB4.out 0).trans rfl
    have b41 : w4.cell? ⟨gb, 1, none⟩ = some (.slice A1 m1 c1) := (blk_cell BB4.out 1).trans rfl
    clear hb4
    refine hK.out _ _ ?_
    clear hK K
    refine norm_ (a' := ?_) ?_ ?_
    rotate_left
    ·show Act.put _ (some 40) _ = _
     simp only [Act.put, List.setIfInBounds_toArray, List.set_cons_zero, List.set_cons_succ, i64_w, i32_w]
     rfl
    refine pure_ (i := 8) (N := some 41) (v := ?_) (a' := ?_) #[true, true, true, true, true, true, true, true, true] rfl rfl (any_of HT_.out (by kernel_rfl)) (fun _ _ _ h => h) (Or.inl ⟨by rfl, ?_⟩) ?_ ?_
    rotate_left
    ·intro w'
     go_simp
     with_reducible rfl
    rotate_left
    ·simp only [Act.put, List.setIfInBounds_toArray, List.set_cons_zero, List.set_cons_succ, i64_w, i32_w]
     rfl
    refine done_ (done_of HT_.out (by kernel_rfl)) ?_
    go_upto_region 15 with (first
     | go_step3
     | ((with_reducible refine gate_dst (N := 44) rfl ?_); refine lit1_event ?hg (N := 44) ?hd (cs := #[.int .i64 y.f0, .slice A1 m1 c1]) (t := 48) (n := 1) ?hr ?_; (case hd => rfl); (case hg => rfl); (case hr => first | (go_simp; done) | (go_simp; rfl)); intro gl hg w5 hbox hb; have S5 := Aside0.mk (S4.out.below hb); have BL := Aside0.mk hbox; have BB5 := Aside0.mk (blk_below BB4.out hb); clear hb hbox hg)
     | ((with_reducible refine gate_builtin (b := .append) (xs := #[.tmp 42, .tmp 44]) rfl ?_); at_builtin; refine Kd.R_append_rows k48 (w0 := w0) w0.heap.size rfl (.tmp 42) (.tmp 44) 28 48 (.agg #[(.int .i64 0), (.slice none 0 0)]) 32 rfl Try.underlying28 info48 rfl (by decide) (by omega) v6 (B.take x.toNat) [y] _ _ _ (fun k => w.heap.size ≤ k) (fun k => w.heap.size ≤ k ∧ k < w1.heap.size) rfl rfl ?aO ?aR (fun _ _ h => h) ?aP ?aF ?aB ?aS ?aL ?_; (case aR => exact oneB_M BL.out (S5.out.inn HF.out HI1.out)); (case aB => exact S5.out.sd.bl); (case aF => exact (fun k hk => Nat.le_trans (S5.out.szw HF.out) hk)); (case aP => exact (fun k hk => ⟨hk.1, fun e => by have := (S5.out.own k e.symm).1; omega⟩)); (case aO => exact S5.out.out); (case aS => exact below_size S5.out.sd.bl); (case aL => have := HLB.out; have := HN.out; rw [List.length_take]; omega); intro v2 w6 ho hb hg hat; rw [HKE.out] at ho; have S6 := Aside0.mk (S5.out.outp HF.out ho hg hat); have BB6 := Aside0.mk (blk_grown BB5.out hg (fun e => by have := HGB.out gb e.symm; omega)); have b60 : w6.cell? ⟨gb, 0, none⟩ = some (.int .i64 y.f0) := (blk_cell BB6.out 0).trans rfl; have b61 : w6.cell? ⟨gb, 1, none⟩ = some (.slice A1 m1 c1) := (blk_cell BB6.out 1).trans rfl; clear ho hb hg hat)
     | ((with_reducible refine gate_dst (N := 53) rfl ?_); refine box_event ?hg (N := 53) ?hd (cs := #[.int .i32 0]) (t := 71) ?hr ?_; (case hd => rfl); (case hg => rfl); (case hr => first | (go_simp; done) | (go_simp; rfl) | rfl | kernel_rfl); intro gp hg w7 hbox hb; have S7 := Aside0.mk (S6.out.below hb); have BP7 := Aside0.mk hbox; have BB7 := Aside0.mk (blk_below BB6.out hb); have HPF := Aside0.mk (show ¬ F' gp from fun hF => by have := S6.out.sd.lt gp hF; omega); have HP1 := Aside0.mk (show w1.heap.size ≤ gp by rw [hg]; exact S6.out.sx.sz); clear hb hbox hg)
     | ((with_reducible refine gate_dst (N := 10) rfl ?_); refine box_event ?hg (N := 10) ?hd (cs := #[.int .i64 0, .slice none 0 0, .pointer none]) (t := 73) ?hr ?_; (case hd => rfl); (case hg => rfl); (case hr => first | (go_simp; done) | (go_simp; rfl) | rfl | kernel_rfl); intro gi hg w8 hbox hb; have HB9 := Aside0.mk (show Below w7.heap.size w7 (((w8.setCell ⟨gi, 0, none⟩ (.int .i64 y.f0)).setCell ⟨gi, 1, none⟩ (.slice A1 m1 c1)).setCell ⟨gi, 2, none⟩ (.pointer (some ⟨gp, 0, none⟩))) from below_set (below_set (below_set hb (Nat.le_of_eq hg.symm)) (Nat.le_of_eq hg.symm)) (Nat.le_of_eq hg.symm)); have S9 := Aside0.mk (S7.out.below HB9.out); have BP9 := Aside0.mk (blk_below BP7.out HB9.out); have BB9 := Aside0.mk (blk_below BB7.out HB9.out); have BI9 := Aside0.mk (blk_put (blk_put (blk_put hbox 0 (.int .i64 y.f0) (cs' := #[.int .i64 y.f0, .slice none 0 0, .pointer none]) rfl) 1 (.slice A1 m1 c1) (cs' := #[.int .i64 y.f0, .slice A1 m1 c1, .pointer none]) rfl) 2 (.pointer (some ⟨gp, 0, none⟩)) (cs' := #[.int .i64 y.f0, .slice A1 m1 c1, .pointer (some ⟨gp, 0, none⟩)]) rfl); have a0 := (blk_cell hbox 0).trans rfl; have a1 := (blk_cell hbox 1).trans rfl; have a2 := (blk_cell hbox 2).trans rfl; have af0 := blk_frozen hbox 0; have af1 := blk_frozen hbox 1; have af2 := blk_frozen hbox 2; have i2 : (((w8.setCell ⟨gi, 0, none⟩ (.int .i64 y.f0)).setCell ⟨gi, 1, none⟩ (.slice A1 m1 c1)).setCell ⟨gi, 2, none⟩ (.pointer (some ⟨gp, 0, none⟩))).cell? ⟨gi, 2, none⟩ = some (.pointer (some ⟨gp, 0, none⟩)) := (blk_cell BI9.out 2).trans rfl; clear hb hbox hg)
     | (go_at_call 29; (with_reducible refine (at_store gp 0 1 _ ((blk_cell BP9.out 0).trans rfl) (blk_frozen BP9.out 0)).mono ?_); rintro x_ w10 ⟨rfl, hw10⟩; have S10 := Aside0.mk (S9.out.setp HF.out BP9.out HPF.out HP1.out 0 (.int .i32 1)); have BP10 := Aside0.mk (blk_put BP9.out 0 (.int .i32 1) (cs' := #[.int .i32 1]) rfl); have BI10 := Aside0.mk (blk_far (p := ⟨gp, 0, none⟩) BI9.out (blk_ne BI9.out BP9.out (by decide)) (.int .i32 1)); have BB10 := Aside0.mk (blk_far (p := ⟨gp, 0, none⟩) BB9.out (blk_ne BB9.out BP9.out (by decide)) (.int .i32 1)); rw [← hw10] at S10 BP10 BI10 BB10; have i100 : w10.cell? ⟨gi, 0, none⟩ = some (.int .i64 y.f0) := (blk_cell BI10.out 0).trans rfl; have i101 : w10.cell? ⟨gi, 1, none⟩ = some (.slice A1 m1 c1) := (blk_cell BI10.out 1).trans rfl; have i102 : w10.cell? ⟨gi, 2, none⟩ = some (.pointer (some ⟨gp, 0, none⟩)) := (blk_cell BI10.out 2).trans rfl; have g103 : w10.cell? ⟨g, 3, none⟩ = some (.slice Ao mo co) := (blk_cell S10.out.sd.blk 3).trans rfl; clear hw10))
    refine start_ (n := 11) (S := fun w' => w'.cell? ⟨g, 3, none⟩ = some (.slice Ao mo co) ∧ w'.cell? ⟨gi, 0, none⟩ = some (.int .i64 y.f0) ∧ w'.cell? ⟨gi, 1, none⟩ = some (.slice A1 m1 c1) ∧ w'.cell? ⟨gi, 2, none⟩ = some (.pointer (some ⟨gp, 0, none⟩))) (ds := [7, 10]) #[false, false, false, false, false, false, false, false, false, false, false] (by kernel_rfl) rfl rfl ⟨g103, i100, i101, i102⟩ (fun hHeld => ?_); refine with_tabW sse.tab15 sse.bits15 (fun HT_ HW_ => ?_)
    refine pure_ (i := 0) (N := some 58) (v := ?_) (a' := ?_) #[true, false, false, false, false, false, false, false, false, false, false] rfl rfl (any_of HT_.out (by kernel_rfl)) (fun _ _ _ h => h) (Or.inl ⟨by rfl, ?_⟩) ?_ ?_
    rotate_left
    ·intro w'
     go_simp
     with_reducible rfl
    rotate_left
    ·simp only [Act.put, List.setIfInBounds_toArray, List.set_cons_zero, List.set_cons_succ, i64_w, i32_w]
     rfl
    refine pure_ (i := 1) (N := some 59) (v := ?_) (a' := ?_) #[true, true, false, false, false, false, false, false, false, false, false] rfl rfl (any_of HT_.out (by kernel_rfl)) (fun _ _ _ h => h) (Or.inl ⟨by rfl, ?_⟩) ?_ ?_
    rotate_left
    ·intro w'
     go_simp
     with_reducible rfl
    rotate_left
    ·simp only [Act.put, List.setIfInBounds_toArray, List.set_cons_zero, List.set_cons_succ, i64_w, i32_w]
     rfl
    refine pure_ (i := 2) (N := some 60) (v := ?_) (a' := ?_) #[true, true, true, false, false, false, false, false, false, false, false] rfl rfl (any_of HT_.out (by kernel_rfl)) (fun _ _ _ h => h) (Or.inl ⟨by rfl, ?_⟩) ?_ ?_
    rotate_left
    ·intro w'
     go_simp
     with_reducible rfl
    rotate_left
    ·simp only [Act.put, List.setIfInBounds_toArray, List.set_cons_zero, List.set_cons_succ, i64_w, i32_w]
     rfl
    refine pure_ (i := 3) (N := some 61) (v := ?_) (a' := ?_) #[true, true, true, true, false, false, false, false, false, false, false] rfl rfl (any_of HT_.out (by kernel_rfl)) (fun _ _ _ h => h) (Or.inl ⟨by rfl, ?_⟩) ?_ ?_
    rotate_left
    ·intro w'
     go_simp
     with_reducible rfl
    rotate_left
    ·simp only [Act.put, List.setIfInBounds_toArray, List.set_cons_zero, List.set_cons_succ, i64_w, i32_w]
     rfl
    refine take_ (i := 4) (N := some 62) (v := ?_) (a' := ?_) #[true, true, true, true, true, false, false, false, false, false, false] rfl rfl (take_ofW HT_.out HW_.out (by kernel_rfl)) (fun _ _ _ h => h) (Or.inl ⟨by rfl, ?_⟩) hHeld ?_ ?_
    rotate_left
    ·rintro w' ⟨s0, s1, s2, s3⟩
     go_simp
     with_reducible rfl
    rotate_left
    ·simp only [Act.put, List.setIfInBounds_toArray, List.set_cons_zero, List.set_cons_succ, i64_w, i32_w]
     rfl
    refine take_ (i := 5) (N := some 63) (v := ?_) (a' := ?_) #[true, true, true, true, true, true, false, false, false, false, false] rfl rfl (take_ofW HT_.out HW_.out (by kernel_rfl)) (fun _ _ _ h => h) (Or.inl ⟨by rfl, ?_⟩) hHeld ?_ ?_
    rotate_left
    ·rintro w' ⟨s0, s1, s2, s3⟩
     go_simp
     with_reducible rfl
    rotate_left
    ·simp only [Act.put, List.setIfInBounds_toArray, List.set_cons_zero, List.set_cons_succ, i64_w, i32_w]
     rfl
    refine one_ (i := 6) (N := some 64) #[true, true, true, true, true, true, true, false, false, false, false] rfl rfl (one_of HT_.out (by kernel_rfl)) (by decide) (fun K hK => ?_)
    refine lit1_step ?hg (N := 64) ?hd (cs := #[.int .i64 y.f0, .slice A1 m1 c1, .pointer (some ⟨gp, 0, none⟩)]) (t := 73) (n := 1) ?hr ?_
    (case hd => rfl)
    (case hg => rfl)
    (case hr => first | (go_simp; done) | (go_simp; rfl))
    intro gl2 hgl w11 hbox hb
    have S11 := Aside0.mk (S10.out.drew.below hb)
    have BG := Aside0.mk hbox
    have BP11 := Aside0.mk (blk_below (blk_below BP10.out (below_drew (Below.refl _ _))) hb)
    have BB11 := Aside0.mk (blk_below (blk_below BB10.out (below_drew (Below.refl _ _))) hb)
    refine hK.out _ _ ⟨(hb.cell (World.block_lt_of_cell? _ _ hHeld.1)).trans hHeld.1, (hb.cell (World.block_lt_of_cell? _ _ hHeld.2.1)).trans hHeld.2.1, (hb.cell (World.block_lt_of_cell? _ _ hHeld.2.2.1)).trans hHeld.2.2.1, (hb.cell (World.block_lt_of_cell? _ _ hHeld.2.2.2)).trans hHeld.2.2.2⟩ (fun hHeld => ?_)
    clear hK K
    refine norm_ (a' := ?_) ?_ ?_
    rotate_left
    ·show Act.put _ (some 64) _ = _
     simp only [Act.put, List.setIfInBounds_toArray, List.set_cons_zero, List.set_cons_succ, i64_w, i32_w]
     rfl
    refine last_ (i := 7) (N := some 65) #[true, true, true, true, true, true, true, true, false, false, false] rfl rfl (one_of HT_.out (by kernel_rfl)) (by decide) (fun K hK => ?_)
    refine Kd.R_append_rows_step kIt (w0 := w11) w0.heap.size ?hw (.tmp 62) (.tmp 64) 61 73 (.agg #[(.int .i64 0), (.slice none 0 0), (.pointer none)]) 40 rfl Try.underlying61 info73 rfl (by decide) (by omega) (.slice Ao mo co) (O2.map Prod.fst) [⟨y, gp⟩] _ _ _ (fun k => (F' k ∨ w11.heap.size ≤ k) ∧ k ≠ g ∧ some k ≠ (Value.slice Aw nW cw).ownBlock ∧ ∀ o ∈ O2, k ≠ o.1.p) (fun k => w.heap.size ≤ k ∧ k < w1.heap.size) rfl rfl ?aO ?aR (fun _ _ h => h) ?aP ?aF ?aB ?aS ?aL ?_
    (case hw => rfl)
    (case aR => exact oneIt_M (x := ⟨y, gp⟩) BG.out (S11.out.inn HF.out HI1.out))
    (case aP => exact fun k hk => ⟨⟨.inl (S11.out.notW HF.out k hk).1, fun e => (S11.out.notW HF.out k hk).2 (.inl e), fun e => (S11.out.notW HF.out k hk).2 (.inr (.inl e)), fun o ho e => (S11.out.notW HF.out k hk).2 (.inr (.inr (.inr ⟨o, ho, e⟩)))⟩, fun e => (S11.out.notW HF.out k hk).2 (.inr (.inr (.inl e)))⟩)
    (case aB => exact Below.refl _ _)
    (case aF => exact S11.out.sd.freshO)
    (case aO => exact Kd.R_mono S11.out.sd.rowo (fun k hk => ⟨.inl hk.1, hk.2⟩))
    (case aS => exact below_size S11.out.sd.bl)
    (case aL => have := HLO.out; rw [List.length_map]; omega)
    intro v2o w12 ho hb12 hg12 hat
    have HG := Aside0.mk ((hg12.block g (blk_lt S11.out.sd.blk) (fun e => (S11.out.sd.rowo.1 g e.symm).2.1 rfl)).trans S11.out.sd.blk)
    have d3 : w12.cell? ⟨g, 3, none⟩ = some (.slice Ao mo co) := (blk_cell HG.out 3).trans rfl
    have df : w12.frozen? ⟨g, 3, none⟩ = false := blk_frozen HG.out 3
    obtain ⟨A8, c8, ev8⟩ := Kd.R_slice ho
    obtain ⟨n8, e8⟩ : ∃ n8, n8 = (O2.map Prod.fst ++ [(⟨y, gp⟩ : It)]).length := ⟨_, rfl⟩
    rw [← e8] at ev8
    subst ev8
    clear e8
    have S12 := Aside0.mk (S11.out.put HF.out (x := ⟨y, gp⟩) BP11.out HPF.out HP1.out ho hg12 hat)
    have BB12 := Aside0.mk (blk_grown BB11.out hg12 (Kd.R_ne S11.out.sd.rowo BB11.out (by decide)))
    have hbg : gb ≠ g := blk_ne BB12.out HG.out (by decide)
    have BB13 := Aside0.mk (blk_far (p := ⟨g, 3, none⟩) BB12.out hbg (.slice A8 n8 c8))
    have b130 := (blk_cell BB13.out 0).trans rfl
    clear ho hb12 hg12 hat
    refine hK.out _ _ ?_
    clear hK K
    refine norm_ (a' := ?_) ?_ ?_
    rotate_left
    ·show Act.put _ (some 65) _ = _
     simp only [Act.put, List.setIfInBounds_toArray, List.set_cons_zero, List.set_cons_succ, i64_w, i32_w]
     rfl
    refine pure_ (i := 8) (N := some 66) (v := ?_) (a' := ?_) #[true, true, true, true, true, true, true, true, true, false, false] rfl rfl (any_of HT_.out (by kernel_rfl)) (fun _ _ _ h => h) (Or.inl ⟨by rfl, ?_⟩) ?_ ?_
    rotate_left
    ·intro w'
     go_simp
     with_reducible rfl
    rotate_left
    ·simp only [Act.put, List.setIfInBounds_toArray, List.set_cons_zero, List.set_cons_succ, i64_w, i32_w]
     rfl
    refine pure_ (i := 9) (N := some 67) (v := ?_) (a' := ?_) #[true, true, true, true, true, true, true, true, true, true, false] rfl rfl (any_of HT_.out (by kernel_rfl)) (fun _ _ _ h => h) (Or.inl ⟨by rfl, ?_⟩) ?_ ?_
    rotate_left
    ·intro w'
     go_simp
     with_reducible rfl
    rotate_left
    ·simp only [Act.put, List.setIfInBounds_toArray, List.set_cons_zero, List.set_cons_succ, i64_w, i32_w]
     rfl
    refine last_ (i := 10) (N := none) #[true, true, true, true, true, true, true, true, true, true, true] rfl rfl (one_of HT_.out (by kernel_rfl)) (by decide) (fun K hK => ?_)
    refine skip_ (w1 := ?_) (by rfl) rfl ?_ ?_
    rotate_left
    ·go_simp
     rfl
    refine hK.out _ _ ?_
    clear hK K
    refine done_ (done_of HT_.out (by kernel_rfl)) ?_
    go_wp2_with (first | go_step3 | (go_at_call 25; (with_reducible refine (serial_Next.calls y.f0 (nextN y.f0) _ (nxt_eq y.f0)).mono ?_); rintro x_ w13 ⟨rfl, hd⟩; have S13 := Aside0.mk (S12.out.below hd.below); have g134 : w13.cell? ⟨g, 4, none⟩ = some (.int .i64 nx2) := (blk_cell S13.out.sd.blk 4).trans rfl; have gf4 := blk_frozen S13.out.sd.blk 4; clear hd))
    go_roundg k1
    case measure => have := HI.out; omega
    case rel =>
     have hxs : (x + 1).toNat = x.toNat + 1 := by have := H0.out; omega
     refine ⟨x + 1, _, G + m1, _, _, _, _, by first | rfl | simp [hw], rfl, by first | rfl | simp [hgw], ⟨by have := H0.out; omega⟩, ⟨by have := HI.out; omega⟩, ⟨by rw [hxs]; exact S13.out.setN _⟩, ⟨?_⟩, ⟨?_⟩, ⟨?_⟩, ⟨fun j hj hji => ?_⟩⟩
     ·rw [hxs, take_goneL x.toNat HXL.out, ← HY.out, ← HGG.out, HM1.out]
     ·rw [hxs, ← HKE.out]
      simp only [dat, List.map_append, List.map_singleton, ← List.append_assoc]
      rw [show O2.map (fun o => (o.1.b, o.2)) = dat O2 from rfl, HO2.out]
      rfl
     ·rw [hxs, take_nextL x.toNat HXL.out, ← HY.out]
     ·rcases Int.lt_or_le (j : Int) x with e | e
      ·exact HA.out j hj e
      ·have : j = x.toNat := by have := H0.out; omega
       subst this
       rw [← HY.out]
       exact HPW.out
def ixB (q : It × Int → Bool) : List (It × Int) → Int → Int
 | [], _ => -1
 | o :: r, i => if q o = true then i else ixB q r (i + 1)
abbrev agQ (tr : Int) (o : It × Int) : Bool := decide (o.2 ≥ tr)
theorem wr_i64 {n : Int} (h0 : 0 ≤ n) (h1 : n ≤ 1000000) : IntKind.i64.wrap n = n := (i64_w n).trans (w64 (by omega) (by omega))
def sag.T1 : Bool × List (List Nat × List Nat) := (true, [([], []), ([0], [0]), ([1], [1]), ([2], [2]), ([], []), ([4], [4]), ([5], [5]), ([6], [6]), ([3, 7], [3, 7]), ([8, 2, 0, 1, 2, 3, 4, 5, 6, 7, 8], [8])])
def sag.B1 : List Nat := [0, 1, 3, 7, 0, 16, 48, 112, 255, 511]
theorem sag.tab1 : rtab .any (opsOf Try.f32 1) = sag.T1 := by kernel_rfl
theorem sag.bits1 : waitsOk sag.T1.2 sag.B1 = true := by kernel_rfl
theorem ag_pred (B g p : Nat) (bn n tr : Int) (A1 : Option Addr) (m1 c1 : Nat) (w : World) (r : Bool) (hr : decide (n ≥ tr) = r) (hB : w.cell? ⟨B, 0, none⟩ = some (.pointer (some ⟨g, 0, none⟩))) (hg : w.cell? ⟨g, 1, none⟩ = some (.int .i64 tr)) (hp : w.cell? ⟨p, 0, none⟩ = some (.int .i32 n)) (hn : IntKind.i64.wrap n = n) :
  Calls Try.prog 32 #[.agg #[.int .i64 bn, .slice A1 m1 c1, .pointer (some ⟨p, 0, none⟩)], .pointer (some ⟨B, 0, none⟩)] w fun e w' => e = .returned (.bool r) ∧ Below w.heap.size w w' := by
 have HB := Aside0.mk hB
 have HG := Aside0.mk hg
 have HP := Aside0.mk hp
 clear hB hg hp
 go_enter Try.func32, Try.ntmps32
 go_upto_region 1 with ((with_reducible refine gate_dst (N := 2) rfl ?_); refine box_event ?hg (N := 2) ?hd (cs := #[.int .i64 bn, .slice A1 m1 c1, .pointer (some ⟨p, 0, none⟩)]) (t := 73) ?hr ?_; (case hd => rfl); (case hg => rfl); (case hr => first | (go_simp; done) | (go_simp; rfl) | rfl | kernel_rfl); intro gb hg w2 hbox hb; have BB2 := Aside0.mk hb; have x2 : w2.cell? ⟨gb, 2, none⟩ = some (.pointer (some ⟨p, 0, none⟩)) := (blk_cell hbox 2).trans rfl; have y0 := cell_below' hb HB.out; have y1 := cell_below' hb HG.out; have y2 := cell_below' hb HP.out; clear hbox hb hg)
 refine start_ (n := 10) (S := fun w' => w'.cell? ⟨gb, 2, none⟩ = some (.pointer (some ⟨p, 0, none⟩)) ∧ w'.cell? ⟨B, 0, none⟩ = some (.pointer (some ⟨g, 0, none⟩)) ∧ w'.cell? ⟨g, 1, none⟩ = some (.int .i64 tr) ∧ w'.cell? ⟨p, 0, none⟩ = some (.int .i32 n)) (ds := []) #[false, false, false, false, false, false, false, false, false, false] (by kernel_rfl) rfl rfl ⟨x2, y0, y1, y2⟩ (fun hHeld => ?_); refine with_tabW sag.tab1 sag.bits1 (fun HT_ HW_ => ?_)
 refine pure_ (i := 0) (N := some 4) (v := ?_) (a' := ?_) #[true, false, false, false, false, false, false, false, false, false] rfl rfl (any_of HT_.out (by kernel_rfl)) (fun _ _ _ h => h) (Or.inl ⟨by rfl, ?_⟩) ?_ ?_
 rotate_left
 ·intro w'
  go_simp
  with_reducible rfl
 rotate_left
 ·simp only [Act.put, List.setIfInBounds_toArray, List.set_cons_zero, List.set_cons_succ, i64_w, i32_w]
  rfl
 refine take_ (i := 1) (N := some 5) (v := ?_) (a' := ?_) #[true, true, false, false, false, false, false, false, false, false] rfl rfl (take_ofW HT_.out HW_.out (by kernel_rfl)) (fun _ _ _ h => h) (Or.inl ⟨by rfl, ?_⟩) hHeld ?_ ?_
 rotate_left
 ·rintro w' ⟨s0, s1, s2, s3⟩
  go_simp
  with_reducible rfl
 rotate_left
 ·simp only [Act.put, List.setIfInBounds_toArray, List.set_cons_zero, List.set_cons_succ, i64_w, i32_w]
  rfl
 refine take_ (i := 4) (N := some 8) (v := ?_) (a' := ?_) #[true, true, false, false, true, false, false, false, false, false] rfl rfl (take_ofW HT_.out HW_.out (by kernel_rfl)) (fun _ _ _ h => h) (Or.inl ⟨by rfl, ?_⟩) hHeld ?_ ?_
 rotate_left
 ·rintro w' ⟨s0, s1, s2, s3⟩
  go_simp
  with_reducible rfl
 rotate_left
 ·simp only [Act.put, List.setIfInBounds_toArray, List.set_cons_zero, List.set_cons_succ, i64_w, i32_w]
  rfl
 refine pure_ (i := 5) (N := some 9) (v := ?_) (a' := ?_) #[true, true, false, false, true, true, false, false, false, false] rfl rfl (any_of HT_.out (by kernel_rfl)) (fun _ _ _ h => h) (Or.inl ⟨by rfl, ?_⟩) ?_ ?_
 rotate_left
 ·intro w'
  go_simp
  with_reducible rfl
 rotate_left
 ·simp only [Act.put, List.setIfInBounds_toArray, List.set_cons_zero, List.set_cons_succ, i64_w, i32_w]
  rfl
 refine pure_ (i := 6) (N := some 10) (v := ?_) (a' := ?_) #[true, true, false, false, true, true, true, false, false, false] rfl rfl (any_of HT_.out (by kernel_rfl)) (fun _ _ _ h => h) (Or.inl ⟨by rfl, ?_⟩) ?_ ?_
 rotate_left
 ·intro w'
  go_simp
  with_reducible rfl
 rotate_left
 ·simp only [Act.put, List.setIfInBounds_toArray, List.set_cons_zero, List.set_cons_succ, i64_w, i32_w]
  rfl
 refine take_ (i := 7) (N := some 11) (v := ?_) (a' := ?_) #[true, true, false, false, true, true, true, true, false, false] rfl rfl (take_ofW HT_.out HW_.out (by kernel_rfl)) (fun _ _ _ h => h) (Or.inl ⟨by rfl, ?_⟩) hHeld ?_ ?_
 rotate_left
 ·rintro w' ⟨s0, s1, s2, s3⟩
  go_simp
  with_reducible rfl
 rotate_left
 ·simp only [Act.put, List.setIfInBounds_toArray, List.set_cons_zero, List.set_cons_succ, i64_w, i32_w]
  rfl
 refine one_ (i := 2) (N := some 6) #[true, true, true, false, true, true, true, true, false, false] rfl rfl (one_of HT_.out (by kernel_rfl)) (by decide) (fun K hK => ?_)
 refine goes_ Try.func33 (by kernel_rfl) rfl #[.pointer (some ⟨p, 0, none⟩)] (by rfl) rfl rfl (by simp only [List.map_toArray, List.map_cons, List.map_nil]; rfl) ?_
 with_reducible refine (at_load p n _ hHeld.2.2.2).mono ?_
 rintro e w4 ⟨rfl, hw4⟩
 refine ⟨_, rfl, ?_⟩
 subst hw4
 refine hK.out _ _ ⟨hHeld.1, hHeld.2.1, hHeld.2.2.1, hHeld.2.2.2⟩ (fun hHeld => ?_)
 clear hK K
 refine norm_ (a' := ?_) ?_ ?_
 rotate_left
 ·show Act.put _ (some 6) _ = _
  simp only [Act.put, List.setIfInBounds_toArray, List.set_cons_zero, List.set_cons_succ, i64_w, i32_w]
  rfl
 refine pure_ (i := 3) (N := some 7) (v := ?_) (a' := ?_) #[true, true, true, true, true, true, true, true, false, false] rfl rfl (any_of HT_.out (by kernel_rfl)) (fun _ _ _ h => h) (Or.inl ⟨by rfl, ?_⟩) ?_ ?_
 rotate_left
 ·intro w'
  go_simp
  with_reducible rfl
 rotate_left
 ·simp only [Act.put, List.setIfInBounds_toArray, List.set_cons_zero, List.set_cons_succ, i64_w, i32_w]
  rfl
 refine pure_ (i := 8) (N := some 12) (v := ?_) (a' := ?_) #[true, true, true, true, true, true, true, true, true, false] rfl rfl (any_of HT_.out (by kernel_rfl)) (fun _ _ _ h => h) (Or.inl ⟨by rfl, ?_⟩) ?_ ?_
 rotate_left
 ·intro w'
  go_simp
  with_reducible rfl
 rotate_left
 ·simp only [Act.put, List.setIfInBounds_toArray, List.set_cons_zero, List.set_cons_succ, i64_w, i32_w]
  rfl
 refine pure_ (i := 9) (N := some 3) (v := ?_) (a' := ?_) #[true, true, true, true, true, true, true, true, true, true] rfl rfl (any_of HT_.out (by kernel_rfl)) (fun _ _ _ h => h) (Or.inl ⟨by rfl, ?_⟩) ?_ ?_
 rotate_left
 ·intro w'
  go_simp
  with_reducible rfl
 rotate_left
 ·simp only [Act.put, List.setIfInBounds_toArray, List.set_cons_zero, List.set_cons_succ, i64_w, i32_w]
  rfl
 refine done_ (done_of HT_.out (by kernel_rfl)) ?_
 go_wp2
 go_ret
 exact ⟨rfl, below_step BB2.out (below_drew (Below.refl _ _))⟩
theorem ag_index (A : Option Addr) (c n B : Nat) (O : List (It × Int)) (w : World) (hn : n = O.length) (hr : Kd.C kIt w A (O.map Prod.fst).length (O.map Prod.fst)) (hl : O.length ≤ 1000000) (tr : Int) (g : Nat) (hB : w.cell? ⟨B, 0, none⟩ = some (.pointer (some ⟨g, 0, none⟩))) (hg : w.cell? ⟨g, 1, none⟩ = some (.int .i64 tr)) (hc : ∀ o ∈ O, w.cell? ⟨o.1.p, 0, none⟩ = some (.int .i32 o.2)) (hb : ∀ o ∈ O, 0 ≤ o.2 ∧ o.2 ≤ 1000000) :
  Calls Try.prog 54 #[.slice A n c, .func (.func 32) #[] #[.pointer (some ⟨B, 0, none⟩)]] w fun e w' => e = .returned (.int .i64 (ixB (agQ tr) O 0)) ∧ Below w.heap.size w w' := by
 have HR := Aside0.mk hr
 have HL := Aside0.mk hl
 have HN := Aside0.mk hn
 have HB := Aside0.mk hB
 have HG := Aside0.mk hg
 have HC := Aside0.mk hc
 have HBD := Aside0.mk hb
 clear hB hg hc hb
 obtain ⟨R, hR⟩ : ∃ R, R = ixB (agQ tr) O 0 := ⟨_, rfl⟩
 rw [← hR]
 have HX := Aside0.mk hR.symm
 rw [List.length_map, ← hn] at HR
 clear hr hl hn hR
 go_enter Try.func54, Try.ntmps54
 go_wp2
 go_loopg [5, 8] n (fun kq v5 v8 wr => ∃ x : Int, v8 = .int .i64 x ∧ Aside0 (0 ≤ x) ∧ Aside0 (x + kq = n) ∧ Aside0 (ixB (agQ tr) (O.drop x.toNat) x = R) ∧ Aside0 (Below w.heap.size w wr))
 case atStart => exact ⟨0, rfl, ⟨by omega⟩, ⟨by omega⟩, HX, ⟨Below.refl _ _⟩⟩
 case round =>
  clear HX
  obtain ⟨x, rfl, H0, HI, HX, BL⟩ := hrel
  cases gk with
  | zero =>
   have hnl : decide (x < (n : Int)) = false := decide_eq_false (by have := HI.out; omega)
   have hx := HX.out
   rw [List.drop_eq_nil_of_le (by have := HI.out; have := HN.out; omega)] at hx
   simp only [ixB] at hx
   subst hx
   go_wp2
   go_ret
   exact ⟨rfl, BL.out⟩
  | succ k1 =>
   have hlt := (show x < (n : Int) by have := HI.out; omega)
   have h0 := H0.out
   have HXL := Aside0.mk (show x.toNat < O.length by have := HN.out; omega)
   obtain ⟨ad, A1, c1, e_, hx0, hx1, hx2, _, _⟩ := at_It HR.out x h0 hlt
   cases e_
   obtain ⟨o, ho⟩ : ∃ o, o = O[x.toNat]'(HXL.out) := ⟨_, rfl⟩
   have HO := Aside0.mk ho
   have hy : rd_It (O.map Prod.fst) x = o.1 := by rw [ho, ← List.getElem_map Prod.fst (h := by rw [List.length_map]; exact HXL.out), ← it_rd]; congr 1; omega
   rw [hy] at hx0 hx1 hx2
   replace hx0 := cell_below' BL.out hx0
   replace hx1 := cell_below' BL.out hx1
   replace hx2 := cell_below' BL.out hx2
   obtain ⟨m1, hm1⟩ : ∃ m1, m1 = o.1.b.f1.length := ⟨_, rfl⟩
   rw [← hm1] at hx1
   have HM := Aside0.mk (show o ∈ O by rw [ho]; exact List.getElem_mem _)
   have hd : decide (x < (n : Int)) = true := decide_eq_true hlt
   have hb0 : x < 9223372036854775807 := by have := HL.out; have := HN.out; omega
   have hw : wrap64 (x + 1) = x + 1 := w64 (by omega) (by omega)
   have hx := HX.out
   have hg : O.drop x.toNat = o :: O.drop (x + 1).toNat := by
    rw [List.drop_eq_getElem_cons HXL.out, show (x + 1).toNat = x.toNat + 1 by omega, ho]
   rw [hg] at hx
   simp only [ixB] at hx
   clear hg HX ho hy hm1
   have h0t := eq_true h0
   have hltt := eq_true hlt
   cases hq : (agQ tr) o with
   | true =>
    rw [if_pos hq] at hx
    subst hx
    have HQ := Aside0.mk hq
    clear hq
    go_wp2_with (go_at_call 32; (with_reducible refine (ag_pred B g o.1.p o.1.b.f0 o.2 tr A1 m1 c1 _ _ HQ.out (cell_below' BL.out HB.out) (cell_below' BL.out HG.out) (cell_below' BL.out (HC.out o HM.out)) (wr_i64 (HBD.out o HM.out).1 (HBD.out o HM.out).2)).mono ?_); rintro e2 w2 ⟨rfl, hb⟩; have BL2 := Aside0.mk (below_step BL.out hb); clear hb)
    go_ret
    exact ⟨rfl, BL2.out⟩
   | false =>
    rw [if_neg (by rw [hq]; decide)] at hx
    have HX := Aside0.mk hx
    have HQ := Aside0.mk hq
    clear hx hq
    go_wp2_with (go_at_call 32; (with_reducible refine (ag_pred B g o.1.p o.1.b.f0 o.2 tr A1 m1 c1 _ _ HQ.out (cell_below' BL.out HB.out) (cell_below' BL.out HG.out) (cell_below' BL.out (HC.out o HM.out)) (wr_i64 (HBD.out o HM.out).1 (HBD.out o HM.out).2)).mono ?_); rintro e2 w2 ⟨rfl, hb⟩; have BL2 := Aside0.mk (below_step BL.out hb); clear hb)
    go_roundg k1
    case measure => have := HI.out; omega
    case rel => exact ⟨x + 1, by first | rfl | simp [hw], ⟨by omega⟩, ⟨by have := HI.out; omega⟩, HX, BL2⟩
theorem ixB_none {q : It × Int → Bool} : ∀ (O : List (It × Int)) (i : Int), (∀ o ∈ O, q o = false) → ixB q O i = -1 := by
 intro O
 induction O with
 | nil => intro i _; rfl
 | cons o r ih =>
  intro i h
  unfold ixB
  rw [if_neg (by rw [h o List.mem_cons_self]; decide)]
  exact ih _ (fun p hp => h p (List.mem_cons_of_mem _ hp))
theorem ixB_some {q : It × Int → Bool} : ∀ (O : List (It × Int)) (i : Int), 0 ≤ i → (∃ o ∈ O, q o = true) → ixB q O i ≥ 0 := by
 intro O
 induction O with
 | nil => rintro i _ ⟨o, ho, _⟩; cases ho
 | cons o r ih =>
  rintro i hi ⟨p, hp, hq⟩
  unfold ixB
  split
  ·exact hi
  ·rename_i hn
   rcases List.mem_cons.1 hp with rfl | hp
   ·exact absurd hq hn
   ·exact ih _ (by omega) ⟨p, hp, hq⟩
theorem i32_sm {n : Int} (h0 : 0 ≤ n) (h1 : n ≤ 2000000) : IntKind.i32.wrap n = n := by rw [i32_w]; unfold wrap32; omega
def bumpL (O : List (It × Int)) (i : Nat) : List (It × Int) := (O.take i).map (fun o => (o.1, o.2 + 1)) ++ O.drop i
theorem bumpL_fst (O : List (It × Int)) (i : Nat) : (bumpL O i).map Prod.fst = O.map Prod.fst := by
 unfold bumpL
 rw [List.map_append, List.map_map]
 conv => rhs; rw [← List.take_append_drop i O, List.map_append]
 rfl
theorem bumpL_len (O : List (It × Int)) (i : Nat) : (bumpL O i).length = O.length := by
 have := congrArg List.length (bumpL_fst O i)
 simpa using this
theorem bumpL_at (O : List (It × Int)) (i : Nat) (h : i < O.length) : (bumpL O i)[i]'(by rw [bumpL_len]; exact h) = O[i] := by
 unfold bumpL
 rw [List.getElem_append_right (by rw [List.length_map, List.length_take]; omega)]
 simp only [List.length_map, List.length_take, List.getElem_drop]
 congr 1
 omega
theorem bumpL_set (O : List (It × Int)) (i : Nat) (h : i < O.length) : (bumpL O i).set i (O[i].1, O[i].2 + 1) = bumpL O (i + 1) := by
 unfold bumpL
 have hl : ((O.take i).map fun o => (o.1, o.2 + 1)).length = i := by rw [List.length_map, List.length_take]; omega
 rw [List.set_append_right _ _ (by omega), hl, Nat.sub_self, List.drop_eq_getElem_cons h, List.set_cons_zero, List.take_succ_eq_append_getElem h, List.map_append, List.append_assoc]
 rfl
def bumpA (O : List (It × Int)) : List (It × Int) := O.map fun o => (o.1, o.2 + 1)
theorem bumpL_all (O : List (It × Int)) (i : Nat) (h : i = O.length) : bumpL O i = bumpA O := by
 subst h
 unfold bumpL bumpA
 rw [List.take_length, List.drop_length, List.append_nil]
theorem set_mem {O : List (It × Int)} {i : Nat} {m : Int} (hi : i < O.length) {o : It × Int} (ho : o ∈ O.set i (O[i].1, m)) : (o = (O[i].1, m)) ∨ ∃ j, ∃ h : j < O.length, j ≠ i ∧ o = O[j] := by
 obtain ⟨j, hj, e⟩ := List.mem_iff_getElem.1 ho
 rw [List.length_set] at hj
 rw [List.getElem_set] at e
 split at e
 ·exact .inl e.symm
 ·rename_i hne
  exact .inr ⟨j, hj, fun e2 => hne e2.symm, e.symm⟩
theorem set_fst {O : List (It × Int)} {i : Nat} {m : Int} (hi : i < O.length) : (O.set i (O[i].1, m)).map Prod.fst = O.map Prod.fst := by
 rw [List.map_set]
 apply List.ext_getElem
 ·simp
 ·intro j h1 h2
  rw [List.getElem_set]
  split
  ·rename_i e
   subst e
   simp
  ·rfl
theorem Sd.bump {w0 w : World} {F : Nat → Prop} {g : Nat} {wn tr nx : Int} {W : List S34} {O : List (It × Int)} {vw vo : Value} (h : Sd w0 w F g wn tr W O nx vw vo) (i : Nat) (hi : i < O.length) {o : It × Int} (ho : O[i] = o) (m : Int) :
  Sd w0 (w.setCell ⟨o.1.p, 0, none⟩ (.int .i32 m)) F g wn tr W (O.set i (o.1, m)) nx vw vo := by
 subst ho
 obtain ⟨c1, c2, c3, c4⟩ := h.cnt _ (List.getElem_mem hi)
 have hok : ∀ k, (∀ o ∈ O, k ≠ o.1.p) → ∀ o ∈ O.set i (O[i].1, m), k ≠ o.1.p := by
  intro k hk o ho
  rcases set_mem hi ho with e | ⟨j, hj, _, e⟩
  ·rw [e]; show k ≠ O[i].1.p; exact hk O[i] (List.getElem_mem hi)
  ·rw [e]; exact hk O[j] (List.getElem_mem hj)
 refine ⟨h.bl.setCell c3 _, (Below.heap_setCell w ⟨O[i].1.p, 0, none⟩ _ g (fun e => c2 e.symm)).trans h.blk, h.new, fun k hk => Nat.lt_of_lt_of_le (h.lt k hk) (set_size _ _ _), h.fg, ?_, ?_, fun o ho => ?_, ?_⟩
 ·exact Kd.R_mono (Kd.R_far (p := ⟨O[i].1.p, 0, none⟩) h.roww (fun k hk e => hk.2.2.2 _ (List.getElem_mem hi) e) _) (fun k hk => ⟨hk.1, hk.2.1, hk.2.2.1, hok k hk.2.2.2⟩)
 ·rw [set_fst hi]
  exact Kd.R_mono (Kd.R_far (p := ⟨O[i].1.p, 0, none⟩) h.rowo (fun k hk e => hk.2.2.2 _ (List.getElem_mem hi) e) _) (fun k hk => ⟨hk.1, hk.2.1, hk.2.2.1, hok k hk.2.2.2⟩)
 ·rcases set_mem hi ho with e | ⟨j, hj, hne, e⟩
  ·subst e
   exact ⟨c1, c2, c3, blk_put c4 0 (.int .i32 m) rfl⟩
  ·subst e
   obtain ⟨d1, d2, d3, d4⟩ := h.cnt _ (List.getElem_mem hj)
   have hp := List.pairwise_iff_getElem.1 h.apart
   refine ⟨d1, d2, d3, (Below.heap_setCell w ⟨O[i].1.p, 0, none⟩ _ _ ?_).trans d4⟩
   rcases Nat.lt_or_gt_of_ne hne with e | e
   ·exact hp j i hj hi e
   ·exact fun e2 => hp i j hi hj e e2.symm
 ·have hq : (O.map fun o => o.1.p).Pairwise (· ≠ ·) := List.pairwise_map.2 h.apart
  have he : (O.set i (O[i].1, m)).map (fun o => o.1.p) = O.map fun o => o.1.p := by
   have := congrArg (List.map It.p) (set_fst (m := m) hi)
   rw [List.map_map, List.map_map] at this
   exact this
  rw [← he] at hq
  exact List.pairwise_map.1 hq
theorem Wr.bump {g : Nat} {vw vo : Value} {O O2 : List (It × Int)} (h : O2.map Prod.fst = O.map Prod.fst) (k : Nat) : Wr g vw vo O2 k → Wr g vw vo O k := by
 have key : ∀ {A B : List (It × Int)}, A.map Prod.fst = B.map Prod.fst → (∃ o ∈ A, k = o.1.p) → ∃ o ∈ B, k = o.1.p := by
  rintro A B e ⟨o, ho, rfl⟩
  have : o.1 ∈ B.map Prod.fst := e ▸ List.mem_map_of_mem ho
  obtain ⟨o2, h2, h3⟩ := List.mem_map.1 this
  exact ⟨o2, h2, by rw [h3]⟩
 rintro (e | e | e | e)
 ·exact .inl e
 ·exact .inr (.inl e)
 ·exact .inr (.inr (.inl e))
 ·exact .inr (.inr (.inr (key h e)))
theorem ag_contains (A : Option Addr) (c n B : Nat) (O : List (It × Int)) (w : World) (hn : n = O.length) (hr : Kd.C kIt w A (O.map Prod.fst).length (O.map Prod.fst)) (hl : O.length ≤ 1000000) (tr : Int) (g : Nat) (hB : w.cell? ⟨B, 0, none⟩ = some (.pointer (some ⟨g, 0, none⟩))) (hg : w.cell? ⟨g, 1, none⟩ = some (.int .i64 tr)) (hc : ∀ o ∈ O, w.cell? ⟨o.1.p, 0, none⟩ = some (.int .i32 o.2)) (hb : ∀ o ∈ O, 0 ≤ o.2 ∧ o.2 ≤ 1000000) (b : Bool) (hbq : decide (ixB (agQ tr) O 0 ≥ 0) = b) :
  Calls Try.prog 31 #[.slice A n c, .func (.func 32) #[] #[.pointer (some ⟨B, 0, none⟩)]] w fun e w' => e = .returned (.bool b) ∧ Below w.heap.size w w' := by
 have HI := Aside0.mk (ag_index A c n B O w hn hr hl tr g hB hg hc hb)
 obtain ⟨R, hR⟩ : ∃ R, R = ixB (agQ tr) O 0 := ⟨_, rfl⟩
 rw [← hR] at HI hbq
 clear hn hr hl hB hg hc hb hR
 go_enter Try.func31, Try.ntmps31
 go_wp2_with (go_at_call 54; (with_reducible refine HI.out.mono ?_); rintro e w2 ⟨rfl, hb⟩; have B2 := Aside0.mk hb; clear hb)
 go_ret
 exact ⟨rfl, B2.out⟩
theorem sagain_bad {w0 w : World} {F : Nat → Prop} {g : Nat} {wn tr nx : Int} {W : List S34} {O : List (It × Int)} {vw vo : Value} (h : Sd w0 w F g wn tr W O nx vw vo) (hl : O.length ≤ 1000000) (hb : ∀ o ∈ O, 0 ≤ o.2 ∧ o.2 ≤ 1000000) (hq : ∃ o ∈ O, o.2 ≥ tr) :
  Calls Try.prog 13 #[.pointer (some ⟨g, 0, none⟩)] w fun e w' => e = .returned (.tuple #[.slice none 0 0, .bool false]) ∧ Below w.heap.size w w' := by
 obtain ⟨Ao, co, rfl⟩ := Kd.R_slice h.rowo
 obtain ⟨n, hn⟩ : ∃ n, n = (O.map Prod.fst).length := ⟨_, rfl⟩
 rw [← hn] at h
 have HS := Aside0.mk h
 have HN := Aside0.mk (show n = O.length by rw [hn, List.length_map])
 have HL := Aside0.mk hl
 have HB := Aside0.mk hb
 have HQ := Aside0.mk (show decide (ixB (agQ tr) O 0 ≥ 0) = true from decide_eq_true (ixB_some O 0 (Int.le_refl _) (by obtain ⟨o, ho, h1⟩ := hq; exact ⟨o, ho, decide_eq_true h1⟩)))
 clear h hn hl hb hq
 go_enter Try.func13, Try.ntmps13
 go_wp2_with (first
  | ((with_reducible refine gate_dst (N := 1) rfl ?_); refine box_event ?hg (N := 1) ?hd (cs := #[.pointer (some ⟨g, 0, none⟩)]) (t := 23) ?hr ?_; (case hd => rfl); (case hg => rfl); (case hr => first | (go_simp; done) | (go_simp; rfl) | rfl | kernel_rfl); intro gB hg w2 hbox hb; have S1 := Aside0.mk (HS.out.below hb); have B1 := Aside0.mk hb; have BX1 := Aside0.mk hbox; have xB : w2.cell? ⟨gB, 0, none⟩ = some (.pointer (some ⟨g, 0, none⟩)) := (blk_cell hbox 0).trans rfl; have x3 : w2.cell? ⟨g, 3, none⟩ = some (.slice Ao n co) := (blk_cell S1.out.blk 3).trans rfl; clear hb hbox hg)
  | (go_at_call 31; (with_reducible refine (ag_contains Ao co n gB O _ HN.out (Kd.R_reads' S1.out.rowo).2.2 HL.out tr g ((blk_cell BX1.out 0).trans rfl) ((blk_cell S1.out.blk 1).trans rfl) (fun o ho => (blk_cell (S1.out.cnt o ho).2.2.2 0).trans rfl) HB.out _ HQ.out).mono ?_); rintro e w3 ⟨rfl, hb⟩; have S2 := Aside0.mk (S1.out.below hb); have B2 := Aside0.mk (below_step B1.out hb); have BX2 := Aside0.mk (blk_below BX1.out hb); have xB2 : w3.cell? ⟨gB, 0, none⟩ = some (.pointer (some ⟨g, 0, none⟩)) := (blk_cell BX2.out 0).trans rfl; have x32 : w3.cell? ⟨g, 3, none⟩ = some (.slice Ao n co) := (blk_cell S2.out.blk 3).trans rfl; clear hb))
 go_ret2
 exact ⟨rfl, B2.out⟩
theorem sagain_ok {w0 w : World} {F : Nat → Prop} {g : Nat} {wn tr nx : Int} {W : List S34} {O : List (It × Int)} {vw vo : Value} (h : Sd w0 w F g wn tr W O nx vw vo) (hl : O.length ≤ 1000000) (hb : ∀ o ∈ O, 0 ≤ o.2 ∧ o.2 ≤ 1000000) (hq : ∀ o ∈ O, ¬ o.2 ≥ tr) :
  Calls Try.prog 13 #[.pointer (some ⟨g, 0, none⟩)] w fun e w' => ∃ v, e = .returned (.tuple #[v, .bool true]) ∧ Sd w0 w' F g wn tr W (bumpA O) nx vw vo ∧ SX w F (Wr g vw vo O) w' F (Wr g vw vo (bumpA O)) ∧
   k48.R 48 w' w0.heap.size (fun k => w.heap.size ≤ k ∨ (F k ∧ ¬ Wr g vw vo O k)) v ((O.map Prod.fst).map It.b) ∧ ∀ k, v.ownBlock = some k → w.heap.size ≤ k ∧ ¬ F k := by
 obtain ⟨Ao, co, rfl⟩ := Kd.R_slice h.rowo
 obtain ⟨n, hn⟩ : ∃ n, n = (O.map Prod.fst).length := ⟨_, rfl⟩
 rw [← hn] at h ⊢
 have HS := Aside0.mk h
 have HN := Aside0.mk (show n = O.length by rw [hn, List.length_map])
 have HL := Aside0.mk hl
 have HB := Aside0.mk hb
 have HQ := Aside0.mk (show decide (ixB (agQ tr) O 0 ≥ 0) = false from decide_eq_false (by rw [ixB_none O 0 (fun o ho => decide_eq_false (hq o ho))]; decide))
 clear h hn hl hb hq
 go_enter Try.func13, Try.ntmps13
 go_wp2_with (first
  | ((with_reducible refine gate_dst (N := 1) rfl ?_); refine box_event ?hg (N := 1) ?hd (cs := #[.pointer (some ⟨g, 0, none⟩)]) (t := 23) ?hr ?_; (case hd => rfl); (case hg => rfl); (case hr => first | (go_simp; done) | (go_simp; rfl) | rfl | kernel_rfl); intro gB hg w2 hbox hb; have S1 := Aside0.mk (HS.out.below hb); have B1 := Aside0.mk hb; have BX1 := Aside0.mk hbox; have xB : w2.cell? ⟨gB, 0, none⟩ = some (.pointer (some ⟨g, 0, none⟩)) := (blk_cell hbox 0).trans rfl; have x3 : w2.cell? ⟨g, 3, none⟩ = some (.slice Ao n co) := (blk_cell S1.out.blk 3).trans rfl; clear hb hbox hg)
  | (go_at_call 31; (with_reducible refine (ag_contains Ao co n gB O _ HN.out (Kd.R_reads' S1.out.rowo).2.2 HL.out tr g ((blk_cell BX1.out 0).trans rfl) ((blk_cell S1.out.blk 1).trans rfl) (fun o ho => (blk_cell (S1.out.cnt o ho).2.2.2 0).trans rfl) HB.out _ HQ.out).mono ?_); rintro e w3 ⟨rfl, hb⟩; have S2 := Aside0.mk (S1.out.below hb); have B2 := Aside0.mk (below_step B1.out hb); have BX2 := Aside0.mk (blk_below BX1.out hb); have xB2 : w3.cell? ⟨gB, 0, none⟩ = some (.pointer (some ⟨g, 0, none⟩)) := (blk_cell BX2.out 0).trans rfl; have x32 : w3.cell? ⟨g, 3, none⟩ = some (.slice Ao n co) := (blk_cell S2.out.blk 3).trans rfl; clear hb))
 go_loopg [19] n (fun kq v19 wr => ∃ (x : Int), v19 = .int .i64 x ∧ Aside0 (0 ≤ x) ∧ Aside0 (x + kq = n) ∧ Aside0 (Sd w0 wr F g wn tr W (bumpL O x.toNat) nx vw (.slice Ao n co)) ∧ Aside0 (SX w F (Wr g vw (.slice Ao n co) O) wr F (Wr g vw (.slice Ao n co) O)) ∧ Aside0 (wr.heap[gB]? = some (.cells #[.pointer (some ⟨g, 0, none⟩)] 23 (0, 0))))
 case atStart => exact ⟨0, rfl, ⟨by omega⟩, ⟨by omega⟩, ⟨S2.out⟩, ⟨SX.of_below _ _ B2.out⟩, BX2⟩
 case round =>
  clear S1 S2 BX1 BX2 B1 B2
  obtain ⟨x, rfl, H0, HI, SS, SXS, BXS⟩ := hrel
  cases gk with
  | zero =>
   have hnl : decide (x < (n : Int)) = false := decide_eq_false (by have := HI.out; omega)
   have hxl : x.toNat = O.length := by have := HI.out; have := HN.out; have := H0.out; omega
   have hs := SS.out
   rw [bumpL_all O _ hxl] at hs
   have SF := Aside0.mk hs
   have HLB := Aside0.mk (show (bumpA O).length ≤ 1000000 by unfold bumpA; rw [List.length_map]; exact HL.out)
   have zB : wr.cell? ⟨gB, 0, none⟩ = some (.pointer (some ⟨g, 0, none⟩)) := (blk_cell BXS.out 0).trans rfl
   clear hxl hs SS
   go_wp2_with (go_at_call 15; (with_reducible refine (sout_s SF.out HLB.out).mono ?_); rintro x_ w12 ⟨v12, rfl, hos⟩; have HOS := Aside0.mk hos; clear hos)
   go_ret2
   have hfst : (bumpA O).map Prod.fst = O.map Prod.fst := by unfold bumpA; rw [List.map_map]; rfl
   refine ⟨_, rfl, SF.out.below HOS.out.bl, ⟨Nat.le_trans SXS.out.sz HOS.out.bl.size, fun k hk hR => (HOS.out.bl.block k (Nat.lt_of_lt_of_le hk SXS.out.sz)).trans (SXS.out.fr k hk hR), fun k hk => .inl hk, fun k hk => .inl (Wr.bump hfst k hk)⟩, ?_, fun k hk => ⟨Nat.le_trans SXS.out.sz (HOS.out.own k hk), fun hF => by have := SF.out.lt k hF; have := HOS.out.own k hk; omega⟩⟩
   have hrow := HOS.out.row
   rw [hfst] at hrow
   refine Kd.R_mono hrow (fun k hk => ?_)
   rcases hk with e | e
   ·exact .inl (Nat.le_trans SXS.out.sz e)
   ·exact .inr ⟨e.1, fun hR => e.2 (Wr.bump hfst.symm k hR)⟩
  | succ k1 =>
   have hlt := (show x < (n : Int) by have := HI.out; omega)
   have h0 := H0.out
   have HXL := Aside0.mk (show x.toNat < O.length by have := HN.out; omega)
   have HXB := Aside0.mk (show x.toNat < (bumpL O x.toNat).length by rw [bumpL_len]; exact HXL.out)
   have hC := (Kd.R_reads' SS.out.rowo).2.2
   rw [bumpL_fst] at hC
   obtain ⟨ad, A1, c1, e_, hx0, hx1, hx2, _, _⟩ := at_It hC x h0 (by rw [List.length_map, ← HN.out]; exact hlt)
   cases e_
   obtain ⟨o, ho⟩ : ∃ o, o = O[x.toNat]'(HXL.out) := ⟨_, rfl⟩
   have HOO := Aside0.mk ho
   have HOX := Aside0.mk (show (bumpL O x.toNat)[x.toNat]'(HXB.out) = o by rw [ho]; exact bumpL_at O _ HXL.out)
   have hy : rd_It (O.map Prod.fst) x = o.1 := by rw [ho, ← List.getElem_map Prod.fst (h := by rw [List.length_map]; exact HXL.out), ← it_rd]; congr 1; omega
   rw [hy] at hx0 hx1 hx2
   obtain ⟨m1, hm1⟩ : ∃ m1, m1 = o.1.b.f1.length := ⟨_, rfl⟩
   rw [← hm1] at hx1
   have HM := Aside0.mk (show o ∈ bumpL O x.toNat by rw [← HOX.out]; exact List.getElem_mem _)
   have HMO := Aside0.mk (show o ∈ O by rw [ho]; exact List.getElem_mem _)
   have HWp := Aside0.mk (show Wr g vw (.slice (some ad) n co) O o.1.p from .inr (.inr (.inr ⟨o, HMO.out, rfl⟩)))
   have HWR := Aside0.mk (show IntKind.i32.wrap (o.2 + 1) = o.2 + 1 from i32_sm (by have := HB.out o HMO.out; omega) (by have := HB.out o HMO.out; omega))
   have hd : decide (x < (n : Int)) = true := decide_eq_true hlt
   have hb0 : x < 9223372036854775807 := by have := HL.out; have := HN.out; omega
   have hw : wrap64 (x + 1) = x + 1 := w64 (by omega) (by omega)
   have h0t := eq_true h0
   have hltt := eq_true hlt
   clear hC ho hy hm1
   go_wp2_with (first
    | ((with_reducible refine gate_dst (N := 5) rfl ?_); refine box_event ?hg (N := 5) ?hd (cs := #[.int .i64 0, .slice none 0 0, .pointer none]) (t := 73) ?hr ?_; (case hd => rfl); (case hg => rfl); (case hr => first | (go_simp; done) | (go_simp; rfl) | rfl | kernel_rfl); intro gi hg w8 hbox hb; have HB9 := Aside0.mk (show Below wr.heap.size wr (((w8.setCell ⟨gi, 0, none⟩ (.int .i64 o.1.b.f0)).setCell ⟨gi, 1, none⟩ (.slice A1 m1 c1)).setCell ⟨gi, 2, none⟩ (.pointer (some ⟨o.1.p, 0, none⟩))) from below_set (below_set (below_set hb (Nat.le_of_eq hg.symm)) (Nat.le_of_eq hg.symm)) (Nat.le_of_eq hg.symm)); have S9 := Aside0.mk (SS.out.below HB9.out); have BX9 := Aside0.mk (blk_below BXS.out HB9.out); have BI9 := Aside0.mk (blk_put (blk_put (blk_put hbox 0 (.int .i64 o.1.b.f0) (cs' := #[.int .i64 o.1.b.f0, .slice none 0 0, .pointer none]) rfl) 1 (.slice A1 m1 c1) (cs' := #[.int .i64 o.1.b.f0, .slice A1 m1 c1, .pointer none]) rfl) 2 (.pointer (some ⟨o.1.p, 0, none⟩)) (cs' := #[.int .i64 o.1.b.f0, .slice A1 m1 c1, .pointer (some ⟨o.1.p, 0, none⟩)]) rfl); have a0 := (blk_cell hbox 0).trans rfl; have a1 := (blk_cell hbox 1).trans rfl; have a2 := (blk_cell hbox 2).trans rfl; have af0 := blk_frozen hbox 0; have af1 := blk_frozen hbox 1; have af2 := blk_frozen hbox 2; have i2 : (((w8.setCell ⟨gi, 0, none⟩ (.int .i64 o.1.b.f0)).setCell ⟨gi, 1, none⟩ (.slice A1 m1 c1)).setCell ⟨gi, 2, none⟩ (.pointer (some ⟨o.1.p, 0, none⟩))).cell? ⟨gi, 2, none⟩ = some (.pointer (some ⟨o.1.p, 0, none⟩)) := (blk_cell BI9.out 2).trans rfl; clear hb hbox hg)
    | (go_at_call 34; (with_reducible refine (at_add o.1.p o.2 1 (o.2 + 1) _ ((blk_cell (S9.out.cnt o HM.out).2.2.2 0).trans rfl) (blk_frozen (S9.out.cnt o HM.out).2.2.2 0) HWR.out).mono ?_); rintro x_ w10 ⟨rfl, hw10⟩; have S10 := Aside0.mk (S9.out.bump x.toNat HXB.out (o := o) HOX.out (o.2 + 1)); have SX10 := Aside0.mk ((SXS.out.below HB9.out).trans (SX.set _ F _ 0 (.int .i32 (o.2 + 1)) HWp.out)); have BX10 := Aside0.mk (blk_far (p := ⟨o.1.p, 0, none⟩) BX9.out (blk_ne BX9.out (S9.out.cnt o HM.out).2.2.2 (by decide)) (.int .i32 (o.2 + 1))); rw [← hw10] at S10 SX10 BX10; clear hw10))
   go_roundg k1
   case measure => have := HI.out; omega
   case rel => exact ⟨x + 1, by first | rfl | simp [hw], ⟨by omega⟩, ⟨by have := HI.out; omega⟩, ⟨by
    have e1 := bumpL_set O x.toNat HXL.out
    rw [← HOO.out] at e1
    rw [show (x + 1).toNat = x.toNat + 1 by omega, ← e1]
    exact S10.out⟩, SX10, BX10⟩
end Go.Proofs.Ytclbempnhelmoaa.P
namespace Go.Proofs.Ytclbempnhelmoaa.P
open Go.RowKit YtclbempnhelmoaaW.PrintWords YtclbempnhelmoaaW.PrintLast YtclbempnhelmoaaW.PrintMore
open YtclbempnhelmoaaW.PrintWords renaming below_alloc → YA, pw_below_drewN → YB, below_drew1 → YC, below_step → YD, below_size → YE, blk_cell → YF, blk_frozen → YG
open YtclbempnhelmoaaW.PrintWords.Aside0 renaming mk → YH
attribute [local go_sem] max2_int min2_int max_two min_two max_three min_three max_four min_four
def ack_right.f (a0_0 : Int) (a0_1 : Int) (a0_2 : Int) (a0_3 : Int) : Option (Bool) := if a0_0 ≥ 0 then (if a0_0 < 64 then (if a0_1 ≥ 0 then (if a0_1 ≤ 4294967295 then (if a0_2 ≥ 0 then (if a0_2 ≤ 65535 then (if a0_3 ≥ 0 then (some (decide (a0_3 ≤ 65535))) else (some false)) else (some false)) else (some false)) else (some false)) else (some false)) else (some false)) else (some false)
theorem ack_right.calls (a0_0 : Int) (a0_1 : Int) (a0_2 : Int) (a0_3 : Int) (r : Bool) (w : World) (h : ack_right.f a0_0 a0_1 a0_2 a0_3 = some r) :
  Calls Try.prog 57 #[.agg #[.int .i64 a0_0, .int .i64 a0_1, .int .i64 a0_2, .int .i64 a0_3]] w fun e w' => e = .returned (.bool r) ∧ Below w.heap.size w w' := by
 have hu36 := Try.underlying36
 have HB := YH (Below.refl w.heap.size w)
 have H : (if a0_0 ≥ 0 then (if a0_0 < 64 then (if a0_1 ≥ 0 then (if a0_1 ≤ 4294967295 then (if a0_2 ≥ 0 then (if a0_2 ≤ 65535 then (if a0_3 ≥ 0 then (some (decide (a0_3 ≤ 65535))) else (some false)) else (some false)) else (some false)) else (some false)) else (some false)) else (some false)) else (some false)) = some r := h
 clear h
 by_cases c2 : a0_0 ≥ 0
 ·rw [if_pos c2] at H
  have c2b0 : decide (0 ≤ a0_0) = true := decide_eq_true c2; clear c2
  by_cases c3 : a0_0 < 64
  ·rw [if_pos c3] at H
   have c3b0 : decide (a0_0 < 64) = true := decide_eq_true c3; clear c3
   by_cases c4 : a0_1 ≥ 0
   ·rw [if_pos c4] at H
    have c4b0 : decide (0 ≤ a0_1) = true := decide_eq_true c4; clear c4
    by_cases c5 : a0_1 ≤ 4294967295
    ·rw [if_pos c5] at H
     have c5b0 : decide (a0_1 ≤ 4294967295) = true := decide_eq_true c5; clear c5
     by_cases c6 : a0_2 ≥ 0
     ·rw [if_pos c6] at H
      have c6b0 : decide (0 ≤ a0_2) = true := decide_eq_true c6; clear c6
      by_cases c7 : a0_2 ≤ 65535
      ·rw [if_pos c7] at H
       have c7b0 : decide (a0_2 ≤ 65535) = true := decide_eq_true c7; clear c7
       by_cases c8 : a0_3 ≥ 0
       ·rw [if_pos c8] at H
        have c8b0 : decide (0 ≤ a0_3) = true := decide_eq_true c8; clear c8
        obtain rfl := Option.some.inj H
        go_enter Try.func57, Try.ntmps57
        go_wp2_with (first | ((with_reducible refine gate_dst (N := 1) rfl ?_); refine box_event ?hg (N := 1) ?hd (cs := #[.int .i64 a0_0, .int .i64 a0_1, .int .i64 a0_2, .int .i64 a0_3]) (t := 36) ?hr ?_; (case hd => rfl); (case hg => rfl); (case hr => first | (go_simp; done) | (go_simp; rfl)); intro gb260 hg w9 hbox hb; have n0_ := YH (YD (by repeat (first | (with_reducible first | exact HB.out | apply YA | apply YB | apply YC) | exact HB.out)) hb); have n1_ := YH (hbox); have n2_ := YH ((by rw [hg]; exact (YE (by repeat (first | (with_reducible first | exact HB.out | apply YA | apply YB | apply YC) | exact HB.out))) : w.heap.size ≤ gb260)); have n3_ := YH ((by rw [hg]; exact (YE (by repeat (first | (with_reducible first | exact HB.out | apply YA | apply YB | apply YC) | exact HB.out))) : w.heap.size ≤ gb260)); clear HB; have HB := n0_; have BK260 := n1_; have GW260 := n2_; have GE260 := n3_; clear n0_ n1_ n2_ n3_; clear hb hbox hg; have q10_0 : w9.cell? ⟨gb260, 0, none⟩ = some (.int .i64 a0_0) := (YF BK260.out 0).trans rfl; have q10_1 : w9.cell? ⟨gb260, 1, none⟩ = some (.int .i64 a0_1) := (YF BK260.out 1).trans rfl; have q10_2 : w9.cell? ⟨gb260, 2, none⟩ = some (.int .i64 a0_2) := (YF BK260.out 2).trans rfl; have q10_3 : w9.cell? ⟨gb260, 3, none⟩ = some (.int .i64 a0_3) := (YF BK260.out 3).trans rfl; have f10_0 := YG BK260.out 0; have f10_1 := YG BK260.out 1; have f10_2 := YG BK260.out 2; have f10_3 := YG BK260.out 3))
        go_ret
        exact ⟨by first | rfl | (simp [errW_none, errW_some] <;> rfl) | (simp [*, errW_none, errW_some] <;> rfl), by repeat (first | (with_reducible first | exact HB.out | apply YA | apply YB | apply YC | refine below_set ?_ GE260.out) | exact HB.out)⟩
       rw [if_neg c8] at H; have c8b0 : decide (0 ≤ a0_3) = false := decide_eq_false c8; clear c8
       obtain rfl := Option.some.inj H
       go_enter Try.func57, Try.ntmps57
       go_wp2_with (first | ((with_reducible refine gate_dst (N := 1) rfl ?_); refine box_event ?hg (N := 1) ?hd (cs := #[.int .i64 a0_0, .int .i64 a0_1, .int .i64 a0_2, .int .i64 a0_3]) (t := 36) ?hr ?_; (case hd => rfl); (case hg => rfl); (case hr => first | (go_simp; done) | (go_simp; rfl)); intro gb260 hg w11 hbox hb; have n0_ := YH (YD (by repeat (first | (with_reducible first | exact HB.out | apply YA | apply YB | apply YC) | exact HB.out)) hb); have n1_ := YH (hbox); have n2_ := YH ((by rw [hg]; exact (YE (by repeat (first | (with_reducible first | exact HB.out | apply YA | apply YB | apply YC) | exact HB.out))) : w.heap.size ≤ gb260)); have n3_ := YH ((by rw [hg]; exact (YE (by repeat (first | (with_reducible first | exact HB.out | apply YA | apply YB | apply YC) | exact HB.out))) : w.heap.size ≤ gb260)); clear HB; have HB := n0_; have BK260 := n1_; have GW260 := n2_; have GE260 := n3_; clear n0_ n1_ n2_ n3_; clear hb hbox hg; have q12_0 : w11.cell? ⟨gb260, 0, none⟩ = some (.int .i64 a0_0) := (YF BK260.out 0).trans rfl; have q12_1 : w11.cell? ⟨gb260, 1, none⟩ = some (.int .i64 a0_1) := (YF BK260.out 1).trans rfl; have q12_2 : w11.cell? ⟨gb260, 2, none⟩ = some (.int .i64 a0_2) := (YF BK260.out 2).trans rfl; have q12_3 : w11.cell? ⟨gb260, 3, none⟩ = some (.int .i64 a0_3) := (YF BK260.out 3).trans rfl; have f12_0 := YG BK260.out 0; have f12_1 := YG BK260.out 1; have f12_2 := YG BK260.out 2; have f12_3 := YG BK260.out 3))
       go_ret
       exact ⟨by first | rfl | (simp [errW_none, errW_some] <;> rfl) | (simp [*, errW_none, errW_some] <;> rfl), by repeat (first | (with_reducible first | exact HB.out | apply YA | apply YB | apply YC | refine below_set ?_ GE260.out) | exact HB.out)⟩
      rw [if_neg c7] at H; have c7b0 : decide (a0_2 ≤ 65535) = false := decide_eq_false c7; clear c7
      obtain rfl := Option.some.inj H
      go_enter Try.func57, Try.ntmps57
      go_wp2_with (first | ((with_reducible refine gate_dst (N := 1) rfl ?_); refine box_event ?hg (N := 1) ?hd (cs := #[.int .i64 a0_0, .int .i64 a0_1, .int .i64 a0_2, .int .i64 a0_3]) (t := 36) ?hr ?_; (case hd => rfl); (case hg => rfl); (case hr => first | (go_simp; done) | (go_simp; rfl)); intro gb260 hg w13 hbox hb; have n0_ := YH (YD (by repeat (first | (with_reducible first | exact HB.out | apply YA | apply YB | apply YC) | exact HB.out)) hb); have n1_ := YH (hbox); have n2_ := YH ((by rw [hg]; exact (YE (by repeat (first | (with_reducible first | exact HB.out | apply YA | apply YB | apply YC) | exact HB.out))) : w.heap.size ≤ gb260)); have n3_ := YH ((by rw [hg]; exact (YE (by repeat (first | (with_reducible first | exact HB.out | apply YA | apply YB | apply YC) | exact HB.out))) : w.heap.size ≤ gb260)); clear HB; have HB := n0_; have BK260 := n1_; have GW260 := n2_; have GE260 := n3_; clear n0_ n1_ n2_ n3_; clear hb hbox hg; have q14_0 : w13.cell? ⟨gb260, 0, none⟩ = some (.int .i64 a0_0) := (YF BK260.out 0).trans rfl; have q14_1 : w13.cell? ⟨gb260, 1, none⟩ = some (.int .i64 a0_1) := (YF BK260.out 1).trans rfl; have q14_2 : w13.cell? ⟨gb260, 2, none⟩ = some (.int .i64 a0_2) := (YF BK260.out 2).trans rfl; have q14_3 : w13.cell? ⟨gb260, 3, none⟩ = some (.int .i64 a0_3) := (YF BK260.out 3).trans rfl; have f14_0 := YG BK260.out 0; have f14_1 := YG BK260.out 1; have f14_2 := YG BK260.out 2; have f14_3 := YG BK260.out 3))
      go_ret
      exact ⟨by first | rfl | (simp [errW_none, errW_some] <;> rfl) | (simp [*, errW_none, errW_some] <;> rfl), by repeat (first | (with_reducible first | exact HB.out | apply YA | apply YB | apply YC | refine below_set ?_ GE260.out) | exact HB.out)⟩
     rw [if_neg c6] at H; have c6b0 : decide (0 ≤ a0_2) = false := decide_eq_false c6; clear c6
     obtain rfl := Option.some.inj H
     go_enter Try.func57, Try.ntmps57
     go_wp2_with (first | ((with_reducible refine gate_dst (N := 1) rfl ?_); refine box_event ?hg (N := 1) ?hd (cs := #[.int .i64 a0_0, .int .i64 a0_1, .int .i64 a0_2, .int .i64 a0_3]) (t := 36) ?hr ?_; (case hd => rfl); (case hg => rfl); (case hr => first | (go_simp; done) | (go_simp; rfl)); intro gb260 hg w15 hbox hb; have n0_ := YH (YD (by repeat (first | (with_reducible first | exact HB.out | apply YA | apply YB | apply YC) | exact HB.out)) hb); have n1_ := YH (hbox); have n2_ := YH ((by rw [hg]; exact (YE (by repeat (first | (with_reducible first | exact HB.out | apply YA | apply YB | apply YC) | exact HB.out))) : w.heap.size ≤ gb260)); have n3_ := YH ((by rw [hg]; exact (YE (by repeat (first | (with_reducible first | exact HB.out | apply YA | apply YB | apply YC) | exact HB.out))) : w.heap.size ≤ gb260)); clear HB; have HB := n0_; have BK260 := n1_; have GW260 := n2_; have GE260 := n3_; clear n0_ n1_ n2_ n3_; clear hb hbox hg; have q16_0 : w15.cell? ⟨gb260, 0, none⟩ = some (.int .i64 a0_0) := (YF BK260.out 0).trans rfl; have q16_1 : w15.cell? ⟨gb260, 1, none⟩ = some (.int .i64 a0_1) := (YF BK260.out 1).trans rfl; have q16_2 : w15.cell? ⟨gb260, 2, none⟩ = some (.int .i64 a0_2) := (YF BK260.out 2).trans rfl; have q16_3 : w15.cell? ⟨gb260, 3, none⟩ = some (.int .i64 a0_3) := (YF BK260.out 3).trans rfl; have f16_0 := YG BK260.out 0; have f16_1 := YG BK260.out 1; have f16_2 := YG BK260.out 2; have f16_3 := YG BK260.out 3))
     go_ret
     exact ⟨by first | rfl | (simp [errW_none, errW_some] <;> rfl) | (simp [*, errW_none, errW_some] <;> rfl), by repeat (first | (with_reducible first | exact HB.out | apply YA | apply YB | apply YC | refine below_set ?_ GE260.out) | exact HB.out)⟩
    rw [if_neg c5] at H; have c5b0 : decide (a0_1 ≤ 4294967295) = false := decide_eq_false c5; clear c5
    obtain rfl := Option.some.inj H
    go_enter Try.func57, Try.ntmps57
    go_wp2_with (first | ((with_reducible refine gate_dst (N := 1) rfl ?_); refine box_event ?hg (N := 1) ?hd (cs := #[.int .i64 a0_0, .int .i64 a0_1, .int .i64 a0_2, .int .i64 a0_3]) (t := 36) ?hr ?_; (case hd => rfl); (case hg => rfl); (case hr => first | (go_simp; done) | (go_simp; rfl)); intro gb260 hg w17 hbox hb; have n0_ := YH (YD (by repeat (first | (with_reducible first | exact HB.out | apply YA | apply YB | apply YC) | exact HB.out)) hb); have n1_ := YH (hbox); have n2_ := YH ((by rw [hg]; exact (YE (by repeat (first | (with_reducible first | exact HB.out | apply YA | apply YB | apply YC) | exact HB.out))) : w.heap.size ≤ gb260)); have n3_ := YH ((by rw [hg]; exact (YE (by repeat (first | (with_reducible first | exact HB.out | apply YA | apply YB | apply YC) | exact HB.out))) : w.heap.size ≤ gb260)); clear HB; have HB := n0_; have BK260 := n1_; have GW260 := n2_; have GE260 := n3_; clear n0_ n1_ n2_ n3_; clear hb hbox hg; have q18_0 : w17.cell? ⟨gb260, 0, none⟩ = some (.int .i64 a0_0) := (YF BK260.out 0).trans rfl; have q18_1 : w17.cell? ⟨gb260, 1, none⟩ = some (.int .i64 a0_1) := (YF BK260.out 1).trans rfl; have q18_2 : w17.cell? ⟨gb260, 2, none⟩ = some (.int .i64 a0_2) := (YF BK260.out 2).trans rfl; have q18_3 : w17.cell? ⟨gb260, 3, none⟩ = some (.int .i64 a0_3) := (YF BK260.out 3).trans rfl; have f18_0 := YG BK260.out 0; have f18_1 := YG BK260.out 1; have f18_2 := YG BK260.out 2; have f18_3 := YG BK260.out 3))
    go_ret
    exact ⟨by first | rfl | (simp [errW_none, errW_some] <;> rfl) | (simp [*, errW_none, errW_some] <;> rfl), by repeat (first | (with_reducible first | exact HB.out | apply YA | apply YB | apply YC | refine below_set ?_ GE260.out) | exact HB.out)⟩
   rw [if_neg c4] at H; have c4b0 : decide (0 ≤ a0_1) = false := decide_eq_false c4; clear c4
   obtain rfl := Option.some.inj H
   go_enter Try.func57, Try.ntmps57
   go_wp2_with (first | ((with_reducible refine gate_dst (N := 1) rfl ?_); refine box_event ?hg (N := 1) ?hd (cs := #[.int .i64 a0_0, .int .i64 a0_1, .int .i64 a0_2, .int .i64 a0_3]) (t := 36) ?hr ?_; (case hd => rfl); (case hg => rfl); (case hr => first | (go_simp; done) | (go_simp; rfl)); intro gb260 hg w19 hbox hb; have n0_ := YH (YD (by repeat (first | (with_reducible first | exact HB.out | apply YA | apply YB | apply YC) | exact HB.out)) hb); have n1_ := YH (hbox); have n2_ := YH ((by rw [hg]; exact (YE (by repeat (first | (with_reducible first | exact HB.out | apply YA | apply YB | apply YC) | exact HB.out))) : w.heap.size ≤ gb260)); have n3_ := YH ((by rw [hg]; exact (YE (by repeat (first | (with_reducible first | exact HB.out | apply YA | apply YB | apply YC) | exact HB.out))) : w.heap.size ≤ gb260)); clear HB; have HB := n0_; have BK260 := n1_; have GW260 := n2_; have GE260 := n3_; clear n0_ n1_ n2_ n3_; clear hb hbox hg; have q20_0 : w19.cell? ⟨gb260, 0, none⟩ = some (.int .i64 a0_0) := (YF BK260.out 0).trans rfl; have q20_1 : w19.cell? ⟨gb260, 1, none⟩ = some (.int .i64 a0_1) := (YF BK260.out 1).trans rfl; have q20_2 : w19.cell? ⟨gb260, 2, none⟩ = some (.int .i64 a0_2) := (YF BK260.out 2).trans rfl; have q20_3 : w19.cell? ⟨gb260, 3, none⟩ = some (.int .i64 a0_3) := (YF BK260.out 3).trans rfl; have f20_0 := YG BK260.out 0; have f20_1 := YG BK260.out 1; have f20_2 := YG BK260.out 2; have f20_3 := YG BK260.out 3))
   go_ret
   exact ⟨by first | rfl | (simp [errW_none, errW_some] <;> rfl) | (simp [*, errW_none, errW_some] <;> rfl), by repeat (first | (with_reducible first | exact HB.out | apply YA | apply YB | apply YC | refine below_set ?_ GE260.out) | exact HB.out)⟩
  rw [if_neg c3] at H; have c3b0 : decide (a0_0 < 64) = false := decide_eq_false c3; clear c3
  obtain rfl := Option.some.inj H
  go_enter Try.func57, Try.ntmps57
  go_wp2_with (first | ((with_reducible refine gate_dst (N := 1) rfl ?_); refine box_event ?hg (N := 1) ?hd (cs := #[.int .i64 a0_0, .int .i64 a0_1, .int .i64 a0_2, .int .i64 a0_3]) (t := 36) ?hr ?_; (case hd => rfl); (case hg => rfl); (case hr => first | (go_simp; done) | (go_simp; rfl)); intro gb260 hg w21 hbox hb; have n0_ := YH (YD (by repeat (first | (with_reducible first | exact HB.out | apply YA | apply YB | apply YC) | exact HB.out)) hb); have n1_ := YH (hbox); have n2_ := YH ((by rw [hg]; exact (YE (by repeat (first | (with_reducible first | exact HB.out | apply YA | apply YB | apply YC) | exact HB.out))) : w.heap.size ≤ gb260)); have n3_ := YH ((by rw [hg]; exact (YE (by repeat (first | (with_reducible first | exact HB.out | apply YA | apply YB | apply YC) | exact HB.out))) : w.heap.size ≤ gb260)); clear HB; have HB := n0_; have BK260 := n1_; have GW260 := n2_; have GE260 := n3_; clear n0_ n1_ n2_ n3_; clear hb hbox hg; have q22_0 : w21.cell? ⟨gb260, 0, none⟩ = some (.int .i64 a0_0) := (YF BK260.out 0).trans rfl; have q22_1 : w21.cell? ⟨gb260, 1, none⟩ = some (.int .i64 a0_1) := (YF BK260.out 1).trans rfl; have q22_2 : w21.cell? ⟨gb260, 2, none⟩ = some (.int .i64 a0_2) := (YF BK260.out 2).trans rfl; have q22_3 : w21.cell? ⟨gb260, 3, none⟩ = some (.int .i64 a0_3) := (YF BK260.out 3).trans rfl; have f22_0 := YG BK260.out 0; have f22_1 := YG BK260.out 1; have f22_2 := YG BK260.out 2; have f22_3 := YG BK260.out 3))
  go_ret
  exact ⟨by first | rfl | (simp [errW_none, errW_some] <;> rfl) | (simp [*, errW_none, errW_some] <;> rfl), by repeat (first | (with_reducible first | exact HB.out | apply YA | apply YB | apply YC | refine below_set ?_ GE260.out) | exact HB.out)⟩
 rw [if_neg c2] at H; have c2b0 : decide (0 ≤ a0_0) = false := decide_eq_false c2; clear c2
 obtain rfl := Option.some.inj H
 go_enter Try.func57, Try.ntmps57
 go_wp2_with (first | ((with_reducible refine gate_dst (N := 1) rfl ?_); refine box_event ?hg (N := 1) ?hd (cs := #[.int .i64 a0_0, .int .i64 a0_1, .int .i64 a0_2, .int .i64 a0_3]) (t := 36) ?hr ?_; (case hd => rfl); (case hg => rfl); (case hr => first | (go_simp; done) | (go_simp; rfl)); intro gb260 hg w23 hbox hb; have n0_ := YH (YD (by repeat (first | (with_reducible first | exact HB.out | apply YA | apply YB | apply YC) | exact HB.out)) hb); have n1_ := YH (hbox); have n2_ := YH ((by rw [hg]; exact (YE (by repeat (first | (with_reducible first | exact HB.out | apply YA | apply YB | apply YC) | exact HB.out))) : w.heap.size ≤ gb260)); have n3_ := YH ((by rw [hg]; exact (YE (by repeat (first | (with_reducible first | exact HB.out | apply YA | apply YB | apply YC) | exact HB.out))) : w.heap.size ≤ gb260)); clear HB; have HB := n0_; have BK260 := n1_; have GW260 := n2_; have GE260 := n3_; clear n0_ n1_ n2_ n3_; clear hb hbox hg; have q24_0 : w23.cell? ⟨gb260, 0, none⟩ = some (.int .i64 a0_0) := (YF BK260.out 0).trans rfl; have q24_1 : w23.cell? ⟨gb260, 1, none⟩ = some (.int .i64 a0_1) := (YF BK260.out 1).trans rfl; have q24_2 : w23.cell? ⟨gb260, 2, none⟩ = some (.int .i64 a0_2) := (YF BK260.out 2).trans rfl; have q24_3 : w23.cell? ⟨gb260, 3, none⟩ = some (.int .i64 a0_3) := (YF BK260.out 3).trans rfl; have f24_0 := YG BK260.out 0; have f24_1 := YG BK260.out 1; have f24_2 := YG BK260.out 2; have f24_3 := YG BK260.out 3))
 go_ret
 exact ⟨by first | rfl | (simp [errW_none, errW_some] <;> rfl) | (simp [*, errW_none, errW_some] <;> rfl), by repeat (first | (with_reducible first | exact HB.out | apply YA | apply YB | apply YC | refine below_set ?_ GE260.out) | exact HB.out)⟩
end Go.Proofs.Ytclbempnhelmoaa.P
