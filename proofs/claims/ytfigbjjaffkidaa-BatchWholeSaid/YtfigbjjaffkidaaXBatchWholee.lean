/- The statement BatchWhole, proved of the given program; it has no conditions. (Laid together out of many texts: part 5 of 6.) -/
import Derived.WalkMore
import Derived.Test.YtfigbjjaffkidaaXBatchWholea
import Derived.Test.YtfigbjjaffkidaaXBatchWholeb
import Derived.Test.YtfigbjjaffkidaaXBatchWholec
import Derived.Test.YtfigbjjaffkidaaXBatchWholed
set_option linter.unusedVariables false
set_option linter.unusedSimpArgs false
namespace Go.Proofs.Ytfigbjjaffkidaa.P
open Go.RowKit Go.Proofs.YtfigbjjaffkidaaW.PrintWords Go.Proofs.YtfigbjjaffkidaaW.PrintLast Go.Proofs.YtfigbjjaffkidaaW.PrintMore
open Go.Proofs.YtfigbjjaffkidaaW.PrintWords renaming below_alloc → YA, pw_below_drewN → YB, below_drew1 → YC, below_step → YD, below_size → YE, blk_drewN → YF, blk_drew → YG, blk_alloc → YH, blk_cell → YI, blk_frozen → YJ, blk_below → YK
open Go.Proofs.YtfigbjjaffkidaaW.PrintWords.Aside0 renaming mk → YL
open List renaming setIfInBounds_toArray → YM, set_cons_zero → YN, set_cons_succ → YO, map_toArray → YP, length_take → YQ, length_drop → YR
open Go.Proofs.YtfigbjjaffkidaaW.PrintWords.Kd renaming R_alloc → YS, R_drewN → YT, R_drew → YU, R_below → YV
attribute [local go_sem] max2_int min2_int max_two min_two max_three min_three max_four min_four   -- for this text's walks alone
mutual
def batch_Pack.j0 : Nat → List (S45) → Int → Int → Bool → Option ((List (S24)) × Int)
  | 0, _, _, _, _ => none
  | k + 1, x0, x1, x2, x14 => if x14 = true then (some (([] : List (S24)), 1)) else (if (x0.length : Int) > 1024 then (some (([] : List (S24)), 2)) else (batch_Pack.l0 k x0 x2 ([] : List (S24)) (wrap64 (x2 - 3)) x0 (x0.length : Int) 0 (Go.bits .and .i64 x1 65535) ([] : List (S45))))
def batch_Pack.l0 : Nat → List (S45) → Int → List (S24) → Int → List (S45) → Int → Int → Int → List (S45) → Option ((List (S24)) × Int)
  | 0, _, _, _, _, _, _, _, _, _ => none
  | k + 1, x0, x2, x8, x10, x34, x35, x36, x354000, x354001 => if x36 < x35 then (if 0 ≤ x36 then (if x36 < (x34.length : Int) then ((object_Size.f k ((rd_T45 x34 x36).f0) ((rd_T45 x34 x36).f1) ((rd_T45 x34 x36).f2.f0) ((rd_T45 x34 x36).f2.f1) ((rd_T45 x34 x36).f2.f2) ((rd_T45 x34 x36).f2.f3) ((rd_T45 x34 x36).f2.f4) ((rd_T45 x34 x36).f2.f5) ((rd_T45 x34 x36).f3.f0) ((rd_T45 x34 x36).f3.f1) ((rd_T45 x34 x36).f3.f2) ((rd_T45 x34 x36).f4)).bind fun t359 => (if t359 ≤ x10 then (if (x354001.length : Int) < 32 then (if x36 < (x0.length : Int) then (if x354001.length < 1466015503701 then (batch_Pack.l0 k x0 x2 x8 (wrap64 (x10 - t359)) x34 x35 (wrap64 (x36 + 1)) x354000 (x354001 ++ [(⟨(rd_T45 x0 x36).f0, (rd_T45 x0 x36).f1, (⟨(rd_T45 x0 x36).f2.f0, (rd_T45 x0 x36).f2.f1, (rd_T45 x0 x36).f2.f2, (rd_T45 x0 x36).f2.f3, (rd_T45 x0 x36).f2.f4, (rd_T45 x0 x36).f2.f5⟩ : S41), (⟨(rd_T45 x0 x36).f3.f0, (rd_T45 x0 x36).f3.f1, (rd_T45 x0 x36).f3.f2⟩ : S43), (rd_T45 x0 x36).f4⟩ : S45)])) else (none)) else (none)) else (if x8.length < 4398046511104 then ((serial_Next.f x354000).bind fun t367 => (batch_Pack.l0 k x0 x2 (x8 ++ [(⟨x354000, x354001⟩ : S24)]) (wrap64 ((wrap64 (x2 - 3)) - t359)) x34 x35 (wrap64 (x36 + 1)) t367 (([(⟨(rd_T45 x34 x36).f0, (rd_T45 x34 x36).f1, (⟨(rd_T45 x34 x36).f2.f0, (rd_T45 x34 x36).f2.f1, (rd_T45 x34 x36).f2.f2, (rd_T45 x34 x36).f2.f3, (rd_T45 x34 x36).f2.f4, (rd_T45 x34 x36).f2.f5⟩ : S41), (⟨(rd_T45 x34 x36).f3.f0, (rd_T45 x34 x36).f3.f1, (rd_T45 x34 x36).f3.f2⟩ : S43), (rd_T45 x34 x36).f4⟩ : S45)] : List (S45))))) else (none))) else (if x8.length < 4398046511104 then ((serial_Next.f x354000).bind fun t374 => (batch_Pack.l0 k x0 x2 (x8 ++ [(⟨x354000, x354001⟩ : S24)]) (wrap64 ((wrap64 (x2 - 3)) - t359)) x34 x35 (wrap64 (x36 + 1)) t374 (([(⟨(rd_T45 x34 x36).f0, (rd_T45 x34 x36).f1, (⟨(rd_T45 x34 x36).f2.f0, (rd_T45 x34 x36).f2.f1, (rd_T45 x34 x36).f2.f2, (rd_T45 x34 x36).f2.f3, (rd_T45 x34 x36).f2.f4, (rd_T45 x34 x36).f2.f5⟩ : S41), (⟨(rd_T45 x34 x36).f3.f0, (rd_T45 x34 x36).f3.f1, (rd_T45 x34 x36).f3.f2⟩ : S43), (rd_T45 x34 x36).f4⟩ : S45)] : List (S45))))) else (none)))) else (none)) else (none)) else (if (x354001.length : Int) > 0 then (if x8.length < 4398046511104 then (some ((x8 ++ [(⟨x354000, x354001⟩ : S24)]), 0)) else (none)) else (some (x8, 0)))
end
def batch_Pack.f (k : Nat) (l0 : List (S45)) (a1 : Int) (a2 : Int) : Option ((List (S24)) × Int) := if a2 < 40 then (batch_Pack.j0 k l0 a1 a2 true) else (if a2 > 512 then (batch_Pack.j0 k l0 a1 a2 true) else ((api_Object_25.f k l0).bind fun t352 => (batch_Pack.j0 k l0 a1 a2 t352)))
theorem batch_Pack.mono_l : ∀ k, (∀ y0 y1 y2 y3, LeO (batch_Pack.j0 k y0 y1 y2 y3) (batch_Pack.j0 (k + 1) y0 y1 y2 y3)) ∧ (∀ y0 y1 y2 y3 y4 y5 y6 y7 y8, LeO (batch_Pack.l0 k y0 y1 y2 y3 y4 y5 y6 y7 y8) (batch_Pack.l0 (k + 1) y0 y1 y2 y3 y4 y5 y6 y7 y8))
  | 0 => ⟨fun _ _ _ _ r h => by simp [batch_Pack.j0] at h, fun _ _ _ _ _ _ _ _ _ r h => by simp [batch_Pack.l0] at h⟩
  | k + 1 => by
    obtain ⟨ih0, ih1⟩ := batch_Pack.mono_l k
    refine ⟨?_, ?_⟩
    · intro y0 y1 y2 y3
      unfold batch_Pack.j0
      repeat' first
      | (with_reducible exact ih0 _ _ _ _)
      | (with_reducible exact ih1 _ _ _ _ _ _ _ _ _)
      | (with_reducible exact api_Object_25.mono _ _)
      | (with_reducible exact object_Size.mono _ _ _ _ _ _ _ _ _ _ _ _ _)
      | (with_reducible exact LeO.refl _)
      | (with_reducible exact LeO.none _)
      | (with_reducible refine LeO.ite ?_ ?_)
      | (with_reducible refine LeO.bind ?_ (fun _ => ?_))
      | exact ih0 _ _ _ _
      | exact ih1 _ _ _ _ _ _ _ _ _
      | exact api_Object_25.mono _ _
      | exact object_Size.mono _ _ _ _ _ _ _ _ _ _ _ _ _
      | exact LeO.none _
      | refine LeO.ite ?_ ?_
      | refine LeO.bind ?_ (fun _ => ?_)
    intro y0 y1 y2 y3 y4 y5 y6 y7 y8
    unfold batch_Pack.l0
    repeat' first
    | (with_reducible exact ih0 _ _ _ _)
    | (with_reducible exact ih1 _ _ _ _ _ _ _ _ _)
    | (with_reducible exact api_Object_25.mono _ _)
    | (with_reducible exact object_Size.mono _ _ _ _ _ _ _ _ _ _ _ _ _)
    | (with_reducible exact LeO.refl _)
    | (with_reducible exact LeO.none _)
    | (with_reducible refine LeO.ite ?_ ?_)
    | (with_reducible refine LeO.bind ?_ (fun _ => ?_))
    | exact ih0 _ _ _ _
    | exact ih1 _ _ _ _ _ _ _ _ _
    | exact api_Object_25.mono _ _
    | exact object_Size.mono _ _ _ _ _ _ _ _ _ _ _ _ _
    | exact LeO.none _
    | refine LeO.ite ?_ ?_
    | refine LeO.bind ?_ (fun _ => ?_)
theorem batch_Pack.mono : ∀ a0 a1 a2 k, LeO (batch_Pack.f k a0 a1 a2) (batch_Pack.f (k + 1) a0 a1 a2) := by
  intro a0 a1 a2 k
  obtain ⟨ih0, ih1⟩ := batch_Pack.mono_l k
  unfold batch_Pack.f
  repeat' first
      | (with_reducible exact ih0 _ _ _ _)
      | (with_reducible exact ih1 _ _ _ _ _ _ _ _ _)
      | (with_reducible exact api_Object_25.mono _ _)
      | (with_reducible exact object_Size.mono _ _ _ _ _ _ _ _ _ _ _ _ _)
      | (with_reducible exact LeO.refl _)
      | (with_reducible exact LeO.none _)
      | (with_reducible refine LeO.ite ?_ ?_)
      | (with_reducible refine LeO.bind ?_ (fun _ => ?_))
      | exact ih0 _ _ _ _
      | exact ih1 _ _ _ _ _ _ _ _ _
      | exact api_Object_25.mono _ _
      | exact object_Size.mono _ _ _ _ _ _ _ _ _ _ _ _ _
      | exact LeO.none _
      | refine LeO.ite ?_ ?_
      | refine LeO.bind ?_ (fun _ => ?_)
def batch_Pack.T13 : Bool × List (List Nat × List Nat) := (true, [([], []), ([0], [0]), ([], []), ([], []), ([2, 3], [2, 3]), ([4], [4]), ([5], [5]), ([1, 6], [1, 6]), ([0, 1, 2, 3, 4, 5, 6, 7], []), ([8, 7, 7, 0, 1, 2, 3, 4, 5, 6, 7], [7, 8])])
def batch_Pack.B13 : List Nat := [0, 1, 0, 0, 12, 28, 60, 127, 255, 511]
theorem batch_Pack.tab13 : rtab .any (opsOf Try.f15 13) = batch_Pack.T13 := by kernel_rfl
theorem batch_Pack.bits13 : waitsOk batch_Pack.T13.2 batch_Pack.B13 = true := by kernel_rfl
set_option maxHeartbeats 8000000 in
set_option maxRecDepth 100000 in
theorem batch_Pack.calls (k : Nat) (A0 : Option Addr) (c0 : Nat) (l0 : List (S45)) (a1 : Int) (a2 : Int) (r1 : List (S24)) (r2 : Int) (w : World) (hr0 : Kd.C k45 w A0 l0.length l0) (hc0 : l0.length ≤ c0) (h : batch_Pack.f k l0 a1 a2 = some (r1, r2)) :
    Calls Try.prog 15 #[.slice A0 l0.length c0, .int .i64 a1, .int .i64 a2] w fun e w' => ∃ v0_ : Value, e = .returned (.tuple #[v0_, .int .i64 r2]) ∧ Kd.S k24 24 w' w.heap.size (fun _ => True) v0_ r1 ∧ Below w.heap.size w w' := by
  have hu24 := Try.underlying24
  have hu45 := Try.underlying45
  have HR0 := YL hr0; have HC0 := YL hc0; clear hr0 hc0
  have HB := YL (Below.refl w.heap.size w)
  have H : (if a2 < 40 then (batch_Pack.j0 k l0 a1 a2 true) else (if a2 > 512 then (batch_Pack.j0 k l0 a1 a2 true) else ((api_Object_25.f k l0).bind fun t352 => (batch_Pack.j0 k l0 a1 a2 t352)))) = some (r1, r2) := h
  clear h; have HC4 := YL H; clear H
  go_enter Try.func15, Try.ntmps15
  go_upto_region 1 with (go_step3)
  go_cut [14] (fun v14 wc => ∃ (kq : Nat) (x14_3 : Bool), v14 = .bool x14_3 ∧ Aside0 (batch_Pack.j0 kq l0 a1 a2 x14_3 = some (r1, r2)) ∧ Aside0 (kq ≤ k) ∧ Aside0 (Below w.heap.size w wc))
  case first =>
    have H := HC4.out
    clear HC4
    by_cases c5 : a2 < 40
    · rw [if_pos c5] at H
      have c5b0 : decide (a2 < 40) = true := decide_eq_true c5; clear c5
      (first | rw [c5b0] | (simp only [i64_w, i32_w]; rw [c5b0]) | skip)
      have H' := YL H
      clear H
      go_wp2_with (go_step3)
      go_meet
      case rel => exact ⟨_, (true), (by first | rfl | (simp; done) | (simp [*]; done)), H', ⟨by first | omega | exact Nat.le_refl _⟩, ⟨by repeat (first | (with_reducible first | exact HB.out | apply YA | apply YB | apply YC) | exact HB.out)⟩⟩
    rw [if_neg c5] at H; have c5b0 : decide (a2 < 40) = false := decide_eq_false c5; clear c5
    (first | rw [c5b0] | (simp only [i64_w, i32_w]; rw [c5b0]) | skip)
    by_cases c6 : a2 > 512
    · rw [if_pos c6] at H
      have c6b0 : decide (512 < a2) = true := decide_eq_true c6; clear c6
      have H' := YL H
      clear H
      go_wp2_with (go_step3)
      go_meet
      case rel => exact ⟨_, (true), (by first | rfl | (simp; done) | (simp [*]; done)), H', ⟨by first | omega | exact Nat.le_refl _⟩, ⟨by repeat (first | (with_reducible first | exact HB.out | apply YA | apply YB | apply YC) | exact HB.out)⟩⟩
    rw [if_neg c6] at H; have c6b0 : decide (512 < a2) = false := decide_eq_false c6; clear c6; replace H := Option.bind_eq_some_iff.mp H; obtain ⟨t352, A70, H⟩ := H
    replace H : (batch_Pack.j0 k l0 a1 a2 t352) = some (r1, r2) := H
    have A7 := YL A70; clear A70
    have H' := YL H
    clear H
    go_wp2_with (first | go_step3 | (go_at_call 25; (with_reducible refine (api_Object_25.calls k _ _ l0  t352 _ ?side1 ?side2 A7.out).mono ?_); (case side1 => repeat (first | exact (Kd.C_below HR0.out HB.out) | (with_reducible refine Kd.C_alloc ?_ _) | (with_reducible refine Kd.C_drewN ?_ _) | (with_reducible refine Kd.C_drew ?_))); (case side2 => exact HC0.out); rintro e w8 ⟨rfl, hb⟩; have n0_ := YL (YD (by repeat (first | (with_reducible first | exact HB.out | apply YA | apply YB | apply YC) | exact HB.out)) hb); clear HB; have HB := n0_; clear n0_; (try clear hb); (try clear hb2); (try clear hk); (try clear hi)))
    go_meet
    case rel => exact ⟨_, (t352), (by first | rfl | (simp; done) | (simp [*]; done)), H', ⟨by first | omega | exact Nat.le_refl _⟩, ⟨by repeat (first | (with_reducible first | exact HB.out | apply YA | apply YB | apply YC) | exact HB.out)⟩⟩
  case rest =>
    clear HC4
    try clear c1
    try clear p2
    try clear c5
    try clear c5b0
    try clear c6
    try clear c6b0
    obtain ⟨kq, x14_3, rfl, HA, HJ3, HB⟩ := hcut
    cases kq with
    | zero => exact absurd HA.out (by simp [batch_Pack.j0])
    | succ kj3 =>
      have H := HA.out
      clear HA
      simp only [batch_Pack.j0] at H
      by_cases c9 : x14_3 = true
      · subst c9
        have H1 : (some (([] : List (S24)), 1)) = some (r1, r2) := by rw [if_pos rfl] at H; exact H
        clear H
        have H := H1
        clear H1
        simp only [Option.some.injEq, Prod.mk.injEq] at H
        obtain ⟨rfl, rfl⟩ := H
        go_wp2_with (go_step3)
        (try simp only [Exit.noGoto_ret])
        go_ret2
        exact ⟨_, by first | rfl | (simp [errW_none, errW_some] <;> rfl) | (simp [*, errW_none, errW_some] <;> rfl), by first | exact Kd.S_nil _ _ _ _ _ | exact Kd.N_nil _ _ _ _ _ | exact Kd.V_nil _ _ _ _ _ | exact Kd.Q_nil _ _ _ _ _ | exact Kd.R_nil _ _ _ _ _, by repeat (first | (with_reducible first | exact HB.out | apply YA | apply YB | apply YC) | exact HB.out)⟩
      replace c9 := Bool.eq_false_iff.mpr c9
      subst c9
      have H1 : (if (l0.length : Int) > 1024 then (some (([] : List (S24)), 2)) else (batch_Pack.l0 kj3 l0 a2 ([] : List (S24)) (wrap64 (a2 - 3)) l0 (l0.length : Int) 0 (Go.bits .and .i64 a1 65535) ([] : List (S45)))) = some (r1, r2) := by rw [if_neg (show ¬ (false = true) by decide)] at H; exact H
      clear H
      have H := H1
      clear H1
      by_cases c10 : (l0.length : Int) > 1024
      · rw [if_pos c10] at H
        have c10b0 : decide (1024 < (l0.length : Int)) = true := decide_eq_true c10
        have c10b1 : decide (1024 < l0.length) = true := decide_eq_true (by omega)
        clear c10
        simp only [Option.some.injEq, Prod.mk.injEq] at H
        obtain ⟨rfl, rfl⟩ := H
        go_wp2_with (go_step3)
        (try simp only [Exit.noGoto_ret])
        go_ret2
        exact ⟨_, by first | rfl | (simp [errW_none, errW_some] <;> rfl) | (simp [*, errW_none, errW_some] <;> rfl), by first | exact Kd.S_nil _ _ _ _ _ | exact Kd.N_nil _ _ _ _ _ | exact Kd.V_nil _ _ _ _ _ | exact Kd.Q_nil _ _ _ _ _ | exact Kd.R_nil _ _ _ _ _, by repeat (first | (with_reducible first | exact HB.out | apply YA | apply YB | apply YC) | exact HB.out)⟩
      rw [if_neg c10] at H
      have c10b0 : decide (1024 < (l0.length : Int)) = false := decide_eq_false c10
      have c10b1 : decide (1024 < l0.length) = false := decide_eq_false (by omega)
      clear c10
      have H' := YL H
      clear H
      go_wp2_with (first | go_step3 | ((with_reducible refine gate_dst (N := 9) rfl ?_); (try (refine gate_guard (by rfl) ?_; dsimp only)); refine box_event ?hg (N := 9) ?hd (cs := #[.int .i64 0, .slice none 0 0]) (t := 24) ?hr ?_; (case hd => rfl); (case hg => rfl); (case hr => first | (go_simp; done) | (go_simp; rfl)); intro gb353 hg w11 hbox hb; have n0_ := YL (YD (by repeat (first | (with_reducible first | exact HB.out | apply YA | apply YB | apply YC) | exact HB.out)) hb); have n1_ := YL (hbox); have n2_ := YL ((by rw [hg]; exact (YE (by repeat (first | (with_reducible first | exact HB.out | apply YA | apply YB | apply YC) | exact HB.out))) : w.heap.size ≤ gb353)); have n3_ := YL ((by rw [hg]; exact (YE (by repeat (first | (with_reducible first | exact HB.out | apply YA | apply YB | apply YC) | exact HB.out))) : w.heap.size ≤ gb353)); clear HB; have HB := n0_; have BK353 := n1_; have GW353 := n2_; have GE353 := n3_; clear n0_ n1_ n2_ n3_; clear hb hbox hg; have hcz12_0 : w11.cell? ⟨gb353, 0, none⟩ = some (.int .i64 0) := (YI BK353.out 0).trans rfl; have hcz12_1 : w11.cell? ⟨gb353, 1, none⟩ = some (.slice none 0 0) := (YI BK353.out 1).trans rfl; have hfz12_0 := YJ BK353.out 0; have hfz12_1 := YJ BK353.out 1))
      go_loopg [8, 10, 36] kj3 (fun kq v8 v10 v36 w' => ∃ (x8_2 : List (S24)) (x10_2 : Int) (x36_2 : Int) (x354000_2 : Int) (x354001_2 : List (S45)) (u354001 : Value), v10 = .int .i64 x10_2 ∧ v36 = .int .i64 x36_2 ∧ Aside0 (batch_Pack.l0 kq l0 a2 x8_2 x10_2 l0 (l0.length : Int) x36_2 x354000_2 x354001_2 = some (r1, r2)) ∧ Aside0 (kq ≤ kj3) ∧ Aside0 (Kd.S k24 24 w' w.heap.size (fun k_ => some k_ ≠ (u354001 : Value).ownBlock ∧ k_ ≠ gb353) v8 x8_2) ∧ Aside0 (Kd.R k45 45 w' w.heap.size (fun _ => True) u354001 x354001_2) ∧ Aside0 (w'.heap[gb353]? = some (.cells #[.int .i64 x354000_2, u354001] 24 (0, 0))) ∧ Aside0 (Below w.heap.size w w'))
      case atStart => exact ⟨(([] : List (S24))), (wrap64 (a2 - 3)), (0), (Go.bits .and .i64 a1 65535), (([] : List (S45))), (.slice none 0 0), (by first | rfl | (simp; done) | (simp [*]; done)), (by first | rfl | (simp; done) | (simp [*]; done)), H', ⟨Nat.le_refl _⟩, ⟨by first | exact Kd.S_nil _ _ _ _ _ | exact Kd.N_nil _ _ _ _ _ | exact Kd.V_nil _ _ _ _ _ | exact Kd.Q_nil _ _ _ _ _ | exact Kd.R_nil _ _ _ _ _⟩, ⟨by first | exact Kd.R_nil _ _ _ _ _ | exact Kd.N_nil _ _ _ _ _ | exact Kd.V_nil _ _ _ _ _ | exact Kd.Q_nil _ _ _ _ _ | exact Kd.S_nil _ _ _ _ _⟩, ⟨by (with_reducible repeat (first | refine YF ?_ _ | refine YG ?_ | refine YH ?_ _)); refine blk_put (cs := #[.int .i64 (Go.bits .and .i64 a1 65535), .slice none 0 0]) ?_ 1 _ rfl; (with_reducible repeat (first | refine YF ?_ _ | refine YG ?_ | refine YH ?_ _)); refine blk_put (cs := #[.int .i64 0, .slice none 0 0]) ?_ 0 _ rfl; (with_reducible repeat (first | refine YF ?_ _ | refine YG ?_ | refine YH ?_ _)); exact BK353.out⟩, ⟨by repeat (first | (with_reducible first | exact HB.out | apply YA | apply YB | apply YC | refine below_set ?_ GE353.out) | exact HB.out)⟩⟩
      case round =>
        clear H'
        try clear c1
        try clear p2
        try clear c5
        try clear c5b0
        try clear c6
        try clear c6b0
        try clear p6
        try clear c9
        try clear c10
        try clear c10b0
        try clear c10b1
        try clear hcz12_0
        try clear hcz12_1
        try clear hfz12_0
        try clear hfz12_1
        try clear p2
        obtain ⟨x8_2, x10_2, x36_2, x354000_2, x354001_2, u354001, rfl, rfl, HA, HK2, HO_8, HO_354001, BK353, HB⟩ := hrel
        cases gk with
        | zero => exact absurd HA.out (by simp [batch_Pack.l0])
        | succ k2 =>
          have H := HA.out
          clear HA
          simp only [batch_Pack.l0] at H
          by_cases c13 : x36_2 < (l0.length : Int)
          · rw [if_pos c13] at H
            have c13b0 : decide (x36_2 < (l0.length : Int)) = true := decide_eq_true c13
            clear c13
            by_cases c14 : 0 ≤ x36_2
            rotate_left
            · rw [if_neg c14] at H
              exact absurd H (by simp)
            rw [if_pos c14] at H; have c14b0 : decide (0 ≤ x36_2) = true := decide_eq_true c14; clear c14
            by_cases c15 : x36_2 < (l0.length : Int)
            rotate_left
            · rw [if_neg c15] at H
              exact absurd H (by simp)
            rw [if_pos c15] at H
            have c15b0 : decide (x36_2 < (l0.length : Int)) = true := decide_eq_true c15
            clear c15; replace H := Option.bind_eq_some_iff.mp H; obtain ⟨t359, A160, H⟩ := H
            replace H : (if t359 ≤ x10_2 then (if (x354001_2.length : Int) < 32 then (if x36_2 < (l0.length : Int) then (if x354001_2.length < 1466015503701 then (batch_Pack.l0 k2 l0 a2 x8_2 (wrap64 (x10_2 - t359)) l0 (l0.length : Int) (wrap64 (x36_2 + 1)) x354000_2 (x354001_2 ++ [(⟨(rd_T45 l0 x36_2).f0, (rd_T45 l0 x36_2).f1, (⟨(rd_T45 l0 x36_2).f2.f0, (rd_T45 l0 x36_2).f2.f1, (rd_T45 l0 x36_2).f2.f2, (rd_T45 l0 x36_2).f2.f3, (rd_T45 l0 x36_2).f2.f4, (rd_T45 l0 x36_2).f2.f5⟩ : S41), (⟨(rd_T45 l0 x36_2).f3.f0, (rd_T45 l0 x36_2).f3.f1, (rd_T45 l0 x36_2).f3.f2⟩ : S43), (rd_T45 l0 x36_2).f4⟩ : S45)])) else (none)) else (none)) else (if x8_2.length < 4398046511104 then ((serial_Next.f x354000_2).bind fun t367 => (batch_Pack.l0 k2 l0 a2 (x8_2 ++ [(⟨x354000_2, x354001_2⟩ : S24)]) (wrap64 ((wrap64 (a2 - 3)) - t359)) l0 (l0.length : Int) (wrap64 (x36_2 + 1)) t367 (([(⟨(rd_T45 l0 x36_2).f0, (rd_T45 l0 x36_2).f1, (⟨(rd_T45 l0 x36_2).f2.f0, (rd_T45 l0 x36_2).f2.f1, (rd_T45 l0 x36_2).f2.f2, (rd_T45 l0 x36_2).f2.f3, (rd_T45 l0 x36_2).f2.f4, (rd_T45 l0 x36_2).f2.f5⟩ : S41), (⟨(rd_T45 l0 x36_2).f3.f0, (rd_T45 l0 x36_2).f3.f1, (rd_T45 l0 x36_2).f3.f2⟩ : S43), (rd_T45 l0 x36_2).f4⟩ : S45)] : List (S45))))) else (none))) else (if x8_2.length < 4398046511104 then ((serial_Next.f x354000_2).bind fun t374 => (batch_Pack.l0 k2 l0 a2 (x8_2 ++ [(⟨x354000_2, x354001_2⟩ : S24)]) (wrap64 ((wrap64 (a2 - 3)) - t359)) l0 (l0.length : Int) (wrap64 (x36_2 + 1)) t374 (([(⟨(rd_T45 l0 x36_2).f0, (rd_T45 l0 x36_2).f1, (⟨(rd_T45 l0 x36_2).f2.f0, (rd_T45 l0 x36_2).f2.f1, (rd_T45 l0 x36_2).f2.f2, (rd_T45 l0 x36_2).f2.f3, (rd_T45 l0 x36_2).f2.f4, (rd_T45 l0 x36_2).f2.f5⟩ : S41), (⟨(rd_T45 l0 x36_2).f3.f0, (rd_T45 l0 x36_2).f3.f1, (rd_T45 l0 x36_2).f3.f2⟩ : S43), (rd_T45 l0 x36_2).f4⟩ : S45)] : List (S45))))) else (none))) = some (r1, r2) := H
            have A16 := YL A160; clear A160
            by_cases c17 : t359 ≤ x10_2
            · rw [if_pos c17] at H
              have c17b0 : decide (t359 ≤ x10_2) = true := decide_eq_true c17; clear c17
              by_cases c18 : (x354001_2.length : Int) < 32
              · rw [if_pos c18] at H
                have c18b0 : decide ((x354001_2.length : Int) < 32) = true := decide_eq_true c18
                have c18b1 : decide (x354001_2.length < 32) = true := decide_eq_true (by omega)
                clear c18
                by_cases c19 : x36_2 < (l0.length : Int)
                rotate_left
                · rw [if_neg c19] at H
                  exact absurd H (by simp)
                rw [if_pos c19] at H
                have c19b0 : decide (x36_2 < (l0.length : Int)) = true := decide_eq_true c19
                clear c19
                by_cases c20 : x354001_2.length < 1466015503701
                rotate_left
                · rw [if_neg c20] at H
                  exact absurd H (by simp)
                rw [if_pos c20] at H; have LMc20 := YL c20; clear c20
                obtain ⟨y361, hy361⟩ : ∃ y_ : List (S45), y_ = (x354001_2 ++ [(⟨(rd_T45 l0 x36_2).f0, (rd_T45 l0 x36_2).f1, (⟨(rd_T45 l0 x36_2).f2.f0, (rd_T45 l0 x36_2).f2.f1, (rd_T45 l0 x36_2).f2.f2, (rd_T45 l0 x36_2).f2.f3, (rd_T45 l0 x36_2).f2.f4, (rd_T45 l0 x36_2).f2.f5⟩ : S41), (⟨(rd_T45 l0 x36_2).f3.f0, (rd_T45 l0 x36_2).f3.f1, (rd_T45 l0 x36_2).f3.f2⟩ : S43), (rd_T45 l0 x36_2).f4⟩ : S45)]) := ⟨_, rfl⟩
                replace H : (batch_Pack.l0 k2 l0 a2 x8_2 (wrap64 (x10_2 - t359)) l0 (l0.length : Int) (wrap64 (x36_2 + 1)) x354000_2 y361) = some (r1, r2) := by first | (rw [hy361]; with_reducible exact H) | (have H2_ := (Option.bind_some _ _).symm.trans H; rw [hy361]; with_reducible exact H2_) | (have H2_ := (Option.bind_some _ _).symm.trans H; with_reducible exact H2_) | with_reducible exact H | (rw [hy361]; exact H) | exact H
                have Ny361 := YL hy361; clear hy361
                have H' := YL H
                clear H
                have p357 : 0 ≤ (x36_2 : Int) := of_decide_eq_true (by first | (with_reducible assumption) | assumption)
                have q357 : x36_2 < (l0.length : Int) := of_decide_eq_true (by first | (with_reducible assumption) | assumption)
                obtain ⟨ad357, e357, hx357_0, hx357_1, hx357_2, hx357_3, hx357_4, hx357_5, hx357_6, hx357_7, hx357_8, hx357_9, hx357_10, hx357_11⟩ := at_T45 HR0.out x36_2 p357 q357
                cases e357
                replace hx357_0 := (HB.out.cell (World.block_lt_of_cell? w _ hx357_0)).trans hx357_0
                replace hx357_1 := (HB.out.cell (World.block_lt_of_cell? w _ hx357_1)).trans hx357_1
                replace hx357_2 := (HB.out.cell (World.block_lt_of_cell? w _ hx357_2)).trans hx357_2
                replace hx357_3 := (HB.out.cell (World.block_lt_of_cell? w _ hx357_3)).trans hx357_3
                replace hx357_4 := (HB.out.cell (World.block_lt_of_cell? w _ hx357_4)).trans hx357_4
                replace hx357_5 := (HB.out.cell (World.block_lt_of_cell? w _ hx357_5)).trans hx357_5
                replace hx357_6 := (HB.out.cell (World.block_lt_of_cell? w _ hx357_6)).trans hx357_6
                replace hx357_7 := (HB.out.cell (World.block_lt_of_cell? w _ hx357_7)).trans hx357_7
                replace hx357_8 := (HB.out.cell (World.block_lt_of_cell? w _ hx357_8)).trans hx357_8
                replace hx357_9 := (HB.out.cell (World.block_lt_of_cell? w _ hx357_9)).trans hx357_9
                replace hx357_10 := (HB.out.cell (World.block_lt_of_cell? w _ hx357_10)).trans hx357_10
                replace hx357_11 := (HB.out.cell (World.block_lt_of_cell? w _ hx357_11)).trans hx357_11
                replace p357 := eq_true p357
                replace q357 := eq_true q357
                try go_wp2_with (first | go_step3 | ((with_reducible refine gate_dst (N := 12) rfl ?_); (try (refine gate_guard (by rfl) ?_; dsimp only)); refine box_event ?hg (N := 12) ?hd (cs := #[.int .i64 0, .int .i64 0, .bool false, .int .i64 0, .int .i64 0, .int .i64 0, .int .i64 0, .int .i64 0, .int .i64 0, .int .i64 0, .int .i64 0, .int .i64 0]) (t := 45) ?hr ?_; (case hd => rfl); (case hg => rfl); (case hr => first | (go_simp; done) | (go_simp; rfl)); intro gb358 hg w21 hbox hb; have n0_ := YL (Kd.S_below (Kd.S_elderB (by (with_reducible repeat (first | apply Kd.S_alloc | apply Kd.S_drewN | apply Kd.S_drew)); exact HO_8.out) gb358 (Nat.le_of_eq hg.symm)) hb); have n1_ := YL (YV (Kd.R_elderB (by (with_reducible repeat (first | apply YS | apply YT | apply YU)); exact HO_354001.out) gb358 (Nat.le_of_eq hg.symm)) hb); have n2_ := YL (YK (g := gb353) (o := .cells #[.int .i64 x354000_2, u354001] 24 (0, 0)) (by (with_reducible repeat (first | refine YF ?_ _ | refine YG ?_ | refine YH ?_ _)); exact BK353.out) hb); have n3_ := YL (YD (by repeat (first | (with_reducible first | exact HB.out | apply YA | apply YB | apply YC | refine below_set ?_ GE353.out) | exact HB.out)) hb); have n4_ := YL (hbox); have n5_ := YL ((by rw [hg]; exact (YE (by repeat (first | (with_reducible first | exact HB.out | apply YA | apply YB | apply YC | refine below_set ?_ GE353.out) | exact HB.out))) : w.heap.size ≤ gb358)); have n6_ := YL ((by rw [hg]; exact (YE (by repeat (first | (with_reducible first | exact HB.out | apply YA | apply YB | apply YC | refine below_set ?_ GE353.out) | exact HB.out))) : w.heap.size ≤ gb358)); have n7_ := YL ((by rw [hg]; exact Nat.ne_of_lt (blk_lt (g := gb353) (o := .cells #[.int .i64 x354000_2, u354001] 24 (0, 0)) (by (with_reducible repeat (first | refine YF ?_ _ | refine YG ?_ | refine YH ?_ _)); exact BK353.out)) : gb353 ≠ gb358)); have n8_ := YL ((by rw [hg]; exact Nat.ne_of_gt (blk_lt (g := gb353) (o := .cells #[.int .i64 x354000_2, u354001] 24 (0, 0)) (by (with_reducible repeat (first | refine YF ?_ _ | refine YG ?_ | refine YH ?_ _)); exact BK353.out)) : gb358 ≠ gb353)); clear HO_8; clear HO_354001; clear BK353; clear HB; have HO_8 := n0_; have HO_354001 := n1_; have BK353 := n2_; have HB := n3_; have BK358 := n4_; have GW358 := n5_; have GE358 := n6_; have NB353_358 := n7_; have NB358_353 := n8_; clear n0_ n1_ n2_ n3_ n4_ n5_ n6_ n7_ n8_; clear hb hbox hg; have hnb22 := NB358_353.out; have hnc22 := NB353_358.out; have hcz23_0 : w21.cell? ⟨gb358, 0, none⟩ = some (.int .i64 0) := (YI BK358.out 0).trans rfl; have hcz23_1 : w21.cell? ⟨gb358, 1, none⟩ = some (.int .i64 0) := (YI BK358.out 1).trans rfl; have hcz23_2 : w21.cell? ⟨gb358, 2, none⟩ = some (.bool false) := (YI BK358.out 2).trans rfl; have hcz23_3 : w21.cell? ⟨gb358, 3, none⟩ = some (.int .i64 0) := (YI BK358.out 3).trans rfl; have hcz23_4 : w21.cell? ⟨gb358, 4, none⟩ = some (.int .i64 0) := (YI BK358.out 4).trans rfl; have hcz23_5 : w21.cell? ⟨gb358, 5, none⟩ = some (.int .i64 0) := (YI BK358.out 5).trans rfl; have hcz23_6 : w21.cell? ⟨gb358, 6, none⟩ = some (.int .i64 0) := (YI BK358.out 6).trans rfl; have hcz23_7 : w21.cell? ⟨gb358, 7, none⟩ = some (.int .i64 0) := (YI BK358.out 7).trans rfl; have hcz23_8 : w21.cell? ⟨gb358, 8, none⟩ = some (.int .i64 0) := (YI BK358.out 8).trans rfl; have hcz23_9 : w21.cell? ⟨gb358, 9, none⟩ = some (.int .i64 0) := (YI BK358.out 9).trans rfl; have hcz23_10 : w21.cell? ⟨gb358, 10, none⟩ = some (.int .i64 0) := (YI BK358.out 10).trans rfl; have hcz23_11 : w21.cell? ⟨gb358, 11, none⟩ = some (.int .i64 0) := (YI BK358.out 11).trans rfl; have hfz23_0 := YJ BK358.out 0; have hfz23_1 := YJ BK358.out 1; have hfz23_2 := YJ BK358.out 2; have hfz23_3 := YJ BK358.out 3; have hfz23_4 := YJ BK358.out 4; have hfz23_5 := YJ BK358.out 5; have hfz23_6 := YJ BK358.out 6; have hfz23_7 := YJ BK358.out 7; have hfz23_8 := YJ BK358.out 8; have hfz23_9 := YJ BK358.out 9; have hfz23_10 := YJ BK358.out 10; have hfz23_11 := YJ BK358.out 11) | ((with_reducible refine gate_callee (f := 18) rfl ?_); refine goesL_ (some 42) rfl rfl Try.func18 (by kernel_rfl) rfl #[.agg #[.int .i64 ((rd_T45 l0 x36_2).f0), .int .i64 ((rd_T45 l0 x36_2).f1), .bool ((rd_T45 l0 x36_2).f2.f0), .int .i64 ((rd_T45 l0 x36_2).f2.f1), .int .i64 ((rd_T45 l0 x36_2).f2.f2), .int .i64 ((rd_T45 l0 x36_2).f2.f3), .int .i64 ((rd_T45 l0 x36_2).f2.f4), .int .i64 ((rd_T45 l0 x36_2).f2.f5), .int .i64 ((rd_T45 l0 x36_2).f3.f0), .int .i64 ((rd_T45 l0 x36_2).f3.f1), .int .i64 ((rd_T45 l0 x36_2).f3.f2), .int .i64 ((rd_T45 l0 x36_2).f4)]] rfl (by (try simp only [YP, List.map_cons, List.map_nil]); first | done | rfl | (simp only [YR, YQ]; rfl)) ?_; (with_reducible refine (object_Size.calls k2 ((rd_T45 l0 x36_2).f0) ((rd_T45 l0 x36_2).f1) ((rd_T45 l0 x36_2).f2.f0) ((rd_T45 l0 x36_2).f2.f1) ((rd_T45 l0 x36_2).f2.f2) ((rd_T45 l0 x36_2).f2.f3) ((rd_T45 l0 x36_2).f2.f4) ((rd_T45 l0 x36_2).f2.f5) ((rd_T45 l0 x36_2).f3.f0) ((rd_T45 l0 x36_2).f3.f1) ((rd_T45 l0 x36_2).f3.f2) ((rd_T45 l0 x36_2).f4) t359 _ A16.out).mono ?_); rintro e w24 ⟨rfl, hb⟩; refine ⟨_, rfl, ?_⟩; have n0_ := YL (Kd.S_below (by (with_reducible repeat (first | apply Kd.S_alloc | apply Kd.S_drewN | apply Kd.S_drew)); exact (Kd.S_mono (Kd.S_far (p := ⟨gb358, 11, none⟩) (Kd.S_far (p := ⟨gb358, 10, none⟩) (Kd.S_far (p := ⟨gb358, 9, none⟩) (Kd.S_far (p := ⟨gb358, 8, none⟩) (Kd.S_far (p := ⟨gb358, 7, none⟩) (Kd.S_far (p := ⟨gb358, 6, none⟩) (Kd.S_far (p := ⟨gb358, 5, none⟩) (Kd.S_far (p := ⟨gb358, 4, none⟩) (Kd.S_far (p := ⟨gb358, 3, none⟩) (Kd.S_far (p := ⟨gb358, 2, none⟩) (Kd.S_far (p := ⟨gb358, 1, none⟩) (Kd.S_far (p := ⟨gb358, 0, none⟩) (Kd.S_mono HO_8.out (fun k_ hk => (⟨hk, hk.2⟩ : _ ∧ k_ ≠ gb358))) (fun _ hk => hk.2) (.int .i64 ((rd_T45 l0 x36_2).f0))) (fun _ hk => hk.2) (.int .i64 ((rd_T45 l0 x36_2).f1))) (fun _ hk => hk.2) (.bool ((rd_T45 l0 x36_2).f2.f0))) (fun _ hk => hk.2) (.int .i64 ((rd_T45 l0 x36_2).f2.f1))) (fun _ hk => hk.2) (.int .i64 ((rd_T45 l0 x36_2).f2.f2))) (fun _ hk => hk.2) (.int .i64 ((rd_T45 l0 x36_2).f2.f3))) (fun _ hk => hk.2) (.int .i64 ((rd_T45 l0 x36_2).f2.f4))) (fun _ hk => hk.2) (.int .i64 ((rd_T45 l0 x36_2).f2.f5))) (fun _ hk => hk.2) (.int .i64 ((rd_T45 l0 x36_2).f3.f0))) (fun _ hk => hk.2) (.int .i64 ((rd_T45 l0 x36_2).f3.f1))) (fun _ hk => hk.2) (.int .i64 ((rd_T45 l0 x36_2).f3.f2))) (fun _ hk => hk.2) (.int .i64 ((rd_T45 l0 x36_2).f4))) (fun _ h_ => h_.1))) hb); have n1_ := YL (YV (by (with_reducible repeat (first | apply YS | apply YT | apply YU)); exact (Kd.R_mono (Kd.R_far (p := ⟨gb358, 11, none⟩) (Kd.R_far (p := ⟨gb358, 10, none⟩) (Kd.R_far (p := ⟨gb358, 9, none⟩) (Kd.R_far (p := ⟨gb358, 8, none⟩) (Kd.R_far (p := ⟨gb358, 7, none⟩) (Kd.R_far (p := ⟨gb358, 6, none⟩) (Kd.R_far (p := ⟨gb358, 5, none⟩) (Kd.R_far (p := ⟨gb358, 4, none⟩) (Kd.R_far (p := ⟨gb358, 3, none⟩) (Kd.R_far (p := ⟨gb358, 2, none⟩) (Kd.R_far (p := ⟨gb358, 1, none⟩) (Kd.R_far (p := ⟨gb358, 0, none⟩) (Kd.R_mono HO_354001.out (fun k_ hk => (⟨hk, hk.2⟩ : _ ∧ k_ ≠ gb358))) (fun _ hk => hk.2) (.int .i64 ((rd_T45 l0 x36_2).f0))) (fun _ hk => hk.2) (.int .i64 ((rd_T45 l0 x36_2).f1))) (fun _ hk => hk.2) (.bool ((rd_T45 l0 x36_2).f2.f0))) (fun _ hk => hk.2) (.int .i64 ((rd_T45 l0 x36_2).f2.f1))) (fun _ hk => hk.2) (.int .i64 ((rd_T45 l0 x36_2).f2.f2))) (fun _ hk => hk.2) (.int .i64 ((rd_T45 l0 x36_2).f2.f3))) (fun _ hk => hk.2) (.int .i64 ((rd_T45 l0 x36_2).f2.f4))) (fun _ hk => hk.2) (.int .i64 ((rd_T45 l0 x36_2).f2.f5))) (fun _ hk => hk.2) (.int .i64 ((rd_T45 l0 x36_2).f3.f0))) (fun _ hk => hk.2) (.int .i64 ((rd_T45 l0 x36_2).f3.f1))) (fun _ hk => hk.2) (.int .i64 ((rd_T45 l0 x36_2).f3.f2))) (fun _ hk => hk.2) (.int .i64 ((rd_T45 l0 x36_2).f4))) (fun _ h_ => h_.1))) hb); have n2_ := YL (YK (g := gb353) (o := .cells #[.int .i64 x354000_2, u354001] 24 (0, 0)) (by (with_reducible repeat (first | refine YF ?_ _ | refine YG ?_ | refine YH ?_ _)); refine blk_far ?_ NB353_358.out _; (with_reducible repeat (first | refine YF ?_ _ | refine YG ?_ | refine YH ?_ _)); refine blk_far ?_ NB353_358.out _; (with_reducible repeat (first | refine YF ?_ _ | refine YG ?_ | refine YH ?_ _)); refine blk_far ?_ NB353_358.out _; (with_reducible repeat (first | refine YF ?_ _ | refine YG ?_ | refine YH ?_ _)); refine blk_far ?_ NB353_358.out _; (with_reducible repeat (first | refine YF ?_ _ | refine YG ?_ | refine YH ?_ _)); refine blk_far ?_ NB353_358.out _; (with_reducible repeat (first | refine YF ?_ _ | refine YG ?_ | refine YH ?_ _)); refine blk_far ?_ NB353_358.out _; (with_reducible repeat (first | refine YF ?_ _ | refine YG ?_ | refine YH ?_ _)); refine blk_far ?_ NB353_358.out _; (with_reducible repeat (first | refine YF ?_ _ | refine YG ?_ | refine YH ?_ _)); refine blk_far ?_ NB353_358.out _; (with_reducible repeat (first | refine YF ?_ _ | refine YG ?_ | refine YH ?_ _)); refine blk_far ?_ NB353_358.out _; (with_reducible repeat (first | refine YF ?_ _ | refine YG ?_ | refine YH ?_ _)); refine blk_far ?_ NB353_358.out _; (with_reducible repeat (first | refine YF ?_ _ | refine YG ?_ | refine YH ?_ _)); refine blk_far ?_ NB353_358.out _; (with_reducible repeat (first | refine YF ?_ _ | refine YG ?_ | refine YH ?_ _)); refine blk_far ?_ NB353_358.out _; (with_reducible repeat (first | refine YF ?_ _ | refine YG ?_ | refine YH ?_ _)); exact BK353.out) hb); have n3_ := YL (YK (g := gb358) (o := .cells #[.int .i64 ((rd_T45 l0 x36_2).f0), .int .i64 ((rd_T45 l0 x36_2).f1), .bool ((rd_T45 l0 x36_2).f2.f0), .int .i64 ((rd_T45 l0 x36_2).f2.f1), .int .i64 ((rd_T45 l0 x36_2).f2.f2), .int .i64 ((rd_T45 l0 x36_2).f2.f3), .int .i64 ((rd_T45 l0 x36_2).f2.f4), .int .i64 ((rd_T45 l0 x36_2).f2.f5), .int .i64 ((rd_T45 l0 x36_2).f3.f0), .int .i64 ((rd_T45 l0 x36_2).f3.f1), .int .i64 ((rd_T45 l0 x36_2).f3.f2), .int .i64 ((rd_T45 l0 x36_2).f4)] 45 (0, 0)) (by (with_reducible repeat (first | refine YF ?_ _ | refine YG ?_ | refine YH ?_ _)); refine blk_put (cs := #[.int .i64 ((rd_T45 l0 x36_2).f0), .int .i64 ((rd_T45 l0 x36_2).f1), .bool ((rd_T45 l0 x36_2).f2.f0), .int .i64 ((rd_T45 l0 x36_2).f2.f1), .int .i64 ((rd_T45 l0 x36_2).f2.f2), .int .i64 ((rd_T45 l0 x36_2).f2.f3), .int .i64 ((rd_T45 l0 x36_2).f2.f4), .int .i64 ((rd_T45 l0 x36_2).f2.f5), .int .i64 ((rd_T45 l0 x36_2).f3.f0), .int .i64 ((rd_T45 l0 x36_2).f3.f1), .int .i64 ((rd_T45 l0 x36_2).f3.f2), .int .i64 0]) ?_ 11 _ rfl; (with_reducible repeat (first | refine YF ?_ _ | refine YG ?_ | refine YH ?_ _)); refine blk_put (cs := #[.int .i64 ((rd_T45 l0 x36_2).f0), .int .i64 ((rd_T45 l0 x36_2).f1), .bool ((rd_T45 l0 x36_2).f2.f0), .int .i64 ((rd_T45 l0 x36_2).f2.f1), .int .i64 ((rd_T45 l0 x36_2).f2.f2), .int .i64 ((rd_T45 l0 x36_2).f2.f3), .int .i64 ((rd_T45 l0 x36_2).f2.f4), .int .i64 ((rd_T45 l0 x36_2).f2.f5), .int .i64 ((rd_T45 l0 x36_2).f3.f0), .int .i64 ((rd_T45 l0 x36_2).f3.f1), .int .i64 0, .int .i64 0]) ?_ 10 _ rfl; (with_reducible repeat (first | refine YF ?_ _ | refine YG ?_ | refine YH ?_ _)); refine blk_put (cs := #[.int .i64 ((rd_T45 l0 x36_2).f0), .int .i64 ((rd_T45 l0 x36_2).f1), .bool ((rd_T45 l0 x36_2).f2.f0), .int .i64 ((rd_T45 l0 x36_2).f2.f1), .int .i64 ((rd_T45 l0 x36_2).f2.f2), .int .i64 ((rd_T45 l0 x36_2).f2.f3), .int .i64 ((rd_T45 l0 x36_2).f2.f4), .int .i64 ((rd_T45 l0 x36_2).f2.f5), .int .i64 ((rd_T45 l0 x36_2).f3.f0), .int .i64 0, .int .i64 0, .int .i64 0]) ?_ 9 _ rfl; (with_reducible repeat (first | refine YF ?_ _ | refine YG ?_ | refine YH ?_ _)); refine blk_put (cs := #[.int .i64 ((rd_T45 l0 x36_2).f0), .int .i64 ((rd_T45 l0 x36_2).f1), .bool ((rd_T45 l0 x36_2).f2.f0), .int .i64 ((rd_T45 l0 x36_2).f2.f1), .int .i64 ((rd_T45 l0 x36_2).f2.f2), .int .i64 ((rd_T45 l0 x36_2).f2.f3), .int .i64 ((rd_T45 l0 x36_2).f2.f4), .int .i64 ((rd_T45 l0 x36_2).f2.f5), .int .i64 0, .int .i64 0, .int .i64 0, .int .i64 0]) ?_ 8 _ rfl; (with_reducible repeat (first | refine YF ?_ _ | refine YG ?_ | refine YH ?_ _)); refine blk_put (cs := #[.int .i64 ((rd_T45 l0 x36_2).f0), .int .i64 ((rd_T45 l0 x36_2).f1), .bool ((rd_T45 l0 x36_2).f2.f0), .int .i64 ((rd_T45 l0 x36_2).f2.f1), .int .i64 ((rd_T45 l0 x36_2).f2.f2), .int .i64 ((rd_T45 l0 x36_2).f2.f3), .int .i64 ((rd_T45 l0 x36_2).f2.f4), .int .i64 0, .int .i64 0, .int .i64 0, .int .i64 0, .int .i64 0]) ?_ 7 _ rfl; (with_reducible repeat (first | refine YF ?_ _ | refine YG ?_ | refine YH ?_ _)); refine blk_put (cs := #[.int .i64 ((rd_T45 l0 x36_2).f0), .int .i64 ((rd_T45 l0 x36_2).f1), .bool ((rd_T45 l0 x36_2).f2.f0), .int .i64 ((rd_T45 l0 x36_2).f2.f1), .int .i64 ((rd_T45 l0 x36_2).f2.f2), .int .i64 ((rd_T45 l0 x36_2).f2.f3), .int .i64 0, .int .i64 0, .int .i64 0, .int .i64 0, .int .i64 0, .int .i64 0]) ?_ 6 _ rfl; (with_reducible repeat (first | refine YF ?_ _ | refine YG ?_ | refine YH ?_ _)); refine blk_put (cs := #[.int .i64 ((rd_T45 l0 x36_2).f0), .int .i64 ((rd_T45 l0 x36_2).f1), .bool ((rd_T45 l0 x36_2).f2.f0), .int .i64 ((rd_T45 l0 x36_2).f2.f1), .int .i64 ((rd_T45 l0 x36_2).f2.f2), .int .i64 0, .int .i64 0, .int .i64 0, .int .i64 0, .int .i64 0, .int .i64 0, .int .i64 0]) ?_ 5 _ rfl; (with_reducible repeat (first | refine YF ?_ _ | refine YG ?_ | refine YH ?_ _)); refine blk_put (cs := #[.int .i64 ((rd_T45 l0 x36_2).f0), .int .i64 ((rd_T45 l0 x36_2).f1), .bool ((rd_T45 l0 x36_2).f2.f0), .int .i64 ((rd_T45 l0 x36_2).f2.f1), .int .i64 0, .int .i64 0, .int .i64 0, .int .i64 0, .int .i64 0, .int .i64 0, .int .i64 0, .int .i64 0]) ?_ 4 _ rfl; (with_reducible repeat (first | refine YF ?_ _ | refine YG ?_ | refine YH ?_ _)); refine blk_put (cs := #[.int .i64 ((rd_T45 l0 x36_2).f0), .int .i64 ((rd_T45 l0 x36_2).f1), .bool ((rd_T45 l0 x36_2).f2.f0), .int .i64 0, .int .i64 0, .int .i64 0, .int .i64 0, .int .i64 0, .int .i64 0, .int .i64 0, .int .i64 0, .int .i64 0]) ?_ 3 _ rfl; (with_reducible repeat (first | refine YF ?_ _ | refine YG ?_ | refine YH ?_ _)); refine blk_put (cs := #[.int .i64 ((rd_T45 l0 x36_2).f0), .int .i64 ((rd_T45 l0 x36_2).f1), .bool false, .int .i64 0, .int .i64 0, .int .i64 0, .int .i64 0, .int .i64 0, .int .i64 0, .int .i64 0, .int .i64 0, .int .i64 0]) ?_ 2 _ rfl; (with_reducible repeat (first | refine YF ?_ _ | refine YG ?_ | refine YH ?_ _)); refine blk_put (cs := #[.int .i64 ((rd_T45 l0 x36_2).f0), .int .i64 0, .bool false, .int .i64 0, .int .i64 0, .int .i64 0, .int .i64 0, .int .i64 0, .int .i64 0, .int .i64 0, .int .i64 0, .int .i64 0]) ?_ 1 _ rfl; (with_reducible repeat (first | refine YF ?_ _ | refine YG ?_ | refine YH ?_ _)); refine blk_put (cs := #[.int .i64 0, .int .i64 0, .bool false, .int .i64 0, .int .i64 0, .int .i64 0, .int .i64 0, .int .i64 0, .int .i64 0, .int .i64 0, .int .i64 0, .int .i64 0]) ?_ 0 _ rfl; (with_reducible repeat (first | refine YF ?_ _ | refine YG ?_ | refine YH ?_ _)); exact BK358.out) hb); have n4_ := YL (YD (by repeat (first | (with_reducible first | exact HB.out | apply YA | apply YB | apply YC | refine below_set ?_ GE353.out | refine below_set ?_ GE358.out) | exact HB.out)) hb); clear HO_8; clear HO_354001; clear BK353; clear BK358; clear HB; have HO_8 := n0_; have HO_354001 := n1_; have BK353 := n2_; have BK358 := n3_; have HB := n4_; clear n0_ n1_ n2_ n3_ n4_; (try clear hb); (try clear hb2); (try clear hk); (try clear hi); have hcz25_0 : w24.cell? ⟨gb353, 0, none⟩ = some (.int .i64 x354000_2) := (YI BK353.out 0).trans rfl; have hcz25_1 : w24.cell? ⟨gb353, 1, none⟩ = some (u354001) := (YI BK353.out 1).trans rfl; have hfz25_0 := YJ BK353.out 0; have hfz25_1 := YJ BK353.out 1; obtain ⟨Ao26, co26, eo26⟩ := Kd.R_slice HO_354001.out; subst eo26))
                have n0_ := YL (Kd.S_drew HO_8.out)
                have n1_ := YL (YU HO_354001.out)
                have n2_ := YL (YG BK353.out)
                have n3_ := YL (YG BK358.out)
                have n4_ := YL (YC HB.out)
                clear HO_8; clear HO_354001; clear BK353; clear BK358; clear HB; have HO_8 := n0_; have HO_354001 := n1_; have BK353 := n2_; have BK358 := n3_; have HB := n4_; clear n0_ n1_ n2_ n3_ n4_
                have p360 : 0 ≤ (x36_2 : Int) := of_decide_eq_true (by first | (with_reducible assumption) | assumption)
                have q360 : x36_2 < (l0.length : Int) := of_decide_eq_true (by first | (with_reducible assumption) | assumption)
                obtain ⟨ad360, e360, hx360_0, hx360_1, hx360_2, hx360_3, hx360_4, hx360_5, hx360_6, hx360_7, hx360_8, hx360_9, hx360_10, hx360_11⟩ := at_T45 HR0.out x36_2 p360 q360
                have hw360_11 := hx360_11
                have hw360_10 := hx360_10
                have hw360_9 := hx360_9
                have hw360_8 := hx360_8
                have hw360_7 := hx360_7
                have hw360_6 := hx360_6
                have hw360_5 := hx360_5
                have hw360_4 := hx360_4
                have hw360_3 := hx360_3
                have hw360_2 := hx360_2
                have hw360_1 := hx360_1
                have hw360_0 := hx360_0
                obtain rfl : ad357 = ad360 := (by injection e360)
                replace hx360_0 := (HB.out.cell (World.block_lt_of_cell? w _ hx360_0)).trans hx360_0
                replace hx360_1 := (HB.out.cell (World.block_lt_of_cell? w _ hx360_1)).trans hx360_1
                replace hx360_2 := (HB.out.cell (World.block_lt_of_cell? w _ hx360_2)).trans hx360_2
                replace hx360_3 := (HB.out.cell (World.block_lt_of_cell? w _ hx360_3)).trans hx360_3
                replace hx360_4 := (HB.out.cell (World.block_lt_of_cell? w _ hx360_4)).trans hx360_4
                replace hx360_5 := (HB.out.cell (World.block_lt_of_cell? w _ hx360_5)).trans hx360_5
                replace hx360_6 := (HB.out.cell (World.block_lt_of_cell? w _ hx360_6)).trans hx360_6
                replace hx360_7 := (HB.out.cell (World.block_lt_of_cell? w _ hx360_7)).trans hx360_7
                replace hx360_8 := (HB.out.cell (World.block_lt_of_cell? w _ hx360_8)).trans hx360_8
                replace hx360_9 := (HB.out.cell (World.block_lt_of_cell? w _ hx360_9)).trans hx360_9
                replace hx360_10 := (HB.out.cell (World.block_lt_of_cell? w _ hx360_10)).trans hx360_10
                replace hx360_11 := (HB.out.cell (World.block_lt_of_cell? w _ hx360_11)).trans hx360_11
                replace p360 := eq_true p360
                replace q360 := eq_true q360
                refine start_ (n := 10) (S := fun w' => w'.cell? ⟨gb353, 0, none⟩ = some (.int .i64 x354000_2) ∧ w'.cell? ⟨gb353, 1, none⟩ = some (.slice Ao26 x354001_2.length co26) ∧ w'.cell? (ad357.add ((x36_2).toNat * 12)) = some (.int .i64 ((rd_T45 l0 x36_2).f0)) ∧ w'.cell? ⟨(ad357.add ((x36_2).toNat * 12)).block, (ad357.add ((x36_2).toNat * 12)).off + 1, none⟩ = some (.int .i64 ((rd_T45 l0 x36_2).f1)) ∧ w'.cell? ⟨(ad357.add ((x36_2).toNat * 12)).block, (ad357.add ((x36_2).toNat * 12)).off + 2, none⟩ = some (.bool ((rd_T45 l0 x36_2).f2.f0)) ∧ w'.cell? ⟨(ad357.add ((x36_2).toNat * 12)).block, (ad357.add ((x36_2).toNat * 12)).off + 3, none⟩ = some (.int .i64 ((rd_T45 l0 x36_2).f2.f1)) ∧ w'.cell? ⟨(ad357.add ((x36_2).toNat * 12)).block, (ad357.add ((x36_2).toNat * 12)).off + 4, none⟩ = some (.int .i64 ((rd_T45 l0 x36_2).f2.f2)) ∧ w'.cell? ⟨(ad357.add ((x36_2).toNat * 12)).block, (ad357.add ((x36_2).toNat * 12)).off + 5, none⟩ = some (.int .i64 ((rd_T45 l0 x36_2).f2.f3)) ∧ w'.cell? ⟨(ad357.add ((x36_2).toNat * 12)).block, (ad357.add ((x36_2).toNat * 12)).off + 6, none⟩ = some (.int .i64 ((rd_T45 l0 x36_2).f2.f4)) ∧ w'.cell? ⟨(ad357.add ((x36_2).toNat * 12)).block, (ad357.add ((x36_2).toNat * 12)).off + 7, none⟩ = some (.int .i64 ((rd_T45 l0 x36_2).f2.f5)) ∧ w'.cell? ⟨(ad357.add ((x36_2).toNat * 12)).block, (ad357.add ((x36_2).toNat * 12)).off + 8, none⟩ = some (.int .i64 ((rd_T45 l0 x36_2).f3.f0)) ∧ w'.cell? ⟨(ad357.add ((x36_2).toNat * 12)).block, (ad357.add ((x36_2).toNat * 12)).off + 9, none⟩ = some (.int .i64 ((rd_T45 l0 x36_2).f3.f1)) ∧ w'.cell? ⟨(ad357.add ((x36_2).toNat * 12)).block, (ad357.add ((x36_2).toNat * 12)).off + 10, none⟩ = some (.int .i64 ((rd_T45 l0 x36_2).f3.f2)) ∧ w'.cell? ⟨(ad357.add ((x36_2).toNat * 12)).block, (ad357.add ((x36_2).toNat * 12)).off + 11, none⟩ = some (.int .i64 ((rd_T45 l0 x36_2).f4))) (ds := [9]) #[false, false, false, false, false, false, false, false, false, false] (by kernel_rfl) rfl rfl ⟨(YI BK353.out 0).trans rfl, (YI BK353.out 1).trans rfl, ((HB.out.cell (World.block_lt_of_cell? w _ hw360_0)).trans hw360_0), ((HB.out.cell (World.block_lt_of_cell? w _ hw360_1)).trans hw360_1), ((HB.out.cell (World.block_lt_of_cell? w _ hw360_2)).trans hw360_2), ((HB.out.cell (World.block_lt_of_cell? w _ hw360_3)).trans hw360_3), ((HB.out.cell (World.block_lt_of_cell? w _ hw360_4)).trans hw360_4), ((HB.out.cell (World.block_lt_of_cell? w _ hw360_5)).trans hw360_5), ((HB.out.cell (World.block_lt_of_cell? w _ hw360_6)).trans hw360_6), ((HB.out.cell (World.block_lt_of_cell? w _ hw360_7)).trans hw360_7), ((HB.out.cell (World.block_lt_of_cell? w _ hw360_8)).trans hw360_8), ((HB.out.cell (World.block_lt_of_cell? w _ hw360_9)).trans hw360_9), ((HB.out.cell (World.block_lt_of_cell? w _ hw360_10)).trans hw360_10), ((HB.out.cell (World.block_lt_of_cell? w _ hw360_11)).trans hw360_11)⟩ (fun hHeld => ?_); refine with_tabW batch_Pack.tab13 batch_Pack.bits13 (fun HT_ HW_ => ?_)
                generalize w24.drew = w27 at HO_8 HO_354001 BK353 BK358 HB hx360_0 hx360_1 hx360_10 hx360_11 hx360_2 hx360_3 hx360_4 hx360_5 hx360_6 hx360_7 hx360_8 hx360_9 hHeld ⊢
                refine pure_ (i := 0) (N := some 52) (v := ?_) (a' := ?_) #[true, false, false, false, false, false, false, false, false, false] rfl rfl (any_of HT_.out (by kernel_rfl)) (fun _ _ _ h => h) (Or.inl ⟨by rfl, ?_⟩) ?_ ?_
                rotate_left
                · intro w'
                  go_simp; with_reducible rfl
                rotate_left
                · simp only [Act.put, YM, YN, YO, i64_w, i32_w]
                  rfl
                refine pure_ (i := 2) (N := some 54) (v := ?_) (a' := ?_) #[true, false, true, false, false, false, false, false, false, false] rfl rfl (any_of HT_.out (by kernel_rfl)) (fun _ _ _ h => h) (Or.inl ⟨by rfl, ?_⟩) ?_ ?_
                rotate_left
                · intro w'
                  go_simp; with_reducible rfl
                rotate_left
                · simp only [Act.put, YM, YN, YO, i64_w, i32_w]
                  rfl
                refine pure_ (i := 3) (N := some 55) (v := ?_) (a' := ?_) #[true, false, true, true, false, false, false, false, false, false] rfl rfl (any_of HT_.out (by kernel_rfl)) (fun _ _ _ h => h) (Or.inl ⟨by rfl, ?_⟩) ?_ ?_
                rotate_left
                · intro w'
                  go_simp; with_reducible rfl
                rotate_left
                · simp only [Act.put, YM, YN, YO, i64_w, i32_w]
                  rfl
                refine pure_ (i := 4) (N := some 56) (v := ?_) (a' := ?_) #[true, false, true, true, true, false, false, false, false, false] rfl rfl (any_of HT_.out (by kernel_rfl)) (fun _ _ _ h => h) (Or.inl ⟨by rfl, ?_⟩) ?_ ?_
                rotate_left
                · intro w'
                  go_simp; with_reducible rfl
                rotate_left
                · simp only [Act.put, YM, YN, YO, i64_w, i32_w]
                  rfl
                refine take_ (i := 1) (N := some 53) (v := ?_) (a' := ?_) #[true, true, true, true, true, false, false, false, false, false] rfl rfl (take_ofW HT_.out HW_.out (by kernel_rfl)) (fun _ _ _ h => h) (Or.inl ⟨by rfl, ?_⟩) hHeld ?_ ?_
                rotate_left
                · rintro w' ⟨s0, s1, s2, s3, s4, s5, s6, s7, s8, s9, s10, s11, s12, s13⟩
                  go_simp; with_reducible rfl
                rotate_left
                · simp only [Act.put, YM, YN, YO, i64_w, i32_w]
                  rfl
                refine take_ (i := 5) (N := some 57) (v := ?_) (a' := ?_) #[true, true, true, true, true, true, false, false, false, false] rfl rfl (take_ofW HT_.out HW_.out (by kernel_rfl)) (fun _ _ _ h => h) (Or.inl ⟨by rfl, ?_⟩) hHeld ?_ ?_
                rotate_left
                · rintro w' ⟨s0, s1, s2, s3, s4, s5, s6, s7, s8, s9, s10, s11, s12, s13⟩
                  go_simp; with_reducible rfl
                rotate_left
                · simp only [Act.put, YM, YN, YO, i64_w, i32_w]
                  rfl
                refine one_ (i := 6) (N := some 58) #[true, true, true, true, true, true, true, false, false, false] rfl rfl (one_of HT_.out (by kernel_rfl)) (by decide) (fun K hK => ?_)
                refine value_ (w1 := ?_) (v := ?_) (by rfl) rfl ?_ ?_
                rotate_left 2
                · go_simp
                  constructor
                  · rfl
                  rfl
                refine hK.out _ _ ⟨(YI (YH BK353.out _) 0).trans rfl, (YI (YH BK353.out _) 1).trans rfl, (World.cell?_alloc_lt _ _ _ (World.block_lt_of_cell? _ _ (((HB.out.cell (World.block_lt_of_cell? w _ hw360_0)).trans hw360_0)))).trans (((HB.out.cell (World.block_lt_of_cell? w _ hw360_0)).trans hw360_0)), (World.cell?_alloc_lt _ _ _ (World.block_lt_of_cell? _ _ (((HB.out.cell (World.block_lt_of_cell? w _ hw360_1)).trans hw360_1)))).trans (((HB.out.cell (World.block_lt_of_cell? w _ hw360_1)).trans hw360_1)), (World.cell?_alloc_lt _ _ _ (World.block_lt_of_cell? _ _ (((HB.out.cell (World.block_lt_of_cell? w _ hw360_2)).trans hw360_2)))).trans (((HB.out.cell (World.block_lt_of_cell? w _ hw360_2)).trans hw360_2)), (World.cell?_alloc_lt _ _ _ (World.block_lt_of_cell? _ _ (((HB.out.cell (World.block_lt_of_cell? w _ hw360_3)).trans hw360_3)))).trans (((HB.out.cell (World.block_lt_of_cell? w _ hw360_3)).trans hw360_3)), (World.cell?_alloc_lt _ _ _ (World.block_lt_of_cell? _ _ (((HB.out.cell (World.block_lt_of_cell? w _ hw360_4)).trans hw360_4)))).trans (((HB.out.cell (World.block_lt_of_cell? w _ hw360_4)).trans hw360_4)), (World.cell?_alloc_lt _ _ _ (World.block_lt_of_cell? _ _ (((HB.out.cell (World.block_lt_of_cell? w _ hw360_5)).trans hw360_5)))).trans (((HB.out.cell (World.block_lt_of_cell? w _ hw360_5)).trans hw360_5)), (World.cell?_alloc_lt _ _ _ (World.block_lt_of_cell? _ _ (((HB.out.cell (World.block_lt_of_cell? w _ hw360_6)).trans hw360_6)))).trans (((HB.out.cell (World.block_lt_of_cell? w _ hw360_6)).trans hw360_6)), (World.cell?_alloc_lt _ _ _ (World.block_lt_of_cell? _ _ (((HB.out.cell (World.block_lt_of_cell? w _ hw360_7)).trans hw360_7)))).trans (((HB.out.cell (World.block_lt_of_cell? w _ hw360_7)).trans hw360_7)), (World.cell?_alloc_lt _ _ _ (World.block_lt_of_cell? _ _ (((HB.out.cell (World.block_lt_of_cell? w _ hw360_8)).trans hw360_8)))).trans (((HB.out.cell (World.block_lt_of_cell? w _ hw360_8)).trans hw360_8)), (World.cell?_alloc_lt _ _ _ (World.block_lt_of_cell? _ _ (((HB.out.cell (World.block_lt_of_cell? w _ hw360_9)).trans hw360_9)))).trans (((HB.out.cell (World.block_lt_of_cell? w _ hw360_9)).trans hw360_9)), (World.cell?_alloc_lt _ _ _ (World.block_lt_of_cell? _ _ (((HB.out.cell (World.block_lt_of_cell? w _ hw360_10)).trans hw360_10)))).trans (((HB.out.cell (World.block_lt_of_cell? w _ hw360_10)).trans hw360_10)), (World.cell?_alloc_lt _ _ _ (World.block_lt_of_cell? _ _ (((HB.out.cell (World.block_lt_of_cell? w _ hw360_11)).trans hw360_11)))).trans (((HB.out.cell (World.block_lt_of_cell? w _ hw360_11)).trans hw360_11))⟩ (fun hHeld => ?_)
                clear hK K
                refine norm_ (a' := ?_) ?_ ?_
                rotate_left
                · show Act.put _ (some 58) _ = _
                  simp only [Act.put, YM, YN, YO, i64_w, i32_w]
                  rfl
                refine one_ (i := 7) (N := some 59) #[true, true, true, true, true, true, true, true, false, false] rfl rfl (one_of HT_.out (by kernel_rfl)) (by decide) (fun K hK => ?_)
                refine Kd.R_append_step k45 (w0 := w) w.heap.size (by rfl) (.tmp 53) (.tmp 58) 22 45 (.agg #[(.int .i64 0), (.int .i64 0), (.bool false), (.int .i64 0), (.int .i64 0), (.int .i64 0), (.int .i64 0), (.int .i64 0), (.int .i64 0), (.int .i64 0), (.int .i64 0), (.int .i64 0)]) 96 rfl Try.underlying22 info45 rfl (by decide) (by omega) (.slice Ao26 x354001_2.length co26) x354001_2 (⟨(rd_T45 l0 x36_2).f0, (rd_T45 l0 x36_2).f1, (⟨(rd_T45 l0 x36_2).f2.f0, (rd_T45 l0 x36_2).f2.f1, (rd_T45 l0 x36_2).f2.f2, (rd_T45 l0 x36_2).f2.f3, (rd_T45 l0 x36_2).f2.f4, (rd_T45 l0 x36_2).f2.f5⟩ : S41), (⟨(rd_T45 l0 x36_2).f3.f0, (rd_T45 l0 x36_2).f3.f1, (rd_T45 l0 x36_2).f3.f2⟩ : S43), (rd_T45 l0 x36_2).f4⟩ : S45) [.int .i64 ((rd_T45 l0 x36_2).f0), .int .i64 ((rd_T45 l0 x36_2).f1), .bool ((rd_T45 l0 x36_2).f2.f0), .int .i64 ((rd_T45 l0 x36_2).f2.f1), .int .i64 ((rd_T45 l0 x36_2).f2.f2), .int .i64 ((rd_T45 l0 x36_2).f2.f3), .int .i64 ((rd_T45 l0 x36_2).f2.f4), .int .i64 ((rd_T45 l0 x36_2).f2.f5), .int .i64 ((rd_T45 l0 x36_2).f3.f0), .int .i64 ((rd_T45 l0 x36_2).f3.f1), .int .i64 ((rd_T45 l0 x36_2).f3.f2), .int .i64 ((rd_T45 l0 x36_2).f4)] (fun k_ => k_ ≠ gb358) (fun _ => False) rfl rfl ?aP (fun _ hk => hk.elim) ?aF ?aO ?aB ?aS ?aL ?_
                (case aP => exact k45_mkM _ _ _ (⟨(rd_T45 l0 x36_2).f0, (rd_T45 l0 x36_2).f1, (⟨(rd_T45 l0 x36_2).f2.f0, (rd_T45 l0 x36_2).f2.f1, (rd_T45 l0 x36_2).f2.f2, (rd_T45 l0 x36_2).f2.f3, (rd_T45 l0 x36_2).f2.f4, (rd_T45 l0 x36_2).f2.f5⟩ : S41), (⟨(rd_T45 l0 x36_2).f3.f0, (rd_T45 l0 x36_2).f3.f1, (rd_T45 l0 x36_2).f3.f2⟩ : S43), (rd_T45 l0 x36_2).f4⟩ : S45))
                (case aB => exact (by repeat (first | (with_reducible first | exact HB.out | apply YA | apply YB | apply YC | refine below_set ?_ GE353.out | refine below_set ?_ GE358.out) | exact HB.out)))
                (case aF => exact (fun k_ hk => Kd.freshB (g := gb358) (o := .cells #[.int .i64 ((rd_T45 l0 x36_2).f0), .int .i64 ((rd_T45 l0 x36_2).f1), .bool ((rd_T45 l0 x36_2).f2.f0), .int .i64 ((rd_T45 l0 x36_2).f2.f1), .int .i64 ((rd_T45 l0 x36_2).f2.f2), .int .i64 ((rd_T45 l0 x36_2).f2.f3), .int .i64 ((rd_T45 l0 x36_2).f2.f4), .int .i64 ((rd_T45 l0 x36_2).f2.f5), .int .i64 ((rd_T45 l0 x36_2).f3.f0), .int .i64 ((rd_T45 l0 x36_2).f3.f1), .int .i64 ((rd_T45 l0 x36_2).f3.f2), .int .i64 ((rd_T45 l0 x36_2).f4)] 45 (0, 0)) (by (with_reducible repeat (first | refine YF ?_ _ | refine YG ?_ | refine YH ?_ _)); exact BK358.out) k_ hk))
                (case aO => exact (by (with_reducible repeat (first | apply YS | apply YT | apply YU)); exact Kd.R_mono HO_354001.out (fun _ hk => by first | exact hk.2 | exact trivial | (simp [hk]; done) | simp_all)))
                (case aS => exact (YE (by repeat (first | (with_reducible first | exact HB.out | apply YA | apply YB | apply YC | refine below_set ?_ GE353.out | refine below_set ?_ GE358.out) | exact HB.out))))
                (case aL => have := LMc20.out; omega)
                intro v362 w28 ho hb hg hat
                rw [← Ny361.out] at ho
                have n0_ := YL (Kd.S_after (ok := (fun k_ => k_ ≠ gb353 ∧ k_ ≠ gb358)) (by (with_reducible repeat (first | apply Kd.S_alloc | apply Kd.S_drewN | apply Kd.S_drew)); exact Kd.S_mono HO_8.out (fun _ hk => by first | exact ⟨⟨hk.1.2, hk.2⟩, hk.1.1⟩ | exact trivial | (simp [hk]; done) | simp_all)) hg hat)
                have n1_ := YL (blk_grown (g := gb353) (o := .cells #[.int .i64 x354000_2, .slice Ao26 x354001_2.length co26] 24 (0, 0)) (by (with_reducible repeat (first | refine YF ?_ _ | refine YG ?_ | refine YH ?_ _)); exact BK353.out) hg (Kd.R_ne HO_354001.out BK353.out (by decide)))
                have n2_ := YL (blk_grown (g := gb358) (o := .cells #[.int .i64 ((rd_T45 l0 x36_2).f0), .int .i64 ((rd_T45 l0 x36_2).f1), .bool ((rd_T45 l0 x36_2).f2.f0), .int .i64 ((rd_T45 l0 x36_2).f2.f1), .int .i64 ((rd_T45 l0 x36_2).f2.f2), .int .i64 ((rd_T45 l0 x36_2).f2.f3), .int .i64 ((rd_T45 l0 x36_2).f2.f4), .int .i64 ((rd_T45 l0 x36_2).f2.f5), .int .i64 ((rd_T45 l0 x36_2).f3.f0), .int .i64 ((rd_T45 l0 x36_2).f3.f1), .int .i64 ((rd_T45 l0 x36_2).f3.f2), .int .i64 ((rd_T45 l0 x36_2).f4)] 45 (0, 0)) (by (with_reducible repeat (first | refine YF ?_ _ | refine YG ?_ | refine YH ?_ _)); exact BK358.out) hg (Kd.R_away HO_354001.out (fun _ hk => hk.2)))
                have n3_ := YL (hb)
                have n4_ := YL (ho)
                clear HO_8; clear BK353; clear BK358; clear HB; clear HO_354001; have HO_8 := n0_; have BK353 := n1_; have BK358 := n2_; have HB := n3_; have HO363 := n4_; clear n0_ n1_ n2_ n3_ n4_; clear ho hb hg hat
                obtain ⟨Ao29, co29, eo29⟩ := Kd.R_slice HO363.out
                (first | subst eo29 | (injection eo29 with f1_ f2_ f3_; have f4_ := f1_.symm; have f5_ := f3_.symm; clear f1_ f2_ f3_; subst f4_; subst f5_))
                refine hK.out _ _ ⟨(YI BK353.out 0).trans rfl, (YI BK353.out 1).trans rfl, ((HB.out.cell (World.block_lt_of_cell? w _ hw360_0)).trans hw360_0), ((HB.out.cell (World.block_lt_of_cell? w _ hw360_1)).trans hw360_1), ((HB.out.cell (World.block_lt_of_cell? w _ hw360_2)).trans hw360_2), ((HB.out.cell (World.block_lt_of_cell? w _ hw360_3)).trans hw360_3), ((HB.out.cell (World.block_lt_of_cell? w _ hw360_4)).trans hw360_4), ((HB.out.cell (World.block_lt_of_cell? w _ hw360_5)).trans hw360_5), ((HB.out.cell (World.block_lt_of_cell? w _ hw360_6)).trans hw360_6), ((HB.out.cell (World.block_lt_of_cell? w _ hw360_7)).trans hw360_7), ((HB.out.cell (World.block_lt_of_cell? w _ hw360_8)).trans hw360_8), ((HB.out.cell (World.block_lt_of_cell? w _ hw360_9)).trans hw360_9), ((HB.out.cell (World.block_lt_of_cell? w _ hw360_10)).trans hw360_10), ((HB.out.cell (World.block_lt_of_cell? w _ hw360_11)).trans hw360_11)⟩ (fun hHeld => ?_)
                clear hK K
                refine norm_ (a' := ?_) ?_ ?_
                rotate_left
                · show Act.put _ (some 59) _ = _
                  simp only [Act.put, YM, YN, YO, i64_w, i32_w]
                  rfl
                refine pure_ (i := 8) (N := some 60) (v := ?_) (a' := ?_) #[true, true, true, true, true, true, true, true, true, false] rfl rfl (any_of HT_.out (by kernel_rfl)) (fun _ _ _ h => h) (Or.inl ⟨by rfl, ?_⟩) ?_ ?_
                rotate_left
                · intro w'
                  go_simp; with_reducible rfl
                rotate_left
                · simp only [Act.put, YM, YN, YO, i64_w, i32_w]
                  rfl
                refine last_ (i := 9) (N := none) #[true, true, true, true, true, true, true, true, true, true] rfl rfl (one_of HT_.out (by kernel_rfl)) (by decide) (fun K hK => ?_)
                have hs30 : w28.cell? ⟨gb353, 1, none⟩ = some (.slice Ao26 x354001_2.length co26) := (YI BK353.out 1).trans rfl
                have hfs30 := YJ BK353.out 1
                have hns30_1 := NB358_353.out
                have hms30_1 := NB353_358.out
                refine skip_ (w1 := ?_) (by rfl) rfl ?_ ?_
                rotate_left
                · go_simp
                  rfl
                refine hK.out _ _ ?_
                clear hK K
                refine done_ (done_of HT_.out (by kernel_rfl)) ?_
                try go_wp2_with (go_step3)
                go_roundg k2
                case measure => have := HJ3.out; have := HK2.out; omega
                case rel => exact ⟨(x8_2), (wrap64 (x10_2 - t359)), (wrap64 (x36_2 + 1)), (x354000_2), (y361), (.slice Ao29 y361.length co29), (by first | rfl | (simp; done) | (simp [*]; done)), (by first | rfl | (simp; done) | (simp [*]; done)), H', ⟨by have := HJ3.out; have := HK2.out; omega⟩, ⟨by (with_reducible repeat (first | apply Kd.S_alloc | apply Kd.S_drewN | apply Kd.S_drew)); exact Kd.S_mono (Kd.S_far (p := ⟨gb353, 1, none⟩) (Kd.S_mono HO_8.out (fun k_ hk => (⟨hk, hk.1.1⟩ : _ ∧ k_ ≠ gb353))) (fun _ hk => hk.2) (.slice Ao29 y361.length co29)) (fun _ hk => ⟨hk.1.2, hk.1.1.1⟩)⟩, ⟨by (with_reducible repeat (first | apply YS | apply YT | apply YU)); exact Kd.R_mono (Kd.R_far (p := ⟨gb353, 1, none⟩) (Kd.R_types HO363.out BK353.out (by decide)) (fun _ hk => hk.2) (.slice Ao29 y361.length co29)) (fun _ hk => trivial)⟩, ⟨by (with_reducible repeat (first | refine YF ?_ _ | refine YG ?_ | refine YH ?_ _)); refine blk_put (cs := #[.int .i64 x354000_2, .slice Ao26 x354001_2.length co26]) ?_ 1 _ rfl; (with_reducible repeat (first | refine YF ?_ _ | refine YG ?_ | refine YH ?_ _)); exact BK353.out⟩, ⟨by repeat (first | (with_reducible first | exact HB.out | apply YA | apply YB | apply YC | refine below_set ?_ GE353.out | refine below_set ?_ GE358.out) | exact HB.out)⟩⟩
              rw [if_neg c18] at H
              have c18b0 : decide ((x354001_2.length : Int) < 32) = false := decide_eq_false c18
              have c18b1 : decide (x354001_2.length < 32) = false := decide_eq_false (by omega)
              clear c18
              by_cases c31 : x8_2.length < 4398046511104
              rotate_left
              · rw [if_neg c31] at H
                exact absurd H (by simp)
              rw [if_pos c31] at H; have LMc31 := YL c31; clear c31
              obtain ⟨y364, hy364⟩ : ∃ y_ : List (S24), y_ = (x8_2 ++ [(⟨x354000_2, x354001_2⟩ : S24)]) := ⟨_, rfl⟩
              replace H : ((serial_Next.f x354000_2).bind fun t367 => (batch_Pack.l0 k2 l0 a2 y364 (wrap64 ((wrap64 (a2 - 3)) - t359)) l0 (l0.length : Int) (wrap64 (x36_2 + 1)) t367 (([(⟨(rd_T45 l0 x36_2).f0, (rd_T45 l0 x36_2).f1, (⟨(rd_T45 l0 x36_2).f2.f0, (rd_T45 l0 x36_2).f2.f1, (rd_T45 l0 x36_2).f2.f2, (rd_T45 l0 x36_2).f2.f3, (rd_T45 l0 x36_2).f2.f4, (rd_T45 l0 x36_2).f2.f5⟩ : S41), (⟨(rd_T45 l0 x36_2).f3.f0, (rd_T45 l0 x36_2).f3.f1, (rd_T45 l0 x36_2).f3.f2⟩ : S43), (rd_T45 l0 x36_2).f4⟩ : S45)] : List (S45))))) = some (r1, r2) := by first | (rw [hy364]; with_reducible exact H) | (have H2_ := (Option.bind_some _ _).symm.trans H; rw [hy364]; with_reducible exact H2_) | (have H2_ := (Option.bind_some _ _).symm.trans H; with_reducible exact H2_) | with_reducible exact H | (rw [hy364]; exact H) | exact H
              have Ny364 := YL hy364; clear hy364; replace H := Option.bind_eq_some_iff.mp H; obtain ⟨t367, A320, H⟩ := H
              replace H : (batch_Pack.l0 k2 l0 a2 y364 (wrap64 ((wrap64 (a2 - 3)) - t359)) l0 (l0.length : Int) (wrap64 (x36_2 + 1)) t367 (([(⟨(rd_T45 l0 x36_2).f0, (rd_T45 l0 x36_2).f1, (⟨(rd_T45 l0 x36_2).f2.f0, (rd_T45 l0 x36_2).f2.f1, (rd_T45 l0 x36_2).f2.f2, (rd_T45 l0 x36_2).f2.f3, (rd_T45 l0 x36_2).f2.f4, (rd_T45 l0 x36_2).f2.f5⟩ : S41), (⟨(rd_T45 l0 x36_2).f3.f0, (rd_T45 l0 x36_2).f3.f1, (rd_T45 l0 x36_2).f3.f2⟩ : S43), (rd_T45 l0 x36_2).f4⟩ : S45)] : List (S45)))) = some (r1, r2) := H
              have A32 := YL A320; clear A320
              obtain ⟨y368, hy368⟩ : ∃ y_ : List (S45), y_ = (([(⟨(rd_T45 l0 x36_2).f0, (rd_T45 l0 x36_2).f1, (⟨(rd_T45 l0 x36_2).f2.f0, (rd_T45 l0 x36_2).f2.f1, (rd_T45 l0 x36_2).f2.f2, (rd_T45 l0 x36_2).f2.f3, (rd_T45 l0 x36_2).f2.f4, (rd_T45 l0 x36_2).f2.f5⟩ : S41), (⟨(rd_T45 l0 x36_2).f3.f0, (rd_T45 l0 x36_2).f3.f1, (rd_T45 l0 x36_2).f3.f2⟩ : S43), (rd_T45 l0 x36_2).f4⟩ : S45)] : List (S45))) := ⟨_, rfl⟩
              replace H : (batch_Pack.l0 k2 l0 a2 y364 (wrap64 ((wrap64 (a2 - 3)) - t359)) l0 (l0.length : Int) (wrap64 (x36_2 + 1)) t367 y368) = some (r1, r2) := by first | (rw [hy368]; with_reducible exact H) | (have H2_ := (Option.bind_some _ _).symm.trans H; rw [hy368]; with_reducible exact H2_) | (have H2_ := (Option.bind_some _ _).symm.trans H; with_reducible exact H2_) | with_reducible exact H | (rw [hy368]; exact H) | exact H
              have Ny368 := YL hy368; clear hy368
              have H' := YL H
              clear H
              have p357 : 0 ≤ (x36_2 : Int) := of_decide_eq_true (by first | (with_reducible assumption) | assumption)
              have q357 : x36_2 < (l0.length : Int) := of_decide_eq_true (by first | (with_reducible assumption) | assumption)
              obtain ⟨ad357, e357, hx357_0, hx357_1, hx357_2, hx357_3, hx357_4, hx357_5, hx357_6, hx357_7, hx357_8, hx357_9, hx357_10, hx357_11⟩ := at_T45 HR0.out x36_2 p357 q357
              cases e357
              replace hx357_0 := (HB.out.cell (World.block_lt_of_cell? w _ hx357_0)).trans hx357_0
              replace hx357_1 := (HB.out.cell (World.block_lt_of_cell? w _ hx357_1)).trans hx357_1
              replace hx357_2 := (HB.out.cell (World.block_lt_of_cell? w _ hx357_2)).trans hx357_2
              replace hx357_3 := (HB.out.cell (World.block_lt_of_cell? w _ hx357_3)).trans hx357_3
              replace hx357_4 := (HB.out.cell (World.block_lt_of_cell? w _ hx357_4)).trans hx357_4
              replace hx357_5 := (HB.out.cell (World.block_lt_of_cell? w _ hx357_5)).trans hx357_5
              replace hx357_6 := (HB.out.cell (World.block_lt_of_cell? w _ hx357_6)).trans hx357_6
              replace hx357_7 := (HB.out.cell (World.block_lt_of_cell? w _ hx357_7)).trans hx357_7
              replace hx357_8 := (HB.out.cell (World.block_lt_of_cell? w _ hx357_8)).trans hx357_8
              replace hx357_9 := (HB.out.cell (World.block_lt_of_cell? w _ hx357_9)).trans hx357_9
              replace hx357_10 := (HB.out.cell (World.block_lt_of_cell? w _ hx357_10)).trans hx357_10
              replace hx357_11 := (HB.out.cell (World.block_lt_of_cell? w _ hx357_11)).trans hx357_11
              replace p357 := eq_true p357
              replace q357 := eq_true q357
              try go_wp2_with (first | go_step3 | ((with_reducible refine gate_dst (N := 12) rfl ?_); (try (refine gate_guard (by rfl) ?_; dsimp only)); refine box_event ?hg (N := 12) ?hd (cs := #[.int .i64 0, .int .i64 0, .bool false, .int .i64 0, .int .i64 0, .int .i64 0, .int .i64 0, .int .i64 0, .int .i64 0, .int .i64 0, .int .i64 0, .int .i64 0]) (t := 45) ?hr ?_; (case hd => rfl); (case hg => rfl); (case hr => first | (go_simp; done) | (go_simp; rfl)); intro gb358 hg w33 hbox hb; have n0_ := YL (Kd.S_below (Kd.S_elderB (by (with_reducible repeat (first | apply Kd.S_alloc | apply Kd.S_drewN | apply Kd.S_drew)); exact HO_8.out) gb358 (Nat.le_of_eq hg.symm)) hb); have n1_ := YL (YV (Kd.R_elderB (by (with_reducible repeat (first | apply YS | apply YT | apply YU)); exact HO_354001.out) gb358 (Nat.le_of_eq hg.symm)) hb); have n2_ := YL (YK (g := gb353) (o := .cells #[.int .i64 x354000_2, u354001] 24 (0, 0)) (by (with_reducible repeat (first | refine YF ?_ _ | refine YG ?_ | refine YH ?_ _)); exact BK353.out) hb); have n3_ := YL (YD (by repeat (first | (with_reducible first | exact HB.out | apply YA | apply YB | apply YC | refine below_set ?_ GE353.out) | exact HB.out)) hb); have n4_ := YL (hbox); have n5_ := YL ((by rw [hg]; exact (YE (by repeat (first | (with_reducible first | exact HB.out | apply YA | apply YB | apply YC | refine below_set ?_ GE353.out) | exact HB.out))) : w.heap.size ≤ gb358)); have n6_ := YL ((by rw [hg]; exact (YE (by repeat (first | (with_reducible first | exact HB.out | apply YA | apply YB | apply YC | refine below_set ?_ GE353.out) | exact HB.out))) : w.heap.size ≤ gb358)); have n7_ := YL ((by rw [hg]; exact Nat.ne_of_lt (blk_lt (g := gb353) (o := .cells #[.int .i64 x354000_2, u354001] 24 (0, 0)) (by (with_reducible repeat (first | refine YF ?_ _ | refine YG ?_ | refine YH ?_ _)); exact BK353.out)) : gb353 ≠ gb358)); have n8_ := YL ((by rw [hg]; exact Nat.ne_of_gt (blk_lt (g := gb353) (o := .cells #[.int .i64 x354000_2, u354001] 24 (0, 0)) (by (with_reducible repeat (first | refine YF ?_ _ | refine YG ?_ | refine YH ?_ _)); exact BK353.out)) : gb358 ≠ gb353)); clear HO_8; clear HO_354001; clear BK353; clear HB; have HO_8 := n0_; have HO_354001 := n1_; have BK353 := n2_; have HB := n3_; have BK358 := n4_; have GW358 := n5_; have GE358 := n6_; have NB353_358 := n7_; have NB358_353 := n8_; clear n0_ n1_ n2_ n3_ n4_ n5_ n6_ n7_ n8_; clear hb hbox hg; have hnb34 := NB358_353.out; have hnc34 := NB353_358.out; have hcz35_0 : w33.cell? ⟨gb358, 0, none⟩ = some (.int .i64 0) := (YI BK358.out 0).trans rfl; have hcz35_1 : w33.cell? ⟨gb358, 1, none⟩ = some (.int .i64 0) := (YI BK358.out 1).trans rfl; have hcz35_2 : w33.cell? ⟨gb358, 2, none⟩ = some (.bool false) := (YI BK358.out 2).trans rfl; have hcz35_3 : w33.cell? ⟨gb358, 3, none⟩ = some (.int .i64 0) := (YI BK358.out 3).trans rfl; have hcz35_4 : w33.cell? ⟨gb358, 4, none⟩ = some (.int .i64 0) := (YI BK358.out 4).trans rfl; have hcz35_5 : w33.cell? ⟨gb358, 5, none⟩ = some (.int .i64 0) := (YI BK358.out 5).trans rfl; have hcz35_6 : w33.cell? ⟨gb358, 6, none⟩ = some (.int .i64 0) := (YI BK358.out 6).trans rfl; have hcz35_7 : w33.cell? ⟨gb358, 7, none⟩ = some (.int .i64 0) := (YI BK358.out 7).trans rfl; have hcz35_8 : w33.cell? ⟨gb358, 8, none⟩ = some (.int .i64 0) := (YI BK358.out 8).trans rfl; have hcz35_9 : w33.cell? ⟨gb358, 9, none⟩ = some (.int .i64 0) := (YI BK358.out 9).trans rfl; have hcz35_10 : w33.cell? ⟨gb358, 10, none⟩ = some (.int .i64 0) := (YI BK358.out 10).trans rfl; have hcz35_11 : w33.cell? ⟨gb358, 11, none⟩ = some (.int .i64 0) := (YI BK358.out 11).trans rfl; have hfz35_0 := YJ BK358.out 0; have hfz35_1 := YJ BK358.out 1; have hfz35_2 := YJ BK358.out 2; have hfz35_3 := YJ BK358.out 3; have hfz35_4 := YJ BK358.out 4; have hfz35_5 := YJ BK358.out 5; have hfz35_6 := YJ BK358.out 6; have hfz35_7 := YJ BK358.out 7; have hfz35_8 := YJ BK358.out 8; have hfz35_9 := YJ BK358.out 9; have hfz35_10 := YJ BK358.out 10; have hfz35_11 := YJ BK358.out 11) | ((with_reducible refine gate_callee (f := 18) rfl ?_); refine goesL_ (some 42) rfl rfl Try.func18 (by kernel_rfl) rfl #[.agg #[.int .i64 ((rd_T45 l0 x36_2).f0), .int .i64 ((rd_T45 l0 x36_2).f1), .bool ((rd_T45 l0 x36_2).f2.f0), .int .i64 ((rd_T45 l0 x36_2).f2.f1), .int .i64 ((rd_T45 l0 x36_2).f2.f2), .int .i64 ((rd_T45 l0 x36_2).f2.f3), .int .i64 ((rd_T45 l0 x36_2).f2.f4), .int .i64 ((rd_T45 l0 x36_2).f2.f5), .int .i64 ((rd_T45 l0 x36_2).f3.f0), .int .i64 ((rd_T45 l0 x36_2).f3.f1), .int .i64 ((rd_T45 l0 x36_2).f3.f2), .int .i64 ((rd_T45 l0 x36_2).f4)]] rfl (by (try simp only [YP, List.map_cons, List.map_nil]); first | done | rfl | (simp only [YR, YQ]; rfl)) ?_; (with_reducible refine (object_Size.calls k2 ((rd_T45 l0 x36_2).f0) ((rd_T45 l0 x36_2).f1) ((rd_T45 l0 x36_2).f2.f0) ((rd_T45 l0 x36_2).f2.f1) ((rd_T45 l0 x36_2).f2.f2) ((rd_T45 l0 x36_2).f2.f3) ((rd_T45 l0 x36_2).f2.f4) ((rd_T45 l0 x36_2).f2.f5) ((rd_T45 l0 x36_2).f3.f0) ((rd_T45 l0 x36_2).f3.f1) ((rd_T45 l0 x36_2).f3.f2) ((rd_T45 l0 x36_2).f4) t359 _ A16.out).mono ?_); rintro e w36 ⟨rfl, hb⟩; refine ⟨_, rfl, ?_⟩; have n0_ := YL (Kd.S_below (by (with_reducible repeat (first | apply Kd.S_alloc | apply Kd.S_drewN | apply Kd.S_drew)); exact (Kd.S_mono (Kd.S_far (p := ⟨gb358, 11, none⟩) (Kd.S_far (p := ⟨gb358, 10, none⟩) (Kd.S_far (p := ⟨gb358, 9, none⟩) (Kd.S_far (p := ⟨gb358, 8, none⟩) (Kd.S_far (p := ⟨gb358, 7, none⟩) (Kd.S_far (p := ⟨gb358, 6, none⟩) (Kd.S_far (p := ⟨gb358, 5, none⟩) (Kd.S_far (p := ⟨gb358, 4, none⟩) (Kd.S_far (p := ⟨gb358, 3, none⟩) (Kd.S_far (p := ⟨gb358, 2, none⟩) (Kd.S_far (p := ⟨gb358, 1, none⟩) (Kd.S_far (p := ⟨gb358, 0, none⟩) (Kd.S_mono HO_8.out (fun k_ hk => (⟨hk, hk.2⟩ : _ ∧ k_ ≠ gb358))) (fun _ hk => hk.2) (.int .i64 ((rd_T45 l0 x36_2).f0))) (fun _ hk => hk.2) (.int .i64 ((rd_T45 l0 x36_2).f1))) (fun _ hk => hk.2) (.bool ((rd_T45 l0 x36_2).f2.f0))) (fun _ hk => hk.2) (.int .i64 ((rd_T45 l0 x36_2).f2.f1))) (fun _ hk => hk.2) (.int .i64 ((rd_T45 l0 x36_2).f2.f2))) (fun _ hk => hk.2) (.int .i64 ((rd_T45 l0 x36_2).f2.f3))) (fun _ hk => hk.2) (.int .i64 ((rd_T45 l0 x36_2).f2.f4))) (fun _ hk => hk.2) (.int .i64 ((rd_T45 l0 x36_2).f2.f5))) (fun _ hk => hk.2) (.int .i64 ((rd_T45 l0 x36_2).f3.f0))) (fun _ hk => hk.2) (.int .i64 ((rd_T45 l0 x36_2).f3.f1))) (fun _ hk => hk.2) (.int .i64 ((rd_T45 l0 x36_2).f3.f2))) (fun _ hk => hk.2) (.int .i64 ((rd_T45 l0 x36_2).f4))) (fun _ h_ => h_.1))) hb); have n1_ := YL (YV (by (with_reducible repeat (first | apply YS | apply YT | apply YU)); exact (Kd.R_mono (Kd.R_far (p := ⟨gb358, 11, none⟩) (Kd.R_far (p := ⟨gb358, 10, none⟩) (Kd.R_far (p := ⟨gb358, 9, none⟩) (Kd.R_far (p := ⟨gb358, 8, none⟩) (Kd.R_far (p := ⟨gb358, 7, none⟩) (Kd.R_far (p := ⟨gb358, 6, none⟩) (Kd.R_far (p := ⟨gb358, 5, none⟩) (Kd.R_far (p := ⟨gb358, 4, none⟩) (Kd.R_far (p := ⟨gb358, 3, none⟩) (Kd.R_far (p := ⟨gb358, 2, none⟩) (Kd.R_far (p := ⟨gb358, 1, none⟩) (Kd.R_far (p := ⟨gb358, 0, none⟩) (Kd.R_mono HO_354001.out (fun k_ hk => (⟨hk, hk.2⟩ : _ ∧ k_ ≠ gb358))) (fun _ hk => hk.2) (.int .i64 ((rd_T45 l0 x36_2).f0))) (fun _ hk => hk.2) (.int .i64 ((rd_T45 l0 x36_2).f1))) (fun _ hk => hk.2) (.bool ((rd_T45 l0 x36_2).f2.f0))) (fun _ hk => hk.2) (.int .i64 ((rd_T45 l0 x36_2).f2.f1))) (fun _ hk => hk.2) (.int .i64 ((rd_T45 l0 x36_2).f2.f2))) (fun _ hk => hk.2) (.int .i64 ((rd_T45 l0 x36_2).f2.f3))) (fun _ hk => hk.2) (.int .i64 ((rd_T45 l0 x36_2).f2.f4))) (fun _ hk => hk.2) (.int .i64 ((rd_T45 l0 x36_2).f2.f5))) (fun _ hk => hk.2) (.int .i64 ((rd_T45 l0 x36_2).f3.f0))) (fun _ hk => hk.2) (.int .i64 ((rd_T45 l0 x36_2).f3.f1))) (fun _ hk => hk.2) (.int .i64 ((rd_T45 l0 x36_2).f3.f2))) (fun _ hk => hk.2) (.int .i64 ((rd_T45 l0 x36_2).f4))) (fun _ h_ => h_.1))) hb); have n2_ := YL (YK (g := gb353) (o := .cells #[.int .i64 x354000_2, u354001] 24 (0, 0)) (by (with_reducible repeat (first | refine YF ?_ _ | refine YG ?_ | refine YH ?_ _)); refine blk_far ?_ NB353_358.out _; (with_reducible repeat (first | refine YF ?_ _ | refine YG ?_ | refine YH ?_ _)); refine blk_far ?_ NB353_358.out _; (with_reducible repeat (first | refine YF ?_ _ | refine YG ?_ | refine YH ?_ _)); refine blk_far ?_ NB353_358.out _; (with_reducible repeat (first | refine YF ?_ _ | refine YG ?_ | refine YH ?_ _)); refine blk_far ?_ NB353_358.out _; (with_reducible repeat (first | refine YF ?_ _ | refine YG ?_ | refine YH ?_ _)); refine blk_far ?_ NB353_358.out _; (with_reducible repeat (first | refine YF ?_ _ | refine YG ?_ | refine YH ?_ _)); refine blk_far ?_ NB353_358.out _; (with_reducible repeat (first | refine YF ?_ _ | refine YG ?_ | refine YH ?_ _)); refine blk_far ?_ NB353_358.out _; (with_reducible repeat (first | refine YF ?_ _ | refine YG ?_ | refine YH ?_ _)); refine blk_far ?_ NB353_358.out _; (with_reducible repeat (first | refine YF ?_ _ | refine YG ?_ | refine YH ?_ _)); refine blk_far ?_ NB353_358.out _; (with_reducible repeat (first | refine YF ?_ _ | refine YG ?_ | refine YH ?_ _)); refine blk_far ?_ NB353_358.out _; (with_reducible repeat (first | refine YF ?_ _ | refine YG ?_ | refine YH ?_ _)); refine blk_far ?_ NB353_358.out _; (with_reducible repeat (first | refine YF ?_ _ | refine YG ?_ | refine YH ?_ _)); refine blk_far ?_ NB353_358.out _; (with_reducible repeat (first | refine YF ?_ _ | refine YG ?_ | refine YH ?_ _)); exact BK353.out) hb); have n3_ := YL (YK (g := gb358) (o := .cells #[.int .i64 ((rd_T45 l0 x36_2).f0), .int .i64 ((rd_T45 l0 x36_2).f1), .bool ((rd_T45 l0 x36_2).f2.f0), .int .i64 ((rd_T45 l0 x36_2).f2.f1), .int .i64 ((rd_T45 l0 x36_2).f2.f2), .int .i64 ((rd_T45 l0 x36_2).f2.f3), .int .i64 ((rd_T45 l0 x36_2).f2.f4), .int .i64 ((rd_T45 l0 x36_2).f2.f5), .int .i64 ((rd_T45 l0 x36_2).f3.f0), .int .i64 ((rd_T45 l0 x36_2).f3.f1), .int .i64 ((rd_T45 l0 x36_2).f3.f2), .int .i64 ((rd_T45 l0 x36_2).f4)] 45 (0, 0)) (by (with_reducible repeat (first | refine YF ?_ _ | refine YG ?_ | refine YH ?_ _)); refine blk_put (cs := #[.int .i64 ((rd_T45 l0 x36_2).f0), .int .i64 ((rd_T45 l0 x36_2).f1), .bool ((rd_T45 l0 x36_2).f2.f0), .int .i64 ((rd_T45 l0 x36_2).f2.f1), .int .i64 ((rd_T45 l0 x36_2).f2.f2), .int .i64 ((rd_T45 l0 x36_2).f2.f3), .int .i64 ((rd_T45 l0 x36_2).f2.f4), .int .i64 ((rd_T45 l0 x36_2).f2.f5), .int .i64 ((rd_T45 l0 x36_2).f3.f0), .int .i64 ((rd_T45 l0 x36_2).f3.f1), .int .i64 ((rd_T45 l0 x36_2).f3.f2), .int .i64 0]) ?_ 11 _ rfl; (with_reducible repeat (first | refine YF ?_ _ | refine YG ?_ | refine YH ?_ _)); refine blk_put (cs := #[.int .i64 ((rd_T45 l0 x36_2).f0), .int .i64 ((rd_T45 l0 x36_2).f1), .bool ((rd_T45 l0 x36_2).f2.f0), .int .i64 ((rd_T45 l0 x36_2).f2.f1), .int .i64 ((rd_T45 l0 x36_2).f2.f2), .int .i64 ((rd_T45 l0 x36_2).f2.f3), .int .i64 ((rd_T45 l0 x36_2).f2.f4), .int .i64 ((rd_T45 l0 x36_2).f2.f5), .int .i64 ((rd_T45 l0 x36_2).f3.f0), .int .i64 ((rd_T45 l0 x36_2).f3.f1), .int .i64 0, .int .i64 0]) ?_ 10 _ rfl; (with_reducible repeat (first | refine YF ?_ _ | refine YG ?_ | refine YH ?_ _)); refine blk_put (cs := #[.int .i64 ((rd_T45 l0 x36_2).f0), .int .i64 ((rd_T45 l0 x36_2).f1), .bool ((rd_T45 l0 x36_2).f2.f0), .int .i64 ((rd_T45 l0 x36_2).f2.f1), .int .i64 ((rd_T45 l0 x36_2).f2.f2), .int .i64 ((rd_T45 l0 x36_2).f2.f3), .int .i64 ((rd_T45 l0 x36_2).f2.f4), .int .i64 ((rd_T45 l0 x36_2).f2.f5), .int .i64 ((rd_T45 l0 x36_2).f3.f0), .int .i64 0, .int .i64 0, .int .i64 0]) ?_ 9 _ rfl; (with_reducible repeat (first | refine YF ?_ _ | refine YG ?_ | refine YH ?_ _)); refine blk_put (cs := #[.int .i64 ((rd_T45 l0 x36_2).f0), .int .i64 ((rd_T45 l0 x36_2).f1), .bool ((rd_T45 l0 x36_2).f2.f0), .int .i64 ((rd_T45 l0 x36_2).f2.f1), .int .i64 ((rd_T45 l0 x36_2).f2.f2), .int .i64 ((rd_T45 l0 x36_2).f2.f3), .int .i64 ((rd_T45 l0 x36_2).f2.f4), .int .i64 ((rd_T45 l0 x36_2).f2.f5), .int .i64 0, .int .i64 0, .int .i64 0, .int .i64 0]) ?_ 8 _ rfl; (with_reducible repeat (first | refine YF ?_ _ | refine YG ?_ | refine YH ?_ _)); refine blk_put (cs := #[.int .i64 ((rd_T45 l0 x36_2).f0), .int .i64 ((rd_T45 l0 x36_2).f1), .bool ((rd_T45 l0 x36_2).f2.f0), .int .i64 ((rd_T45 l0 x36_2).f2.f1), .int .i64 ((rd_T45 l0 x36_2).f2.f2), .int .i64 ((rd_T45 l0 x36_2).f2.f3), .int .i64 ((rd_T45 l0 x36_2).f2.f4), .int .i64 0, .int .i64 0, .int .i64 0, .int .i64 0, .int .i64 0]) ?_ 7 _ rfl; (with_reducible repeat (first | refine YF ?_ _ | refine YG ?_ | refine YH ?_ _)); refine blk_put (cs := #[.int .i64 ((rd_T45 l0 x36_2).f0), .int .i64 ((rd_T45 l0 x36_2).f1), .bool ((rd_T45 l0 x36_2).f2.f0), .int .i64 ((rd_T45 l0 x36_2).f2.f1), .int .i64 ((rd_T45 l0 x36_2).f2.f2), .int .i64 ((rd_T45 l0 x36_2).f2.f3), .int .i64 0, .int .i64 0, .int .i64 0, .int .i64 0, .int .i64 0, .int .i64 0]) ?_ 6 _ rfl; (with_reducible repeat (first | refine YF ?_ _ | refine YG ?_ | refine YH ?_ _)); refine blk_put (cs := #[.int .i64 ((rd_T45 l0 x36_2).f0), .int .i64 ((rd_T45 l0 x36_2).f1), .bool ((rd_T45 l0 x36_2).f2.f0), .int .i64 ((rd_T45 l0 x36_2).f2.f1), .int .i64 ((rd_T45 l0 x36_2).f2.f2), .int .i64 0, .int .i64 0, .int .i64 0, .int .i64 0, .int .i64 0, .int .i64 0, .int .i64 0]) ?_ 5 _ rfl; (with_reducible repeat (first | refine YF ?_ _ | refine YG ?_ | refine YH ?_ _)); refine blk_put (cs := #[.int .i64 ((rd_T45 l0 x36_2).f0), .int .i64 ((rd_T45 l0 x36_2).f1), .bool ((rd_T45 l0 x36_2).f2.f0), .int .i64 ((rd_T45 l0 x36_2).f2.f1), .int .i64 0, .int .i64 0, .int .i64 0, .int .i64 0, .int .i64 0, .int .i64 0, .int .i64 0, .int .i64 0]) ?_ 4 _ rfl; (with_reducible repeat (first | refine YF ?_ _ | refine YG ?_ | refine YH ?_ _)); refine blk_put (cs := #[.int .i64 ((rd_T45 l0 x36_2).f0), .int .i64 ((rd_T45 l0 x36_2).f1), .bool ((rd_T45 l0 x36_2).f2.f0), .int .i64 0, .int .i64 0, .int .i64 0, .int .i64 0, .int .i64 0, .int .i64 0, .int .i64 0, .int .i64 0, .int .i64 0]) ?_ 3 _ rfl; (with_reducible repeat (first | refine YF ?_ _ | refine YG ?_ | refine YH ?_ _)); refine blk_put (cs := #[.int .i64 ((rd_T45 l0 x36_2).f0), .int .i64 ((rd_T45 l0 x36_2).f1), .bool false, .int .i64 0, .int .i64 0, .int .i64 0, .int .i64 0, .int .i64 0, .int .i64 0, .int .i64 0, .int .i64 0, .int .i64 0]) ?_ 2 _ rfl; (with_reducible repeat (first | refine YF ?_ _ | refine YG ?_ | refine YH ?_ _)); refine blk_put (cs := #[.int .i64 ((rd_T45 l0 x36_2).f0), .int .i64 0, .bool false, .int .i64 0, .int .i64 0, .int .i64 0, .int .i64 0, .int .i64 0, .int .i64 0, .int .i64 0, .int .i64 0, .int .i64 0]) ?_ 1 _ rfl; (with_reducible repeat (first | refine YF ?_ _ | refine YG ?_ | refine YH ?_ _)); refine blk_put (cs := #[.int .i64 0, .int .i64 0, .bool false, .int .i64 0, .int .i64 0, .int .i64 0, .int .i64 0, .int .i64 0, .int .i64 0, .int .i64 0, .int .i64 0, .int .i64 0]) ?_ 0 _ rfl; (with_reducible repeat (first | refine YF ?_ _ | refine YG ?_ | refine YH ?_ _)); exact BK358.out) hb); have n4_ := YL (YD (by repeat (first | (with_reducible first | exact HB.out | apply YA | apply YB | apply YC | refine below_set ?_ GE353.out | refine below_set ?_ GE358.out) | exact HB.out)) hb); clear HO_8; clear HO_354001; clear BK353; clear BK358; clear HB; have HO_8 := n0_; have HO_354001 := n1_; have BK353 := n2_; have BK358 := n3_; have HB := n4_; clear n0_ n1_ n2_ n3_ n4_; (try clear hb); (try clear hb2); (try clear hk); (try clear hi); have hcz37_0 : w36.cell? ⟨gb353, 0, none⟩ = some (.int .i64 x354000_2) := (YI BK353.out 0).trans rfl; have hcz37_1 : w36.cell? ⟨gb353, 1, none⟩ = some (u354001) := (YI BK353.out 1).trans rfl; have hfz37_0 := YJ BK353.out 0; have hfz37_1 := YJ BK353.out 1; obtain ⟨Ao38, co38, eo38⟩ := Kd.R_slice HO_354001.out; subst eo38) | ((with_reducible refine gate_builtin (b := .append) (xs := #[.tmp 64, .tmp 66]) rfl ?_); (try (refine gate_guard (by rfl) ?_; dsimp only)); at_builtin; refine Kd.S_append k24 (w0 := w) w.heap.size rfl (.tmp 64) (.tmp 66) 34 24 (.agg #[(.int .i64 0), (.slice none 0 0)]) 32 rfl Try.underlying34 info24 rfl (by decide) (by omega) u8 x8_2 (⟨x354000_2, x354001_2⟩ : S24) [.int .i64 x354000_2, .slice Ao38 x354001_2.length co38] (fun k_ => k_ ≠ gb353 ∧ k_ ≠ gb358) (fun k_ => some k_ = (.slice Ao38 x354001_2.length co38 : Value).ownBlock) rfl rfl ?aP (fun k_ hk_ => ((Kd.R_mono (ok' := fun k_ => ((fun k_ => k_ ≠ gb353 ∧ k_ ≠ gb358)) k_ ∧ some k_ ≠ (u8 : Value).ownBlock) (Kd.R_types (Kd.R_apart' (HO_354001.out) (Kd.S_typed HO_8.out) (by decide)) BK353.out (by decide)) (fun k_ hk => ⟨⟨hk.2, hk.1.1.2⟩, hk.1.2⟩))).1 k_ hk_.symm) ?aF ?aO ?aB ?aS ?aL ?_; (case aP => exact k24_mkM _ _ _ (⟨x354000_2, x354001_2⟩ : S24) (Kd.R_mono (Kd.R_tight rfl (Kd.R_mono (ok' := fun k_ => ((fun k_ => k_ ≠ gb353 ∧ k_ ≠ gb358)) k_ ∧ some k_ ≠ (u8 : Value).ownBlock) (Kd.R_types (Kd.R_apart' (HO_354001.out) (Kd.S_typed HO_8.out) (by decide)) BK353.out (by decide)) (fun k_ hk => ⟨⟨hk.2, hk.1.1.2⟩, hk.1.2⟩))) (fun _ h_ => h_))); (case aB => exact (by repeat (first | (with_reducible first | exact HB.out | apply YA | apply YB | apply YC | refine below_set ?_ GE353.out | refine below_set ?_ GE358.out) | exact HB.out))); (case aF => exact (fun k_ hk => ⟨Kd.freshB (g := gb353) (o := .cells #[.int .i64 x354000_2, .slice Ao38 x354001_2.length co38] 24 (0, 0)) (by (with_reducible repeat (first | refine YF ?_ _ | refine YG ?_ | refine YH ?_ _)); exact BK353.out) k_ hk, Kd.freshB (g := gb358) (o := .cells #[.int .i64 ((rd_T45 l0 x36_2).f0), .int .i64 ((rd_T45 l0 x36_2).f1), .bool ((rd_T45 l0 x36_2).f2.f0), .int .i64 ((rd_T45 l0 x36_2).f2.f1), .int .i64 ((rd_T45 l0 x36_2).f2.f2), .int .i64 ((rd_T45 l0 x36_2).f2.f3), .int .i64 ((rd_T45 l0 x36_2).f2.f4), .int .i64 ((rd_T45 l0 x36_2).f2.f5), .int .i64 ((rd_T45 l0 x36_2).f3.f0), .int .i64 ((rd_T45 l0 x36_2).f3.f1), .int .i64 ((rd_T45 l0 x36_2).f3.f2), .int .i64 ((rd_T45 l0 x36_2).f4)] 45 (0, 0)) (by (with_reducible repeat (first | refine YF ?_ _ | refine YG ?_ | refine YH ?_ _)); exact BK358.out) k_ hk⟩)); (case aO => exact (by (with_reducible repeat (first | apply Kd.S_alloc | apply Kd.S_drewN | apply Kd.S_drew)); exact Kd.S_mono HO_8.out (fun k_ hk => ⟨⟨hk.1.2, hk.2⟩, fun e_ => hk.1.1 e_⟩))); (case aS => exact (YE (by repeat (first | (with_reducible first | exact HB.out | apply YA | apply YB | apply YC | refine below_set ?_ GE353.out | refine below_set ?_ GE358.out) | exact HB.out)))); (case aL => have := LMc31.out; omega); intro v365 w39 ho hb hg hat; rw [← Ny364.out] at ho; have n0_ := YL (blk_grown (g := gb353) (o := .cells #[.int .i64 x354000_2, .slice Ao38 x354001_2.length co38] 24 (0, 0)) (by (with_reducible repeat (first | refine YF ?_ _ | refine YG ?_ | refine YH ?_ _)); exact BK353.out) hg (Kd.S_away HO_8.out (fun _ hk => hk.1.2))); have n1_ := YL (blk_grown (g := gb358) (o := .cells #[.int .i64 ((rd_T45 l0 x36_2).f0), .int .i64 ((rd_T45 l0 x36_2).f1), .bool ((rd_T45 l0 x36_2).f2.f0), .int .i64 ((rd_T45 l0 x36_2).f2.f1), .int .i64 ((rd_T45 l0 x36_2).f2.f2), .int .i64 ((rd_T45 l0 x36_2).f2.f3), .int .i64 ((rd_T45 l0 x36_2).f2.f4), .int .i64 ((rd_T45 l0 x36_2).f2.f5), .int .i64 ((rd_T45 l0 x36_2).f3.f0), .int .i64 ((rd_T45 l0 x36_2).f3.f1), .int .i64 ((rd_T45 l0 x36_2).f3.f2), .int .i64 ((rd_T45 l0 x36_2).f4)] 45 (0, 0)) (by (with_reducible repeat (first | refine YF ?_ _ | refine YG ?_ | refine YH ?_ _)); exact BK358.out) hg (Kd.S_ne HO_8.out BK358.out (by decide))); have n2_ := YL (hb); have n3_ := YL (ho); clear BK353; clear BK358; clear HB; clear HO_8; clear HO_354001; have BK353 := n0_; have BK358 := n1_; have HB := n2_; have HO366 := n3_; clear n0_ n1_ n2_ n3_; clear ho hb hg hat))
              have n0_ := YL (Kd.S_drew HO366.out)
              have n1_ := YL (YG BK353.out)
              have n2_ := YL (YG BK358.out)
              have n3_ := YL (YC HB.out)
              clear HO366; clear BK353; clear BK358; clear HB; have HO366 := n0_; have BK353 := n1_; have BK358 := n2_; have HB := n3_; clear n0_ n1_ n2_ n3_
              refine start_ (n := 7) (S := fun w' => w'.cell? ⟨gb353, 0, none⟩ = some (.int .i64 x354000_2) ∧ w'.cell? ⟨gb353, 1, none⟩ = some (.slice Ao38 x354001_2.length co38) ∧ w'.cell? ⟨gb358, 0, none⟩ = some (.int .i64 ((rd_T45 l0 x36_2).f0)) ∧ w'.cell? ⟨gb358, 1, none⟩ = some (.int .i64 ((rd_T45 l0 x36_2).f1)) ∧ w'.cell? ⟨gb358, 2, none⟩ = some (.bool ((rd_T45 l0 x36_2).f2.f0)) ∧ w'.cell? ⟨gb358, 3, none⟩ = some (.int .i64 ((rd_T45 l0 x36_2).f2.f1)) ∧ w'.cell? ⟨gb358, 4, none⟩ = some (.int .i64 ((rd_T45 l0 x36_2).f2.f2)) ∧ w'.cell? ⟨gb358, 5, none⟩ = some (.int .i64 ((rd_T45 l0 x36_2).f2.f3)) ∧ w'.cell? ⟨gb358, 6, none⟩ = some (.int .i64 ((rd_T45 l0 x36_2).f2.f4)) ∧ w'.cell? ⟨gb358, 7, none⟩ = some (.int .i64 ((rd_T45 l0 x36_2).f2.f5)) ∧ w'.cell? ⟨gb358, 8, none⟩ = some (.int .i64 ((rd_T45 l0 x36_2).f3.f0)) ∧ w'.cell? ⟨gb358, 9, none⟩ = some (.int .i64 ((rd_T45 l0 x36_2).f3.f1)) ∧ w'.cell? ⟨gb358, 10, none⟩ = some (.int .i64 ((rd_T45 l0 x36_2).f3.f2)) ∧ w'.cell? ⟨gb358, 11, none⟩ = some (.int .i64 ((rd_T45 l0 x36_2).f4))) (ds := [6]) #[false, false, false, false, false, false, false] (by kernel_rfl) rfl rfl ⟨(YI BK353.out 0).trans rfl, (YI BK353.out 1).trans rfl, (YI BK358.out 0).trans rfl, (YI BK358.out 1).trans rfl, (YI BK358.out 2).trans rfl, (YI BK358.out 3).trans rfl, (YI BK358.out 4).trans rfl, (YI BK358.out 5).trans rfl, (YI BK358.out 6).trans rfl, (YI BK358.out 7).trans rfl, (YI BK358.out 8).trans rfl, (YI BK358.out 9).trans rfl, (YI BK358.out 10).trans rfl, (YI BK358.out 11).trans rfl⟩ (fun hHeld => ?_)
              generalize w39.drew = w40 at HO366 BK353 BK358 HB hHeld ⊢
              refine pure_ (i := 0) (N := some 68) (v := ?_) (a' := ?_) #[true, false, false, false, false, false, false] rfl rfl (by kernel_rfl) (fun _ _ _ h => h) (Or.inl ⟨by rfl, ?_⟩) ?_ ?_
              rotate_left
              · intro w'
                go_simp; with_reducible rfl
              rotate_left
              · simp only [Act.put, YM, YN, YO, i64_w, i32_w]
                rfl
              refine take_ (i := 1) (N := some 69) (v := ?_) (a' := ?_) #[true, true, false, false, false, false, false] rfl rfl (by kernel_rfl) (fun _ _ _ h => h) (Or.inl ⟨by rfl, ?_⟩) hHeld ?_ ?_
              rotate_left
              · rintro w' ⟨s0, s1, s2, s3, s4, s5, s6, s7, s8, s9, s10, s11, s12, s13⟩
                go_simp; with_reducible rfl
              rotate_left
              · simp only [Act.put, YM, YN, YO, i64_w, i32_w]
                rfl
              refine take_ (i := 3) (N := some 71) (v := ?_) (a' := ?_) #[true, true, false, true, false, false, false] rfl rfl (by kernel_rfl) (fun _ _ _ h => h) (Or.inl ⟨by rfl, ?_⟩) hHeld ?_ ?_
              rotate_left
              · rintro w' ⟨s0, s1, s2, s3, s4, s5, s6, s7, s8, s9, s10, s11, s12, s13⟩
                go_simp; with_reducible rfl
              rotate_left
              · simp only [Act.put, YM, YN, YO, i64_w, i32_w]
                rfl
              refine join_ (σ := Value) 2 #[true, true, true, true, true, false, false] (fun s_ => [(70, .int .i64 t367), (72, s_)]) (fun s_ w' => (w'.cell? ⟨gb353, 0, none⟩ = some (.int .i64 x354000_2) ∧ w'.cell? ⟨gb353, 1, none⟩ = some (.slice Ao38 x354001_2.length co38) ∧ w'.cell? ⟨gb358, 0, none⟩ = some (.int .i64 ((rd_T45 l0 x36_2).f0)) ∧ w'.cell? ⟨gb358, 1, none⟩ = some (.int .i64 ((rd_T45 l0 x36_2).f1)) ∧ w'.cell? ⟨gb358, 2, none⟩ = some (.bool ((rd_T45 l0 x36_2).f2.f0)) ∧ w'.cell? ⟨gb358, 3, none⟩ = some (.int .i64 ((rd_T45 l0 x36_2).f2.f1)) ∧ w'.cell? ⟨gb358, 4, none⟩ = some (.int .i64 ((rd_T45 l0 x36_2).f2.f2)) ∧ w'.cell? ⟨gb358, 5, none⟩ = some (.int .i64 ((rd_T45 l0 x36_2).f2.f3)) ∧ w'.cell? ⟨gb358, 6, none⟩ = some (.int .i64 ((rd_T45 l0 x36_2).f2.f4)) ∧ w'.cell? ⟨gb358, 7, none⟩ = some (.int .i64 ((rd_T45 l0 x36_2).f2.f5)) ∧ w'.cell? ⟨gb358, 8, none⟩ = some (.int .i64 ((rd_T45 l0 x36_2).f3.f0)) ∧ w'.cell? ⟨gb358, 9, none⟩ = some (.int .i64 ((rd_T45 l0 x36_2).f3.f1)) ∧ w'.cell? ⟨gb358, 10, none⟩ = some (.int .i64 ((rd_T45 l0 x36_2).f3.f2)) ∧ w'.cell? ⟨gb358, 11, none⟩ = some (.int .i64 ((rd_T45 l0 x36_2).f4))) ∧ (Kd.S k24 24 w' w.heap.size (fun k_ => some k_ ≠ (s_ : Value).ownBlock ∧ k_ ≠ gb353 ∧ k_ ≠ gb358) v365 y364) ∧ (Kd.R k45 45 w' w.heap.size (fun k_ => k_ ≠ gb358) s_ y368) ∧ (w'.heap[gb353]? = some (.cells #[.int .i64 x354000_2, .slice Ao38 x354001_2.length co38] 24 (0, 0))) ∧ (w'.heap[gb358]? = some (.cells #[.int .i64 ((rd_T45 l0 x36_2).f0), .int .i64 ((rd_T45 l0 x36_2).f1), .bool ((rd_T45 l0 x36_2).f2.f0), .int .i64 ((rd_T45 l0 x36_2).f2.f1), .int .i64 ((rd_T45 l0 x36_2).f2.f2), .int .i64 ((rd_T45 l0 x36_2).f2.f3), .int .i64 ((rd_T45 l0 x36_2).f2.f4), .int .i64 ((rd_T45 l0 x36_2).f2.f5), .int .i64 ((rd_T45 l0 x36_2).f3.f0), .int .i64 ((rd_T45 l0 x36_2).f3.f1), .int .i64 ((rd_T45 l0 x36_2).f3.f2), .int .i64 ((rd_T45 l0 x36_2).f4)] 45 (0, 0))) ∧ (Below w.heap.size w w')) ?_ ?_
              rotate_left
              · intro hCont
                refine two_ (i := 2) (j := 4) (Ni := some 70) (Nj := some 72) #[true, true, true, true, false, false, false] #[true, true, false, true, true, false, false] rfl rfl rfl rfl (by kernel_rfl) (by decide) (by decide) (fun K hK => ?_) (fun K hK => ?_)
                · skip
                  refine goes_ Try.func20 (by kernel_rfl) rfl #[.int .i64 x354000_2] (by rfl) rfl rfl (by (try simp only [YP, List.map_cons, List.map_nil]); first | done | rfl | (simp only [YR, YQ]; rfl)) ?_
                  with_reducible refine (serial_Next.calls x354000_2 t367 _ A32.out).mono ?_
                  rintro e w' ⟨rfl, ⟨nd, rfl⟩⟩
                  refine ⟨_, rfl, ?_⟩
                  refine hK.out _ _ ⟨(YI BK353.out 0).trans rfl, (YI BK353.out 1).trans rfl, (YI BK358.out 0).trans rfl, (YI BK358.out 1).trans rfl, (YI BK358.out 2).trans rfl, (YI BK358.out 3).trans rfl, (YI BK358.out 4).trans rfl, (YI BK358.out 5).trans rfl, (YI BK358.out 6).trans rfl, (YI BK358.out 7).trans rfl, (YI BK358.out 8).trans rfl, (YI BK358.out 9).trans rfl, (YI BK358.out 10).trans rfl, (YI BK358.out 11).trans rfl⟩ (fun hHeld => ?_)
                  clear hK K
                  refine norm_ (a' := ?_) ?_ ?_
                  rotate_left
                  · show Act.put _ (some 70) _ = _
                    simp only [Act.put, YM, YN, YO, i64_w, i32_w]
                    rfl
                  refine one_ (i := 4) (N := some 72) #[true, true, true, true, true, false, false] rfl rfl (by kernel_rfl) (by decide) (fun K hK => ?_)
                  refine Kd.R_lit_step k45 _ 45 ?hg (N := 72) ?hd (xs := ([(⟨(rd_T45 l0 x36_2).f0, (rd_T45 l0 x36_2).f1, (⟨(rd_T45 l0 x36_2).f2.f0, (rd_T45 l0 x36_2).f2.f1, (rd_T45 l0 x36_2).f2.f2, (rd_T45 l0 x36_2).f2.f3, (rd_T45 l0 x36_2).f2.f4, (rd_T45 l0 x36_2).f2.f5⟩ : S41), (⟨(rd_T45 l0 x36_2).f3.f0, (rd_T45 l0 x36_2).f3.f1, (rd_T45 l0 x36_2).f3.f2⟩ : S43), (rd_T45 l0 x36_2).f4⟩ : S45)] : List (S45))) (inner := [.int .i64 ((rd_T45 l0 x36_2).f0), .int .i64 ((rd_T45 l0 x36_2).f1), .bool ((rd_T45 l0 x36_2).f2.f0), .int .i64 ((rd_T45 l0 x36_2).f2.f1), .int .i64 ((rd_T45 l0 x36_2).f2.f2), .int .i64 ((rd_T45 l0 x36_2).f2.f3), .int .i64 ((rd_T45 l0 x36_2).f2.f4), .int .i64 ((rd_T45 l0 x36_2).f2.f5), .int .i64 ((rd_T45 l0 x36_2).f3.f0), .int .i64 ((rd_T45 l0 x36_2).f3.f1), .int .i64 ((rd_T45 l0 x36_2).f3.f2), .int .i64 ((rd_T45 l0 x36_2).f4)]) (ok := fun _ => True) (okp := fun _ => True) ?hr ?hp (fun _ hk => hk) trivial (Below.refl _ _) (Nat.le_refl _) (by simp) ?_; (case hd => rfl); (case hg => rfl); (case hr => first | (go_simp; done) | (go_simp; rfl)); (case hp => exact (Reps.front (show Kd.M k45 _ _ _ (⟨(rd_T45 l0 x36_2).f0, (rd_T45 l0 x36_2).f1, (⟨(rd_T45 l0 x36_2).f2.f0, (rd_T45 l0 x36_2).f2.f1, (rd_T45 l0 x36_2).f2.f2, (rd_T45 l0 x36_2).f2.f3, (rd_T45 l0 x36_2).f2.f4, (rd_T45 l0 x36_2).f2.f5⟩ : S41), (⟨(rd_T45 l0 x36_2).f3.f0, (rd_T45 l0 x36_2).f3.f1, (rd_T45 l0 x36_2).f3.f2⟩ : S43), (rd_T45 l0 x36_2).f4⟩ : S45) [.int .i64 ((rd_T45 l0 x36_2).f0), .int .i64 ((rd_T45 l0 x36_2).f1), .bool ((rd_T45 l0 x36_2).f2.f0), .int .i64 ((rd_T45 l0 x36_2).f2.f1), .int .i64 ((rd_T45 l0 x36_2).f2.f2), .int .i64 ((rd_T45 l0 x36_2).f2.f3), .int .i64 ((rd_T45 l0 x36_2).f2.f4), .int .i64 ((rd_T45 l0 x36_2).f2.f5), .int .i64 ((rd_T45 l0 x36_2).f3.f0), .int .i64 ((rd_T45 l0 x36_2).f3.f1), .int .i64 ((rd_T45 l0 x36_2).f3.f2), .int .i64 ((rd_T45 l0 x36_2).f4)] from (k45_mkM _ _ _ (⟨(rd_T45 l0 x36_2).f0, (rd_T45 l0 x36_2).f1, (⟨(rd_T45 l0 x36_2).f2.f0, (rd_T45 l0 x36_2).f2.f1, (rd_T45 l0 x36_2).f2.f2, (rd_T45 l0 x36_2).f2.f3, (rd_T45 l0 x36_2).f2.f4, (rd_T45 l0 x36_2).f2.f5⟩ : S41), (⟨(rd_T45 l0 x36_2).f3.f0, (rd_T45 l0 x36_2).f3.f1, (rd_T45 l0 x36_2).f3.f2⟩ : S43), (rd_T45 l0 x36_2).f4⟩ : S45) )) rfl (Reps.none _ _) rfl))
                  intro v369 w41 ho42 hb hg_ hnew_
                  clear hg_ hnew_
                  (first | rw [← Ny368.out] at ho42 | (simp only [Int.reduceToNat] at ho42; rw [← Ny368.out] at ho42))
                  have n0_ := YL (Kd.S_elder' (by (with_reducible repeat (first | apply Kd.S_alloc | apply Kd.S_drewN | apply Kd.S_drew)); exact HO366.out) (Kd.R_base ho42) hb)
                  have n1_ := YL (Kd.R_lower (Kd.R_newB ho42 (g := gb358) (o := .cells #[.int .i64 ((rd_T45 l0 x36_2).f0), .int .i64 ((rd_T45 l0 x36_2).f1), .bool ((rd_T45 l0 x36_2).f2.f0), .int .i64 ((rd_T45 l0 x36_2).f2.f1), .int .i64 ((rd_T45 l0 x36_2).f2.f2), .int .i64 ((rd_T45 l0 x36_2).f2.f3), .int .i64 ((rd_T45 l0 x36_2).f2.f4), .int .i64 ((rd_T45 l0 x36_2).f2.f5), .int .i64 ((rd_T45 l0 x36_2).f3.f0), .int .i64 ((rd_T45 l0 x36_2).f3.f1), .int .i64 ((rd_T45 l0 x36_2).f3.f2), .int .i64 ((rd_T45 l0 x36_2).f4)] 45 (0, 0)) (by (with_reducible repeat (first | refine YF ?_ _ | refine YG ?_ | refine YH ?_ _)); exact BK358.out)) (YE (by repeat (first | (with_reducible first | exact HB.out | apply YA | apply YB | apply YC | refine below_set ?_ GE353.out | refine below_set ?_ GE358.out) | exact HB.out))))
                  have n2_ := YL (YK (g := gb353) (o := .cells #[.int .i64 x354000_2, .slice Ao38 x354001_2.length co38] 24 (0, 0)) (by (with_reducible repeat (first | refine YF ?_ _ | refine YG ?_ | refine YH ?_ _)); exact BK353.out) hb)
                  have n3_ := YL (YK (g := gb358) (o := .cells #[.int .i64 ((rd_T45 l0 x36_2).f0), .int .i64 ((rd_T45 l0 x36_2).f1), .bool ((rd_T45 l0 x36_2).f2.f0), .int .i64 ((rd_T45 l0 x36_2).f2.f1), .int .i64 ((rd_T45 l0 x36_2).f2.f2), .int .i64 ((rd_T45 l0 x36_2).f2.f3), .int .i64 ((rd_T45 l0 x36_2).f2.f4), .int .i64 ((rd_T45 l0 x36_2).f2.f5), .int .i64 ((rd_T45 l0 x36_2).f3.f0), .int .i64 ((rd_T45 l0 x36_2).f3.f1), .int .i64 ((rd_T45 l0 x36_2).f3.f2), .int .i64 ((rd_T45 l0 x36_2).f4)] 45 (0, 0)) (by (with_reducible repeat (first | refine YF ?_ _ | refine YG ?_ | refine YH ?_ _)); exact BK358.out) hb)
                  have n4_ := YL (YD (by repeat (first | (with_reducible first | exact HB.out | apply YA | apply YB | apply YC | refine below_set ?_ GE353.out | refine below_set ?_ GE358.out) | exact HB.out)) hb)
                  clear HO366; clear BK353; clear BK358; clear HB; have HO366 := n0_; have HO370 := n1_; have BK353 := n2_; have BK358 := n3_; have HB := n4_; clear n0_ n1_ n2_ n3_ n4_; clear hb ho42
                  obtain ⟨Ao43, co43, eo43⟩ := Kd.R_slice HO370.out
                  (first | subst eo43 | (injection eo43 with f1_ f2_ f3_; have f4_ := f1_.symm; have f5_ := f3_.symm; clear f1_ f2_ f3_; subst f4_; subst f5_))
                  refine hK.out _ _ ⟨(YI BK353.out 0).trans rfl, (YI BK353.out 1).trans rfl, (YI BK358.out 0).trans rfl, (YI BK358.out 1).trans rfl, (YI BK358.out 2).trans rfl, (YI BK358.out 3).trans rfl, (YI BK358.out 4).trans rfl, (YI BK358.out 5).trans rfl, (YI BK358.out 6).trans rfl, (YI BK358.out 7).trans rfl, (YI BK358.out 8).trans rfl, (YI BK358.out 9).trans rfl, (YI BK358.out 10).trans rfl, (YI BK358.out 11).trans rfl⟩ (fun hHeld => ?_)
                  clear hK K
                  refine norm_ (a' := ?_) ?_ ?_
                  rotate_left
                  · show Act.put _ (some 72) _ = _
                    simp only [Act.put, YM, YN, YO, i64_w, i32_w]
                    rfl
                  exact norm_ (by simp only [putAll, Act.put, YM, YN, YO]) (hCont (.slice Ao43 y368.length co43) _ ⟨hHeld, (by (with_reducible repeat (first | apply Kd.S_alloc | apply Kd.S_drewN | apply Kd.S_drew)); exact Kd.S_mono HO366.out (fun _ hk => by first | exact ⟨hk.2, ⟨hk.1.1, hk.1.2⟩⟩ | exact trivial | (simp [hk]; done) | simp_all)), (by (with_reducible repeat (first | apply YS | apply YT | apply YU)); exact Kd.R_mono HO370.out (fun _ hk => by first | exact hk.2 | exact trivial | (simp [hk]; done) | simp_all)), (by (with_reducible repeat (first | refine YF ?_ _ | refine YG ?_ | refine YH ?_ _)); exact BK353.out), (by (with_reducible repeat (first | refine YF ?_ _ | refine YG ?_ | refine YH ?_ _)); exact BK358.out), (by repeat (first | (with_reducible first | exact HB.out | apply YA | apply YB | apply YC | refine below_set ?_ GE353.out | refine below_set ?_ GE358.out) | exact HB.out))⟩)
                skip
                refine Kd.R_lit_step k45 _ 45 ?hg (N := 72) ?hd (xs := ([(⟨(rd_T45 l0 x36_2).f0, (rd_T45 l0 x36_2).f1, (⟨(rd_T45 l0 x36_2).f2.f0, (rd_T45 l0 x36_2).f2.f1, (rd_T45 l0 x36_2).f2.f2, (rd_T45 l0 x36_2).f2.f3, (rd_T45 l0 x36_2).f2.f4, (rd_T45 l0 x36_2).f2.f5⟩ : S41), (⟨(rd_T45 l0 x36_2).f3.f0, (rd_T45 l0 x36_2).f3.f1, (rd_T45 l0 x36_2).f3.f2⟩ : S43), (rd_T45 l0 x36_2).f4⟩ : S45)] : List (S45))) (inner := [.int .i64 ((rd_T45 l0 x36_2).f0), .int .i64 ((rd_T45 l0 x36_2).f1), .bool ((rd_T45 l0 x36_2).f2.f0), .int .i64 ((rd_T45 l0 x36_2).f2.f1), .int .i64 ((rd_T45 l0 x36_2).f2.f2), .int .i64 ((rd_T45 l0 x36_2).f2.f3), .int .i64 ((rd_T45 l0 x36_2).f2.f4), .int .i64 ((rd_T45 l0 x36_2).f2.f5), .int .i64 ((rd_T45 l0 x36_2).f3.f0), .int .i64 ((rd_T45 l0 x36_2).f3.f1), .int .i64 ((rd_T45 l0 x36_2).f3.f2), .int .i64 ((rd_T45 l0 x36_2).f4)]) (ok := fun _ => True) (okp := fun _ => True) ?hr ?hp (fun _ hk => hk) trivial (Below.refl _ _) (Nat.le_refl _) (by simp) ?_; (case hd => rfl); (case hg => rfl); (case hr => first | (go_simp; done) | (go_simp; rfl)); (case hp => exact (Reps.front (show Kd.M k45 _ _ _ (⟨(rd_T45 l0 x36_2).f0, (rd_T45 l0 x36_2).f1, (⟨(rd_T45 l0 x36_2).f2.f0, (rd_T45 l0 x36_2).f2.f1, (rd_T45 l0 x36_2).f2.f2, (rd_T45 l0 x36_2).f2.f3, (rd_T45 l0 x36_2).f2.f4, (rd_T45 l0 x36_2).f2.f5⟩ : S41), (⟨(rd_T45 l0 x36_2).f3.f0, (rd_T45 l0 x36_2).f3.f1, (rd_T45 l0 x36_2).f3.f2⟩ : S43), (rd_T45 l0 x36_2).f4⟩ : S45) [.int .i64 ((rd_T45 l0 x36_2).f0), .int .i64 ((rd_T45 l0 x36_2).f1), .bool ((rd_T45 l0 x36_2).f2.f0), .int .i64 ((rd_T45 l0 x36_2).f2.f1), .int .i64 ((rd_T45 l0 x36_2).f2.f2), .int .i64 ((rd_T45 l0 x36_2).f2.f3), .int .i64 ((rd_T45 l0 x36_2).f2.f4), .int .i64 ((rd_T45 l0 x36_2).f2.f5), .int .i64 ((rd_T45 l0 x36_2).f3.f0), .int .i64 ((rd_T45 l0 x36_2).f3.f1), .int .i64 ((rd_T45 l0 x36_2).f3.f2), .int .i64 ((rd_T45 l0 x36_2).f4)] from (k45_mkM _ _ _ (⟨(rd_T45 l0 x36_2).f0, (rd_T45 l0 x36_2).f1, (⟨(rd_T45 l0 x36_2).f2.f0, (rd_T45 l0 x36_2).f2.f1, (rd_T45 l0 x36_2).f2.f2, (rd_T45 l0 x36_2).f2.f3, (rd_T45 l0 x36_2).f2.f4, (rd_T45 l0 x36_2).f2.f5⟩ : S41), (⟨(rd_T45 l0 x36_2).f3.f0, (rd_T45 l0 x36_2).f3.f1, (rd_T45 l0 x36_2).f3.f2⟩ : S43), (rd_T45 l0 x36_2).f4⟩ : S45) )) rfl (Reps.none _ _) rfl))
                intro v369 w41 ho42 hb hg_ hnew_
                clear hg_ hnew_
                (first | rw [← Ny368.out] at ho42 | (simp only [Int.reduceToNat] at ho42; rw [← Ny368.out] at ho42))
                have n0_ := YL (Kd.S_elder' (by (with_reducible repeat (first | apply Kd.S_alloc | apply Kd.S_drewN | apply Kd.S_drew)); exact HO366.out) (Kd.R_base ho42) hb)
                have n1_ := YL (Kd.R_lower (Kd.R_newB ho42 (g := gb358) (o := .cells #[.int .i64 ((rd_T45 l0 x36_2).f0), .int .i64 ((rd_T45 l0 x36_2).f1), .bool ((rd_T45 l0 x36_2).f2.f0), .int .i64 ((rd_T45 l0 x36_2).f2.f1), .int .i64 ((rd_T45 l0 x36_2).f2.f2), .int .i64 ((rd_T45 l0 x36_2).f2.f3), .int .i64 ((rd_T45 l0 x36_2).f2.f4), .int .i64 ((rd_T45 l0 x36_2).f2.f5), .int .i64 ((rd_T45 l0 x36_2).f3.f0), .int .i64 ((rd_T45 l0 x36_2).f3.f1), .int .i64 ((rd_T45 l0 x36_2).f3.f2), .int .i64 ((rd_T45 l0 x36_2).f4)] 45 (0, 0)) (by (with_reducible repeat (first | refine YF ?_ _ | refine YG ?_ | refine YH ?_ _)); exact BK358.out)) (YE (by repeat (first | (with_reducible first | exact HB.out | apply YA | apply YB | apply YC | refine below_set ?_ GE353.out | refine below_set ?_ GE358.out) | exact HB.out))))
                have n2_ := YL (YK (g := gb353) (o := .cells #[.int .i64 x354000_2, .slice Ao38 x354001_2.length co38] 24 (0, 0)) (by (with_reducible repeat (first | refine YF ?_ _ | refine YG ?_ | refine YH ?_ _)); exact BK353.out) hb)
                have n3_ := YL (YK (g := gb358) (o := .cells #[.int .i64 ((rd_T45 l0 x36_2).f0), .int .i64 ((rd_T45 l0 x36_2).f1), .bool ((rd_T45 l0 x36_2).f2.f0), .int .i64 ((rd_T45 l0 x36_2).f2.f1), .int .i64 ((rd_T45 l0 x36_2).f2.f2), .int .i64 ((rd_T45 l0 x36_2).f2.f3), .int .i64 ((rd_T45 l0 x36_2).f2.f4), .int .i64 ((rd_T45 l0 x36_2).f2.f5), .int .i64 ((rd_T45 l0 x36_2).f3.f0), .int .i64 ((rd_T45 l0 x36_2).f3.f1), .int .i64 ((rd_T45 l0 x36_2).f3.f2), .int .i64 ((rd_T45 l0 x36_2).f4)] 45 (0, 0)) (by (with_reducible repeat (first | refine YF ?_ _ | refine YG ?_ | refine YH ?_ _)); exact BK358.out) hb)
                have n4_ := YL (YD (by repeat (first | (with_reducible first | exact HB.out | apply YA | apply YB | apply YC | refine below_set ?_ GE353.out | refine below_set ?_ GE358.out) | exact HB.out)) hb)
                clear HO366; clear BK353; clear BK358; clear HB; have HO366 := n0_; have HO370 := n1_; have BK353 := n2_; have BK358 := n3_; have HB := n4_; clear n0_ n1_ n2_ n3_ n4_; clear hb ho42
                refine hK.out _ _ ⟨(YI BK353.out 0).trans rfl, (YI BK353.out 1).trans rfl, (YI BK358.out 0).trans rfl, (YI BK358.out 1).trans rfl, (YI BK358.out 2).trans rfl, (YI BK358.out 3).trans rfl, (YI BK358.out 4).trans rfl, (YI BK358.out 5).trans rfl, (YI BK358.out 6).trans rfl, (YI BK358.out 7).trans rfl, (YI BK358.out 8).trans rfl, (YI BK358.out 9).trans rfl, (YI BK358.out 10).trans rfl, (YI BK358.out 11).trans rfl⟩ (fun hHeld => ?_)
                clear hK K
                refine norm_ (a' := ?_) ?_ ?_
                rotate_left
                · show Act.put _ (some 72) _ = _
                  simp only [Act.put, YM, YN, YO, i64_w, i32_w]
                  rfl
                refine one_ (i := 2) (N := some 70) #[true, true, true, true, true, false, false] rfl rfl (by kernel_rfl) (by decide) (fun K hK => ?_)
                refine goes_ Try.func20 (by kernel_rfl) rfl #[.int .i64 x354000_2] (by rfl) rfl rfl (by (try simp only [YP, List.map_cons, List.map_nil]); first | done | rfl | (simp only [YR, YQ]; rfl)) ?_
                with_reducible refine (serial_Next.calls x354000_2 t367 _ A32.out).mono ?_
                rintro e w' ⟨rfl, ⟨nd, rfl⟩⟩
                refine ⟨_, rfl, ?_⟩
                obtain ⟨Ao43, co43, eo43⟩ := Kd.R_slice HO370.out
                (first | subst eo43 | (injection eo43 with f1_ f2_ f3_; have f4_ := f1_.symm; have f5_ := f3_.symm; clear f1_ f2_ f3_; subst f4_; subst f5_))
                refine hK.out _ _ ⟨(YI BK353.out 0).trans rfl, (YI BK353.out 1).trans rfl, (YI BK358.out 0).trans rfl, (YI BK358.out 1).trans rfl, (YI BK358.out 2).trans rfl, (YI BK358.out 3).trans rfl, (YI BK358.out 4).trans rfl, (YI BK358.out 5).trans rfl, (YI BK358.out 6).trans rfl, (YI BK358.out 7).trans rfl, (YI BK358.out 8).trans rfl, (YI BK358.out 9).trans rfl, (YI BK358.out 10).trans rfl, (YI BK358.out 11).trans rfl⟩ (fun hHeld => ?_)
                clear hK K
                refine norm_ (a' := ?_) ?_ ?_
                rotate_left
                · show Act.put _ (some 70) _ = _
                  simp only [Act.put, YM, YN, YO, i64_w, i32_w]
                  rfl
                exact norm_ (by simp only [putAll, Act.put, YM, YN, YO]) (hCont (.slice Ao43 y368.length co43) _ ⟨hHeld, (by (with_reducible repeat (first | apply Kd.S_alloc | apply Kd.S_drewN | apply Kd.S_drew)); exact Kd.S_mono HO366.out (fun _ hk => by first | exact ⟨hk.2, ⟨hk.1.1, hk.1.2⟩⟩ | exact trivial | (simp [hk]; done) | simp_all)), (by (with_reducible repeat (first | apply YS | apply YT | apply YU)); exact Kd.R_mono HO370.out (fun _ hk => by first | exact hk.2 | exact trivial | (simp [hk]; done) | simp_all)), (by (with_reducible repeat (first | refine YF ?_ _ | refine YG ?_ | refine YH ?_ _)); exact BK353.out), (by (with_reducible repeat (first | refine YF ?_ _ | refine YG ?_ | refine YH ?_ _)); exact BK358.out), (by repeat (first | (with_reducible first | exact HB.out | apply YA | apply YB | apply YC | refine below_set ?_ GE353.out | refine below_set ?_ GE358.out) | exact HB.out))⟩)
              rintro v369 w44 ⟨hS_, h0_, h1_, h2_, h3_, h4_⟩
              have n0_ : Aside0 (Kd.S k24 24 w44 w.heap.size (fun k_ => some k_ ≠ (v369 : Value).ownBlock ∧ k_ ≠ gb353 ∧ k_ ≠ gb358) v365 y364) := ⟨h0_⟩
              have n1_ : Aside0 (Kd.R k45 45 w44 w.heap.size (fun k_ => k_ ≠ gb358) v369 y368) := ⟨h1_⟩
              have n2_ : Aside0 (w44.heap[gb353]? = some (.cells #[.int .i64 x354000_2, .slice Ao38 x354001_2.length co38] 24 (0, 0))) := ⟨h2_⟩
              have n3_ : Aside0 (w44.heap[gb358]? = some (.cells #[.int .i64 ((rd_T45 l0 x36_2).f0), .int .i64 ((rd_T45 l0 x36_2).f1), .bool ((rd_T45 l0 x36_2).f2.f0), .int .i64 ((rd_T45 l0 x36_2).f2.f1), .int .i64 ((rd_T45 l0 x36_2).f2.f2), .int .i64 ((rd_T45 l0 x36_2).f2.f3), .int .i64 ((rd_T45 l0 x36_2).f2.f4), .int .i64 ((rd_T45 l0 x36_2).f2.f5), .int .i64 ((rd_T45 l0 x36_2).f3.f0), .int .i64 ((rd_T45 l0 x36_2).f3.f1), .int .i64 ((rd_T45 l0 x36_2).f3.f2), .int .i64 ((rd_T45 l0 x36_2).f4)] 45 (0, 0))) := ⟨h3_⟩
              have n4_ : Aside0 (Below w.heap.size w w44) := ⟨h4_⟩
              clear HO366; clear BK353; clear BK358; clear HB; clear h0_ h1_ h2_ h3_ h4_; have HO366 := n0_; have HO370 := n1_; have BK353 := n2_; have BK358 := n3_; have HB := n4_; clear n0_ n1_ n2_ n3_ n4_
              have hHeld : w44.cell? ⟨gb353, 0, none⟩ = some (.int .i64 x354000_2) ∧ w44.cell? ⟨gb353, 1, none⟩ = some (.slice Ao38 x354001_2.length co38) ∧ w44.cell? ⟨gb358, 0, none⟩ = some (.int .i64 ((rd_T45 l0 x36_2).f0)) ∧ w44.cell? ⟨gb358, 1, none⟩ = some (.int .i64 ((rd_T45 l0 x36_2).f1)) ∧ w44.cell? ⟨gb358, 2, none⟩ = some (.bool ((rd_T45 l0 x36_2).f2.f0)) ∧ w44.cell? ⟨gb358, 3, none⟩ = some (.int .i64 ((rd_T45 l0 x36_2).f2.f1)) ∧ w44.cell? ⟨gb358, 4, none⟩ = some (.int .i64 ((rd_T45 l0 x36_2).f2.f2)) ∧ w44.cell? ⟨gb358, 5, none⟩ = some (.int .i64 ((rd_T45 l0 x36_2).f2.f3)) ∧ w44.cell? ⟨gb358, 6, none⟩ = some (.int .i64 ((rd_T45 l0 x36_2).f2.f4)) ∧ w44.cell? ⟨gb358, 7, none⟩ = some (.int .i64 ((rd_T45 l0 x36_2).f2.f5)) ∧ w44.cell? ⟨gb358, 8, none⟩ = some (.int .i64 ((rd_T45 l0 x36_2).f3.f0)) ∧ w44.cell? ⟨gb358, 9, none⟩ = some (.int .i64 ((rd_T45 l0 x36_2).f3.f1)) ∧ w44.cell? ⟨gb358, 10, none⟩ = some (.int .i64 ((rd_T45 l0 x36_2).f3.f2)) ∧ w44.cell? ⟨gb358, 11, none⟩ = some (.int .i64 ((rd_T45 l0 x36_2).f4)) := hS_
              obtain ⟨Ao45, co45, eo45⟩ := Kd.R_slice HO370.out
              (first | subst eo45 | (injection eo45 with f1_ f2_ f3_; have f4_ := f1_.symm; have f5_ := f3_.symm; clear f1_ f2_ f3_; subst f4_; subst f5_))
              refine norm_ (a' := ?_) ?_ ?_
              rotate_left
              · simp only [putAll, Act.put, YM, YN, YO]
                rfl
              refine pure_ (i := 5) (N := some 73) (v := ?_) (a' := ?_) #[true, true, true, true, true, true, false] rfl rfl (by kernel_rfl) (fun _ _ _ h => h) (Or.inl ⟨by rfl, ?_⟩) ?_ ?_
              rotate_left
              · intro w'
                go_simp; with_reducible rfl
              rotate_left
              · simp only [Act.put, YM, YN, YO, i64_w, i32_w]
                rfl
              refine last_ (i := 6) (N := none) #[true, true, true, true, true, true, true] rfl rfl (by kernel_rfl) (by decide) (fun K hK => ?_)
              have hs46 : w44.cell? ⟨gb353, 0, none⟩ = some (.int .i64 x354000_2) := (YI BK353.out 0).trans rfl
              have hfs46 := YJ BK353.out 0
              have hns46_1 := NB358_353.out
              have hms46_1 := NB353_358.out
              have hs47 : w44.cell? ⟨gb353, 1, none⟩ = some (.slice Ao38 x354001_2.length co38) := (YI BK353.out 1).trans rfl
              have hfs47 := YJ BK353.out 1
              have hns47_1 := NB358_353.out
              have hms47_1 := NB353_358.out
              refine skip_ (w1 := ?_) (by rfl) rfl ?_ ?_
              rotate_left
              · go_simp
                rfl
              refine hK.out _ _ ?_
              clear hK K
              refine done_ (by kernel_rfl) ?_
              try go_wp2_with (go_step3)
              go_roundg k2
              case measure => have := HJ3.out; have := HK2.out; omega
              case rel => exact ⟨(y364), (wrap64 ((wrap64 (a2 - 3)) - t359)), (wrap64 (x36_2 + 1)), (t367), (y368), (.slice Ao45 y368.length co45), (by first | rfl | (simp; done) | (simp [*]; done)), (by first | rfl | (simp; done) | (simp [*]; done)), H', ⟨by have := HJ3.out; have := HK2.out; omega⟩, ⟨by (with_reducible repeat (first | apply Kd.S_alloc | apply Kd.S_drewN | apply Kd.S_drew)); exact Kd.S_mono (Kd.S_far (p := ⟨gb353, 1, none⟩) (Kd.S_far (p := ⟨gb353, 0, none⟩) (Kd.S_mono HO366.out (fun k_ hk => (⟨hk, hk.2.1⟩ : _ ∧ k_ ≠ gb353))) (fun _ hk => hk.2) (.int .i64 t367)) (fun _ hk => hk.2) (.slice Ao45 y368.length co45)) (fun _ hk => ⟨hk.1.1, hk.1.2.1⟩)⟩, ⟨by (with_reducible repeat (first | apply YS | apply YT | apply YU)); exact Kd.R_mono (Kd.R_far (p := ⟨gb353, 1, none⟩) (Kd.R_far (p := ⟨gb353, 0, none⟩) (Kd.R_types HO370.out BK353.out (by decide)) (fun _ hk => hk.2) (.int .i64 t367)) (fun _ hk => hk.2) (.slice Ao45 y368.length co45)) (fun _ hk => trivial)⟩, ⟨by (with_reducible repeat (first | refine YF ?_ _ | refine YG ?_ | refine YH ?_ _)); refine blk_put (cs := #[.int .i64 t367, .slice Ao38 x354001_2.length co38]) ?_ 1 _ rfl; (with_reducible repeat (first | refine YF ?_ _ | refine YG ?_ | refine YH ?_ _)); refine blk_put (cs := #[.int .i64 x354000_2, .slice Ao38 x354001_2.length co38]) ?_ 0 _ rfl; (with_reducible repeat (first | refine YF ?_ _ | refine YG ?_ | refine YH ?_ _)); exact BK353.out⟩, ⟨by repeat (first | (with_reducible first | exact HB.out | apply YA | apply YB | apply YC | refine below_set ?_ GE353.out | refine below_set ?_ GE358.out) | exact HB.out)⟩⟩
            rw [if_neg c17] at H; have c17b0 : decide (t359 ≤ x10_2) = false := decide_eq_false c17; clear c17
            by_cases c48 : x8_2.length < 4398046511104
            rotate_left
            · rw [if_neg c48] at H
              exact absurd H (by simp)
            rw [if_pos c48] at H; have LMc48 := YL c48; clear c48
            obtain ⟨y371, hy371⟩ : ∃ y_ : List (S24), y_ = (x8_2 ++ [(⟨x354000_2, x354001_2⟩ : S24)]) := ⟨_, rfl⟩
            replace H : ((serial_Next.f x354000_2).bind fun t374 => (batch_Pack.l0 k2 l0 a2 y371 (wrap64 ((wrap64 (a2 - 3)) - t359)) l0 (l0.length : Int) (wrap64 (x36_2 + 1)) t374 (([(⟨(rd_T45 l0 x36_2).f0, (rd_T45 l0 x36_2).f1, (⟨(rd_T45 l0 x36_2).f2.f0, (rd_T45 l0 x36_2).f2.f1, (rd_T45 l0 x36_2).f2.f2, (rd_T45 l0 x36_2).f2.f3, (rd_T45 l0 x36_2).f2.f4, (rd_T45 l0 x36_2).f2.f5⟩ : S41), (⟨(rd_T45 l0 x36_2).f3.f0, (rd_T45 l0 x36_2).f3.f1, (rd_T45 l0 x36_2).f3.f2⟩ : S43), (rd_T45 l0 x36_2).f4⟩ : S45)] : List (S45))))) = some (r1, r2) := by first | (rw [hy371]; with_reducible exact H) | (have H2_ := (Option.bind_some _ _).symm.trans H; rw [hy371]; with_reducible exact H2_) | (have H2_ := (Option.bind_some _ _).symm.trans H; with_reducible exact H2_) | with_reducible exact H | (rw [hy371]; exact H) | exact H
            have Ny371 := YL hy371; clear hy371; replace H := Option.bind_eq_some_iff.mp H; obtain ⟨t374, A490, H⟩ := H
            replace H : (batch_Pack.l0 k2 l0 a2 y371 (wrap64 ((wrap64 (a2 - 3)) - t359)) l0 (l0.length : Int) (wrap64 (x36_2 + 1)) t374 (([(⟨(rd_T45 l0 x36_2).f0, (rd_T45 l0 x36_2).f1, (⟨(rd_T45 l0 x36_2).f2.f0, (rd_T45 l0 x36_2).f2.f1, (rd_T45 l0 x36_2).f2.f2, (rd_T45 l0 x36_2).f2.f3, (rd_T45 l0 x36_2).f2.f4, (rd_T45 l0 x36_2).f2.f5⟩ : S41), (⟨(rd_T45 l0 x36_2).f3.f0, (rd_T45 l0 x36_2).f3.f1, (rd_T45 l0 x36_2).f3.f2⟩ : S43), (rd_T45 l0 x36_2).f4⟩ : S45)] : List (S45)))) = some (r1, r2) := H
            have A49 := YL A490; clear A490
            obtain ⟨y375, hy375⟩ : ∃ y_ : List (S45), y_ = (([(⟨(rd_T45 l0 x36_2).f0, (rd_T45 l0 x36_2).f1, (⟨(rd_T45 l0 x36_2).f2.f0, (rd_T45 l0 x36_2).f2.f1, (rd_T45 l0 x36_2).f2.f2, (rd_T45 l0 x36_2).f2.f3, (rd_T45 l0 x36_2).f2.f4, (rd_T45 l0 x36_2).f2.f5⟩ : S41), (⟨(rd_T45 l0 x36_2).f3.f0, (rd_T45 l0 x36_2).f3.f1, (rd_T45 l0 x36_2).f3.f2⟩ : S43), (rd_T45 l0 x36_2).f4⟩ : S45)] : List (S45))) := ⟨_, rfl⟩
            replace H : (batch_Pack.l0 k2 l0 a2 y371 (wrap64 ((wrap64 (a2 - 3)) - t359)) l0 (l0.length : Int) (wrap64 (x36_2 + 1)) t374 y375) = some (r1, r2) := by first | (rw [hy375]; with_reducible exact H) | (have H2_ := (Option.bind_some _ _).symm.trans H; rw [hy375]; with_reducible exact H2_) | (have H2_ := (Option.bind_some _ _).symm.trans H; with_reducible exact H2_) | with_reducible exact H | (rw [hy375]; exact H) | exact H
            have Ny375 := YL hy375; clear hy375
            have H' := YL H
            clear H
            have p357 : 0 ≤ (x36_2 : Int) := of_decide_eq_true (by first | (with_reducible assumption) | assumption)
            have q357 : x36_2 < (l0.length : Int) := of_decide_eq_true (by first | (with_reducible assumption) | assumption)
            obtain ⟨ad357, e357, hx357_0, hx357_1, hx357_2, hx357_3, hx357_4, hx357_5, hx357_6, hx357_7, hx357_8, hx357_9, hx357_10, hx357_11⟩ := at_T45 HR0.out x36_2 p357 q357
            cases e357
            replace hx357_0 := (HB.out.cell (World.block_lt_of_cell? w _ hx357_0)).trans hx357_0
            replace hx357_1 := (HB.out.cell (World.block_lt_of_cell? w _ hx357_1)).trans hx357_1
            replace hx357_2 := (HB.out.cell (World.block_lt_of_cell? w _ hx357_2)).trans hx357_2
            replace hx357_3 := (HB.out.cell (World.block_lt_of_cell? w _ hx357_3)).trans hx357_3
            replace hx357_4 := (HB.out.cell (World.block_lt_of_cell? w _ hx357_4)).trans hx357_4
            replace hx357_5 := (HB.out.cell (World.block_lt_of_cell? w _ hx357_5)).trans hx357_5
            replace hx357_6 := (HB.out.cell (World.block_lt_of_cell? w _ hx357_6)).trans hx357_6
            replace hx357_7 := (HB.out.cell (World.block_lt_of_cell? w _ hx357_7)).trans hx357_7
            replace hx357_8 := (HB.out.cell (World.block_lt_of_cell? w _ hx357_8)).trans hx357_8
            replace hx357_9 := (HB.out.cell (World.block_lt_of_cell? w _ hx357_9)).trans hx357_9
            replace hx357_10 := (HB.out.cell (World.block_lt_of_cell? w _ hx357_10)).trans hx357_10
            replace hx357_11 := (HB.out.cell (World.block_lt_of_cell? w _ hx357_11)).trans hx357_11
            replace p357 := eq_true p357
            replace q357 := eq_true q357
            try go_wp2_with (first | go_step3 | ((with_reducible refine gate_dst (N := 12) rfl ?_); (try (refine gate_guard (by rfl) ?_; dsimp only)); refine box_event ?hg (N := 12) ?hd (cs := #[.int .i64 0, .int .i64 0, .bool false, .int .i64 0, .int .i64 0, .int .i64 0, .int .i64 0, .int .i64 0, .int .i64 0, .int .i64 0, .int .i64 0, .int .i64 0]) (t := 45) ?hr ?_; (case hd => rfl); (case hg => rfl); (case hr => first | (go_simp; done) | (go_simp; rfl)); intro gb358 hg w50 hbox hb; have n0_ := YL (Kd.S_below (Kd.S_elderB (by (with_reducible repeat (first | apply Kd.S_alloc | apply Kd.S_drewN | apply Kd.S_drew)); exact HO_8.out) gb358 (Nat.le_of_eq hg.symm)) hb); have n1_ := YL (YV (Kd.R_elderB (by (with_reducible repeat (first | apply YS | apply YT | apply YU)); exact HO_354001.out) gb358 (Nat.le_of_eq hg.symm)) hb); have n2_ := YL (YK (g := gb353) (o := .cells #[.int .i64 x354000_2, u354001] 24 (0, 0)) (by (with_reducible repeat (first | refine YF ?_ _ | refine YG ?_ | refine YH ?_ _)); exact BK353.out) hb); have n3_ := YL (YD (by repeat (first | (with_reducible first | exact HB.out | apply YA | apply YB | apply YC | refine below_set ?_ GE353.out) | exact HB.out)) hb); have n4_ := YL (hbox); have n5_ := YL ((by rw [hg]; exact (YE (by repeat (first | (with_reducible first | exact HB.out | apply YA | apply YB | apply YC | refine below_set ?_ GE353.out) | exact HB.out))) : w.heap.size ≤ gb358)); have n6_ := YL ((by rw [hg]; exact (YE (by repeat (first | (with_reducible first | exact HB.out | apply YA | apply YB | apply YC | refine below_set ?_ GE353.out) | exact HB.out))) : w.heap.size ≤ gb358)); have n7_ := YL ((by rw [hg]; exact Nat.ne_of_lt (blk_lt (g := gb353) (o := .cells #[.int .i64 x354000_2, u354001] 24 (0, 0)) (by (with_reducible repeat (first | refine YF ?_ _ | refine YG ?_ | refine YH ?_ _)); exact BK353.out)) : gb353 ≠ gb358)); have n8_ := YL ((by rw [hg]; exact Nat.ne_of_gt (blk_lt (g := gb353) (o := .cells #[.int .i64 x354000_2, u354001] 24 (0, 0)) (by (with_reducible repeat (first | refine YF ?_ _ | refine YG ?_ | refine YH ?_ _)); exact BK353.out)) : gb358 ≠ gb353)); clear HO_8; clear HO_354001; clear BK353; clear HB; have HO_8 := n0_; have HO_354001 := n1_; have BK353 := n2_; have HB := n3_; have BK358 := n4_; have GW358 := n5_; have GE358 := n6_; have NB353_358 := n7_; have NB358_353 := n8_; clear n0_ n1_ n2_ n3_ n4_ n5_ n6_ n7_ n8_; clear hb hbox hg; have hnb51 := NB358_353.out; have hnc51 := NB353_358.out; have hcz52_0 : w50.cell? ⟨gb358, 0, none⟩ = some (.int .i64 0) := (YI BK358.out 0).trans rfl; have hcz52_1 : w50.cell? ⟨gb358, 1, none⟩ = some (.int .i64 0) := (YI BK358.out 1).trans rfl; have hcz52_2 : w50.cell? ⟨gb358, 2, none⟩ = some (.bool false) := (YI BK358.out 2).trans rfl; have hcz52_3 : w50.cell? ⟨gb358, 3, none⟩ = some (.int .i64 0) := (YI BK358.out 3).trans rfl; have hcz52_4 : w50.cell? ⟨gb358, 4, none⟩ = some (.int .i64 0) := (YI BK358.out 4).trans rfl; have hcz52_5 : w50.cell? ⟨gb358, 5, none⟩ = some (.int .i64 0) := (YI BK358.out 5).trans rfl; have hcz52_6 : w50.cell? ⟨gb358, 6, none⟩ = some (.int .i64 0) := (YI BK358.out 6).trans rfl; have hcz52_7 : w50.cell? ⟨gb358, 7, none⟩ = some (.int .i64 0) := (YI BK358.out 7).trans rfl; have hcz52_8 : w50.cell? ⟨gb358, 8, none⟩ = some (.int .i64 0) := (YI BK358.out 8).trans rfl; have hcz52_9 : w50.cell? ⟨gb358, 9, none⟩ = some (.int .i64 0) := (YI BK358.out 9).trans rfl; have hcz52_10 : w50.cell? ⟨gb358, 10, none⟩ = some (.int .i64 0) := (YI BK358.out 10).trans rfl; have hcz52_11 : w50.cell? ⟨gb358, 11, none⟩ = some (.int .i64 0) := (YI BK358.out 11).trans rfl; have hfz52_0 := YJ BK358.out 0; have hfz52_1 := YJ BK358.out 1; have hfz52_2 := YJ BK358.out 2; have hfz52_3 := YJ BK358.out 3; have hfz52_4 := YJ BK358.out 4; have hfz52_5 := YJ BK358.out 5; have hfz52_6 := YJ BK358.out 6; have hfz52_7 := YJ BK358.out 7; have hfz52_8 := YJ BK358.out 8; have hfz52_9 := YJ BK358.out 9; have hfz52_10 := YJ BK358.out 10; have hfz52_11 := YJ BK358.out 11) | ((with_reducible refine gate_callee (f := 18) rfl ?_); refine goesL_ (some 42) rfl rfl Try.func18 (by kernel_rfl) rfl #[.agg #[.int .i64 ((rd_T45 l0 x36_2).f0), .int .i64 ((rd_T45 l0 x36_2).f1), .bool ((rd_T45 l0 x36_2).f2.f0), .int .i64 ((rd_T45 l0 x36_2).f2.f1), .int .i64 ((rd_T45 l0 x36_2).f2.f2), .int .i64 ((rd_T45 l0 x36_2).f2.f3), .int .i64 ((rd_T45 l0 x36_2).f2.f4), .int .i64 ((rd_T45 l0 x36_2).f2.f5), .int .i64 ((rd_T45 l0 x36_2).f3.f0), .int .i64 ((rd_T45 l0 x36_2).f3.f1), .int .i64 ((rd_T45 l0 x36_2).f3.f2), .int .i64 ((rd_T45 l0 x36_2).f4)]] rfl (by (try simp only [YP, List.map_cons, List.map_nil]); first | done | rfl | (simp only [YR, YQ]; rfl)) ?_; (with_reducible refine (object_Size.calls k2 ((rd_T45 l0 x36_2).f0) ((rd_T45 l0 x36_2).f1) ((rd_T45 l0 x36_2).f2.f0) ((rd_T45 l0 x36_2).f2.f1) ((rd_T45 l0 x36_2).f2.f2) ((rd_T45 l0 x36_2).f2.f3) ((rd_T45 l0 x36_2).f2.f4) ((rd_T45 l0 x36_2).f2.f5) ((rd_T45 l0 x36_2).f3.f0) ((rd_T45 l0 x36_2).f3.f1) ((rd_T45 l0 x36_2).f3.f2) ((rd_T45 l0 x36_2).f4) t359 _ A16.out).mono ?_); rintro e w53 ⟨rfl, hb⟩; refine ⟨_, rfl, ?_⟩; have n0_ := YL (Kd.S_below (by (with_reducible repeat (first | apply Kd.S_alloc | apply Kd.S_drewN | apply Kd.S_drew)); exact (Kd.S_mono (Kd.S_far (p := ⟨gb358, 11, none⟩) (Kd.S_far (p := ⟨gb358, 10, none⟩) (Kd.S_far (p := ⟨gb358, 9, none⟩) (Kd.S_far (p := ⟨gb358, 8, none⟩) (Kd.S_far (p := ⟨gb358, 7, none⟩) (Kd.S_far (p := ⟨gb358, 6, none⟩) (Kd.S_far (p := ⟨gb358, 5, none⟩) (Kd.S_far (p := ⟨gb358, 4, none⟩) (Kd.S_far (p := ⟨gb358, 3, none⟩) (Kd.S_far (p := ⟨gb358, 2, none⟩) (Kd.S_far (p := ⟨gb358, 1, none⟩) (Kd.S_far (p := ⟨gb358, 0, none⟩) (Kd.S_mono HO_8.out (fun k_ hk => (⟨hk, hk.2⟩ : _ ∧ k_ ≠ gb358))) (fun _ hk => hk.2) (.int .i64 ((rd_T45 l0 x36_2).f0))) (fun _ hk => hk.2) (.int .i64 ((rd_T45 l0 x36_2).f1))) (fun _ hk => hk.2) (.bool ((rd_T45 l0 x36_2).f2.f0))) (fun _ hk => hk.2) (.int .i64 ((rd_T45 l0 x36_2).f2.f1))) (fun _ hk => hk.2) (.int .i64 ((rd_T45 l0 x36_2).f2.f2))) (fun _ hk => hk.2) (.int .i64 ((rd_T45 l0 x36_2).f2.f3))) (fun _ hk => hk.2) (.int .i64 ((rd_T45 l0 x36_2).f2.f4))) (fun _ hk => hk.2) (.int .i64 ((rd_T45 l0 x36_2).f2.f5))) (fun _ hk => hk.2) (.int .i64 ((rd_T45 l0 x36_2).f3.f0))) (fun _ hk => hk.2) (.int .i64 ((rd_T45 l0 x36_2).f3.f1))) (fun _ hk => hk.2) (.int .i64 ((rd_T45 l0 x36_2).f3.f2))) (fun _ hk => hk.2) (.int .i64 ((rd_T45 l0 x36_2).f4))) (fun _ h_ => h_.1))) hb); have n1_ := YL (YV (by (with_reducible repeat (first | apply YS | apply YT | apply YU)); exact (Kd.R_mono (Kd.R_far (p := ⟨gb358, 11, none⟩) (Kd.R_far (p := ⟨gb358, 10, none⟩) (Kd.R_far (p := ⟨gb358, 9, none⟩) (Kd.R_far (p := ⟨gb358, 8, none⟩) (Kd.R_far (p := ⟨gb358, 7, none⟩) (Kd.R_far (p := ⟨gb358, 6, none⟩) (Kd.R_far (p := ⟨gb358, 5, none⟩) (Kd.R_far (p := ⟨gb358, 4, none⟩) (Kd.R_far (p := ⟨gb358, 3, none⟩) (Kd.R_far (p := ⟨gb358, 2, none⟩) (Kd.R_far (p := ⟨gb358, 1, none⟩) (Kd.R_far (p := ⟨gb358, 0, none⟩) (Kd.R_mono HO_354001.out (fun k_ hk => (⟨hk, hk.2⟩ : _ ∧ k_ ≠ gb358))) (fun _ hk => hk.2) (.int .i64 ((rd_T45 l0 x36_2).f0))) (fun _ hk => hk.2) (.int .i64 ((rd_T45 l0 x36_2).f1))) (fun _ hk => hk.2) (.bool ((rd_T45 l0 x36_2).f2.f0))) (fun _ hk => hk.2) (.int .i64 ((rd_T45 l0 x36_2).f2.f1))) (fun _ hk => hk.2) (.int .i64 ((rd_T45 l0 x36_2).f2.f2))) (fun _ hk => hk.2) (.int .i64 ((rd_T45 l0 x36_2).f2.f3))) (fun _ hk => hk.2) (.int .i64 ((rd_T45 l0 x36_2).f2.f4))) (fun _ hk => hk.2) (.int .i64 ((rd_T45 l0 x36_2).f2.f5))) (fun _ hk => hk.2) (.int .i64 ((rd_T45 l0 x36_2).f3.f0))) (fun _ hk => hk.2) (.int .i64 ((rd_T45 l0 x36_2).f3.f1))) (fun _ hk => hk.2) (.int .i64 ((rd_T45 l0 x36_2).f3.f2))) (fun _ hk => hk.2) (.int .i64 ((rd_T45 l0 x36_2).f4))) (fun _ h_ => h_.1))) hb); have n2_ := YL (YK (g := gb353) (o := .cells #[.int .i64 x354000_2, u354001] 24 (0, 0)) (by (with_reducible repeat (first | refine YF ?_ _ | refine YG ?_ | refine YH ?_ _)); refine blk_far ?_ NB353_358.out _; (with_reducible repeat (first | refine YF ?_ _ | refine YG ?_ | refine YH ?_ _)); refine blk_far ?_ NB353_358.out _; (with_reducible repeat (first | refine YF ?_ _ | refine YG ?_ | refine YH ?_ _)); refine blk_far ?_ NB353_358.out _; (with_reducible repeat (first | refine YF ?_ _ | refine YG ?_ | refine YH ?_ _)); refine blk_far ?_ NB353_358.out _; (with_reducible repeat (first | refine YF ?_ _ | refine YG ?_ | refine YH ?_ _)); refine blk_far ?_ NB353_358.out _; (with_reducible repeat (first | refine YF ?_ _ | refine YG ?_ | refine YH ?_ _)); refine blk_far ?_ NB353_358.out _; (with_reducible repeat (first | refine YF ?_ _ | refine YG ?_ | refine YH ?_ _)); refine blk_far ?_ NB353_358.out _; (with_reducible repeat (first | refine YF ?_ _ | refine YG ?_ | refine YH ?_ _)); refine blk_far ?_ NB353_358.out _; (with_reducible repeat (first | refine YF ?_ _ | refine YG ?_ | refine YH ?_ _)); refine blk_far ?_ NB353_358.out _; (with_reducible repeat (first | refine YF ?_ _ | refine YG ?_ | refine YH ?_ _)); refine blk_far ?_ NB353_358.out _; (with_reducible repeat (first | refine YF ?_ _ | refine YG ?_ | refine YH ?_ _)); refine blk_far ?_ NB353_358.out _; (with_reducible repeat (first | refine YF ?_ _ | refine YG ?_ | refine YH ?_ _)); refine blk_far ?_ NB353_358.out _; (with_reducible repeat (first | refine YF ?_ _ | refine YG ?_ | refine YH ?_ _)); exact BK353.out) hb); have n3_ := YL (YK (g := gb358) (o := .cells #[.int .i64 ((rd_T45 l0 x36_2).f0), .int .i64 ((rd_T45 l0 x36_2).f1), .bool ((rd_T45 l0 x36_2).f2.f0), .int .i64 ((rd_T45 l0 x36_2).f2.f1), .int .i64 ((rd_T45 l0 x36_2).f2.f2), .int .i64 ((rd_T45 l0 x36_2).f2.f3), .int .i64 ((rd_T45 l0 x36_2).f2.f4), .int .i64 ((rd_T45 l0 x36_2).f2.f5), .int .i64 ((rd_T45 l0 x36_2).f3.f0), .int .i64 ((rd_T45 l0 x36_2).f3.f1), .int .i64 ((rd_T45 l0 x36_2).f3.f2), .int .i64 ((rd_T45 l0 x36_2).f4)] 45 (0, 0)) (by (with_reducible repeat (first | refine YF ?_ _ | refine YG ?_ | refine YH ?_ _)); refine blk_put (cs := #[.int .i64 ((rd_T45 l0 x36_2).f0), .int .i64 ((rd_T45 l0 x36_2).f1), .bool ((rd_T45 l0 x36_2).f2.f0), .int .i64 ((rd_T45 l0 x36_2).f2.f1), .int .i64 ((rd_T45 l0 x36_2).f2.f2), .int .i64 ((rd_T45 l0 x36_2).f2.f3), .int .i64 ((rd_T45 l0 x36_2).f2.f4), .int .i64 ((rd_T45 l0 x36_2).f2.f5), .int .i64 ((rd_T45 l0 x36_2).f3.f0), .int .i64 ((rd_T45 l0 x36_2).f3.f1), .int .i64 ((rd_T45 l0 x36_2).f3.f2), .int .i64 0]) ?_ 11 _ rfl; (with_reducible repeat (first | refine YF ?_ _ | refine YG ?_ | refine YH ?_ _)); refine blk_put (cs := #[.int .i64 ((rd_T45 l0 x36_2).f0), .int .i64 ((rd_T45 l0 x36_2).f1), .bool ((rd_T45 l0 x36_2).f2.f0), .int .i64 ((rd_T45 l0 x36_2).f2.f1), .int .i64 ((rd_T45 l0 x36_2).f2.f2), .int .i64 ((rd_T45 l0 x36_2).f2.f3), .int .i64 ((rd_T45 l0 x36_2).f2.f4), .int .i64 ((rd_T45 l0 x36_2).f2.f5), .int .i64 ((rd_T45 l0 x36_2).f3.f0), .int .i64 ((rd_T45 l0 x36_2).f3.f1), .int .i64 0, .int .i64 0]) ?_ 10 _ rfl; (with_reducible repeat (first | refine YF ?_ _ | refine YG ?_ | refine YH ?_ _)); refine blk_put (cs := #[.int .i64 ((rd_T45 l0 x36_2).f0), .int .i64 ((rd_T45 l0 x36_2).f1), .bool ((rd_T45 l0 x36_2).f2.f0), .int .i64 ((rd_T45 l0 x36_2).f2.f1), .int .i64 ((rd_T45 l0 x36_2).f2.f2), .int .i64 ((rd_T45 l0 x36_2).f2.f3), .int .i64 ((rd_T45 l0 x36_2).f2.f4), .int .i64 ((rd_T45 l0 x36_2).f2.f5), .int .i64 ((rd_T45 l0 x36_2).f3.f0), .int .i64 0, .int .i64 0, .int .i64 0]) ?_ 9 _ rfl; (with_reducible repeat (first | refine YF ?_ _ | refine YG ?_ | refine YH ?_ _)); refine blk_put (cs := #[.int .i64 ((rd_T45 l0 x36_2).f0), .int .i64 ((rd_T45 l0 x36_2).f1), .bool ((rd_T45 l0 x36_2).f2.f0), .int .i64 ((rd_T45 l0 x36_2).f2.f1), .int .i64 ((rd_T45 l0 x36_2).f2.f2), .int .i64 ((rd_T45 l0 x36_2).f2.f3), .int .i64 ((rd_T45 l0 x36_2).f2.f4), .int .i64 ((rd_T45 l0 x36_2).f2.f5), .int .i64 0, .int .i64 0, .int .i64 0, .int .i64 0]) ?_ 8 _ rfl; (with_reducible repeat (first | refine YF ?_ _ | refine YG ?_ | refine YH ?_ _)); refine blk_put (cs := #[.int .i64 ((rd_T45 l0 x36_2).f0), .int .i64 ((rd_T45 l0 x36_2).f1), .bool ((rd_T45 l0 x36_2).f2.f0), .int .i64 ((rd_T45 l0 x36_2).f2.f1), .int .i64 ((rd_T45 l0 x36_2).f2.f2), .int .i64 ((rd_T45 l0 x36_2).f2.f3), .int .i64 ((rd_T45 l0 x36_2).f2.f4), .int .i64 0, .int .i64 0, .int .i64 0, .int .i64 0, .int .i64 0]) ?_ 7 _ rfl; (with_reducible repeat (first | refine YF ?_ _ | refine YG ?_ | refine YH ?_ _)); refine blk_put (cs := #[.int .i64 ((rd_T45 l0 x36_2).f0), .int .i64 ((rd_T45 l0 x36_2).f1), .bool ((rd_T45 l0 x36_2).f2.f0), .int .i64 ((rd_T45 l0 x36_2).f2.f1), .int .i64 ((rd_T45 l0 x36_2).f2.f2), .int .i64 ((rd_T45 l0 x36_2).f2.f3), .int .i64 0, .int .i64 0, .int .i64 0, .int .i64 0, .int .i64 0, .int .i64 0]) ?_ 6 _ rfl; (with_reducible repeat (first | refine YF ?_ _ | refine YG ?_ | refine YH ?_ _)); refine blk_put (cs := #[.int .i64 ((rd_T45 l0 x36_2).f0), .int .i64 ((rd_T45 l0 x36_2).f1), .bool ((rd_T45 l0 x36_2).f2.f0), .int .i64 ((rd_T45 l0 x36_2).f2.f1), .int .i64 ((rd_T45 l0 x36_2).f2.f2), .int .i64 0, .int .i64 0, .int .i64 0, .int .i64 0, .int .i64 0, .int .i64 0, .int .i64 0]) ?_ 5 _ rfl; (with_reducible repeat (first | refine YF ?_ _ | refine YG ?_ | refine YH ?_ _)); refine blk_put (cs := #[.int .i64 ((rd_T45 l0 x36_2).f0), .int .i64 ((rd_T45 l0 x36_2).f1), .bool ((rd_T45 l0 x36_2).f2.f0), .int .i64 ((rd_T45 l0 x36_2).f2.f1), .int .i64 0, .int .i64 0, .int .i64 0, .int .i64 0, .int .i64 0, .int .i64 0, .int .i64 0, .int .i64 0]) ?_ 4 _ rfl; (with_reducible repeat (first | refine YF ?_ _ | refine YG ?_ | refine YH ?_ _)); refine blk_put (cs := #[.int .i64 ((rd_T45 l0 x36_2).f0), .int .i64 ((rd_T45 l0 x36_2).f1), .bool ((rd_T45 l0 x36_2).f2.f0), .int .i64 0, .int .i64 0, .int .i64 0, .int .i64 0, .int .i64 0, .int .i64 0, .int .i64 0, .int .i64 0, .int .i64 0]) ?_ 3 _ rfl; (with_reducible repeat (first | refine YF ?_ _ | refine YG ?_ | refine YH ?_ _)); refine blk_put (cs := #[.int .i64 ((rd_T45 l0 x36_2).f0), .int .i64 ((rd_T45 l0 x36_2).f1), .bool false, .int .i64 0, .int .i64 0, .int .i64 0, .int .i64 0, .int .i64 0, .int .i64 0, .int .i64 0, .int .i64 0, .int .i64 0]) ?_ 2 _ rfl; (with_reducible repeat (first | refine YF ?_ _ | refine YG ?_ | refine YH ?_ _)); refine blk_put (cs := #[.int .i64 ((rd_T45 l0 x36_2).f0), .int .i64 0, .bool false, .int .i64 0, .int .i64 0, .int .i64 0, .int .i64 0, .int .i64 0, .int .i64 0, .int .i64 0, .int .i64 0, .int .i64 0]) ?_ 1 _ rfl; (with_reducible repeat (first | refine YF ?_ _ | refine YG ?_ | refine YH ?_ _)); refine blk_put (cs := #[.int .i64 0, .int .i64 0, .bool false, .int .i64 0, .int .i64 0, .int .i64 0, .int .i64 0, .int .i64 0, .int .i64 0, .int .i64 0, .int .i64 0, .int .i64 0]) ?_ 0 _ rfl; (with_reducible repeat (first | refine YF ?_ _ | refine YG ?_ | refine YH ?_ _)); exact BK358.out) hb); have n4_ := YL (YD (by repeat (first | (with_reducible first | exact HB.out | apply YA | apply YB | apply YC | refine below_set ?_ GE353.out | refine below_set ?_ GE358.out) | exact HB.out)) hb); clear HO_8; clear HO_354001; clear BK353; clear BK358; clear HB; have HO_8 := n0_; have HO_354001 := n1_; have BK353 := n2_; have BK358 := n3_; have HB := n4_; clear n0_ n1_ n2_ n3_ n4_; (try clear hb); (try clear hb2); (try clear hk); (try clear hi); have hcz54_0 : w53.cell? ⟨gb353, 0, none⟩ = some (.int .i64 x354000_2) := (YI BK353.out 0).trans rfl; have hcz54_1 : w53.cell? ⟨gb353, 1, none⟩ = some (u354001) := (YI BK353.out 1).trans rfl; have hfz54_0 := YJ BK353.out 0; have hfz54_1 := YJ BK353.out 1; obtain ⟨Ao56, co56, eo56⟩ := Kd.R_slice HO_354001.out; subst eo56) | ((with_reducible refine gate_builtin (b := .append) (xs := #[.tmp 64, .tmp 66]) rfl ?_); (try (refine gate_guard (by rfl) ?_; dsimp only)); at_builtin; refine Kd.S_append k24 (w0 := w) w.heap.size rfl (.tmp 64) (.tmp 66) 34 24 (.agg #[(.int .i64 0), (.slice none 0 0)]) 32 rfl Try.underlying34 info24 rfl (by decide) (by omega) u8 x8_2 (⟨x354000_2, x354001_2⟩ : S24) [.int .i64 x354000_2, .slice Ao56 x354001_2.length co56] (fun k_ => k_ ≠ gb353 ∧ k_ ≠ gb358) (fun k_ => some k_ = (.slice Ao56 x354001_2.length co56 : Value).ownBlock) rfl rfl ?aP (fun k_ hk_ => ((Kd.R_mono (ok' := fun k_ => ((fun k_ => k_ ≠ gb353 ∧ k_ ≠ gb358)) k_ ∧ some k_ ≠ (u8 : Value).ownBlock) (Kd.R_types (Kd.R_apart' (HO_354001.out) (Kd.S_typed HO_8.out) (by decide)) BK353.out (by decide)) (fun k_ hk => ⟨⟨hk.2, hk.1.1.2⟩, hk.1.2⟩))).1 k_ hk_.symm) ?aF ?aO ?aB ?aS ?aL ?_; (case aP => exact k24_mkM _ _ _ (⟨x354000_2, x354001_2⟩ : S24) (Kd.R_mono (Kd.R_tight rfl (Kd.R_mono (ok' := fun k_ => ((fun k_ => k_ ≠ gb353 ∧ k_ ≠ gb358)) k_ ∧ some k_ ≠ (u8 : Value).ownBlock) (Kd.R_types (Kd.R_apart' (HO_354001.out) (Kd.S_typed HO_8.out) (by decide)) BK353.out (by decide)) (fun k_ hk => ⟨⟨hk.2, hk.1.1.2⟩, hk.1.2⟩))) (fun _ h_ => h_))); (case aB => exact (by repeat (first | (with_reducible first | exact HB.out | apply YA | apply YB | apply YC | refine below_set ?_ GE353.out | refine below_set ?_ GE358.out) | exact HB.out))); (case aF => exact (fun k_ hk => ⟨Kd.freshB (g := gb353) (o := .cells #[.int .i64 x354000_2, .slice Ao56 x354001_2.length co56] 24 (0, 0)) (by (with_reducible repeat (first | refine YF ?_ _ | refine YG ?_ | refine YH ?_ _)); exact BK353.out) k_ hk, Kd.freshB (g := gb358) (o := .cells #[.int .i64 ((rd_T45 l0 x36_2).f0), .int .i64 ((rd_T45 l0 x36_2).f1), .bool ((rd_T45 l0 x36_2).f2.f0), .int .i64 ((rd_T45 l0 x36_2).f2.f1), .int .i64 ((rd_T45 l0 x36_2).f2.f2), .int .i64 ((rd_T45 l0 x36_2).f2.f3), .int .i64 ((rd_T45 l0 x36_2).f2.f4), .int .i64 ((rd_T45 l0 x36_2).f2.f5), .int .i64 ((rd_T45 l0 x36_2).f3.f0), .int .i64 ((rd_T45 l0 x36_2).f3.f1), .int .i64 ((rd_T45 l0 x36_2).f3.f2), .int .i64 ((rd_T45 l0 x36_2).f4)] 45 (0, 0)) (by (with_reducible repeat (first | refine YF ?_ _ | refine YG ?_ | refine YH ?_ _)); exact BK358.out) k_ hk⟩)); (case aO => exact (by (with_reducible repeat (first | apply Kd.S_alloc | apply Kd.S_drewN | apply Kd.S_drew)); exact Kd.S_mono HO_8.out (fun k_ hk => ⟨⟨hk.1.2, hk.2⟩, fun e_ => hk.1.1 e_⟩))); (case aS => exact (YE (by repeat (first | (with_reducible first | exact HB.out | apply YA | apply YB | apply YC | refine below_set ?_ GE353.out | refine below_set ?_ GE358.out) | exact HB.out)))); (case aL => have := LMc48.out; omega); intro v372 w55 ho hb hg hat; rw [← Ny371.out] at ho; have n0_ := YL (blk_grown (g := gb353) (o := .cells #[.int .i64 x354000_2, .slice Ao56 x354001_2.length co56] 24 (0, 0)) (by (with_reducible repeat (first | refine YF ?_ _ | refine YG ?_ | refine YH ?_ _)); exact BK353.out) hg (Kd.S_away HO_8.out (fun _ hk => hk.1.2))); have n1_ := YL (blk_grown (g := gb358) (o := .cells #[.int .i64 ((rd_T45 l0 x36_2).f0), .int .i64 ((rd_T45 l0 x36_2).f1), .bool ((rd_T45 l0 x36_2).f2.f0), .int .i64 ((rd_T45 l0 x36_2).f2.f1), .int .i64 ((rd_T45 l0 x36_2).f2.f2), .int .i64 ((rd_T45 l0 x36_2).f2.f3), .int .i64 ((rd_T45 l0 x36_2).f2.f4), .int .i64 ((rd_T45 l0 x36_2).f2.f5), .int .i64 ((rd_T45 l0 x36_2).f3.f0), .int .i64 ((rd_T45 l0 x36_2).f3.f1), .int .i64 ((rd_T45 l0 x36_2).f3.f2), .int .i64 ((rd_T45 l0 x36_2).f4)] 45 (0, 0)) (by (with_reducible repeat (first | refine YF ?_ _ | refine YG ?_ | refine YH ?_ _)); exact BK358.out) hg (Kd.S_ne HO_8.out BK358.out (by decide))); have n2_ := YL (hb); have n3_ := YL (ho); clear BK353; clear BK358; clear HB; clear HO_8; clear HO_354001; have BK353 := n0_; have BK358 := n1_; have HB := n2_; have HO373 := n3_; clear n0_ n1_ n2_ n3_; clear ho hb hg hat))
            have n0_ := YL (Kd.S_drew HO373.out)
            have n1_ := YL (YG BK353.out)
            have n2_ := YL (YG BK358.out)
            have n3_ := YL (YC HB.out)
            clear HO373; clear BK353; clear BK358; clear HB; have HO373 := n0_; have BK353 := n1_; have BK358 := n2_; have HB := n3_; clear n0_ n1_ n2_ n3_
            refine start_ (n := 7) (S := fun w' => w'.cell? ⟨gb353, 0, none⟩ = some (.int .i64 x354000_2) ∧ w'.cell? ⟨gb353, 1, none⟩ = some (.slice Ao56 x354001_2.length co56) ∧ w'.cell? ⟨gb358, 0, none⟩ = some (.int .i64 ((rd_T45 l0 x36_2).f0)) ∧ w'.cell? ⟨gb358, 1, none⟩ = some (.int .i64 ((rd_T45 l0 x36_2).f1)) ∧ w'.cell? ⟨gb358, 2, none⟩ = some (.bool ((rd_T45 l0 x36_2).f2.f0)) ∧ w'.cell? ⟨gb358, 3, none⟩ = some (.int .i64 ((rd_T45 l0 x36_2).f2.f1)) ∧ w'.cell? ⟨gb358, 4, none⟩ = some (.int .i64 ((rd_T45 l0 x36_2).f2.f2)) ∧ w'.cell? ⟨gb358, 5, none⟩ = some (.int .i64 ((rd_T45 l0 x36_2).f2.f3)) ∧ w'.cell? ⟨gb358, 6, none⟩ = some (.int .i64 ((rd_T45 l0 x36_2).f2.f4)) ∧ w'.cell? ⟨gb358, 7, none⟩ = some (.int .i64 ((rd_T45 l0 x36_2).f2.f5)) ∧ w'.cell? ⟨gb358, 8, none⟩ = some (.int .i64 ((rd_T45 l0 x36_2).f3.f0)) ∧ w'.cell? ⟨gb358, 9, none⟩ = some (.int .i64 ((rd_T45 l0 x36_2).f3.f1)) ∧ w'.cell? ⟨gb358, 10, none⟩ = some (.int .i64 ((rd_T45 l0 x36_2).f3.f2)) ∧ w'.cell? ⟨gb358, 11, none⟩ = some (.int .i64 ((rd_T45 l0 x36_2).f4))) (ds := [6]) #[false, false, false, false, false, false, false] (by kernel_rfl) rfl rfl ⟨(YI BK353.out 0).trans rfl, (YI BK353.out 1).trans rfl, (YI BK358.out 0).trans rfl, (YI BK358.out 1).trans rfl, (YI BK358.out 2).trans rfl, (YI BK358.out 3).trans rfl, (YI BK358.out 4).trans rfl, (YI BK358.out 5).trans rfl, (YI BK358.out 6).trans rfl, (YI BK358.out 7).trans rfl, (YI BK358.out 8).trans rfl, (YI BK358.out 9).trans rfl, (YI BK358.out 10).trans rfl, (YI BK358.out 11).trans rfl⟩ (fun hHeld => ?_)
            generalize w55.drew = w57 at HO373 BK353 BK358 HB hHeld ⊢
            refine pure_ (i := 0) (N := some 68) (v := ?_) (a' := ?_) #[true, false, false, false, false, false, false] rfl rfl (by kernel_rfl) (fun _ _ _ h => h) (Or.inl ⟨by rfl, ?_⟩) ?_ ?_
            rotate_left
            · intro w'
              go_simp; with_reducible rfl
            rotate_left
            · simp only [Act.put, YM, YN, YO, i64_w, i32_w]
              rfl
            refine take_ (i := 1) (N := some 69) (v := ?_) (a' := ?_) #[true, true, false, false, false, false, false] rfl rfl (by kernel_rfl) (fun _ _ _ h => h) (Or.inl ⟨by rfl, ?_⟩) hHeld ?_ ?_
            rotate_left
            · rintro w' ⟨s0, s1, s2, s3, s4, s5, s6, s7, s8, s9, s10, s11, s12, s13⟩
              go_simp; with_reducible rfl
            rotate_left
            · simp only [Act.put, YM, YN, YO, i64_w, i32_w]
              rfl
            refine take_ (i := 3) (N := some 71) (v := ?_) (a' := ?_) #[true, true, false, true, false, false, false] rfl rfl (by kernel_rfl) (fun _ _ _ h => h) (Or.inl ⟨by rfl, ?_⟩) hHeld ?_ ?_
            rotate_left
            · rintro w' ⟨s0, s1, s2, s3, s4, s5, s6, s7, s8, s9, s10, s11, s12, s13⟩
              go_simp; with_reducible rfl
            rotate_left
            · simp only [Act.put, YM, YN, YO, i64_w, i32_w]
              rfl
            refine join_ (σ := Value) 2 #[true, true, true, true, true, false, false] (fun s_ => [(70, .int .i64 t374), (72, s_)]) (fun s_ w' => (w'.cell? ⟨gb353, 0, none⟩ = some (.int .i64 x354000_2) ∧ w'.cell? ⟨gb353, 1, none⟩ = some (.slice Ao56 x354001_2.length co56) ∧ w'.cell? ⟨gb358, 0, none⟩ = some (.int .i64 ((rd_T45 l0 x36_2).f0)) ∧ w'.cell? ⟨gb358, 1, none⟩ = some (.int .i64 ((rd_T45 l0 x36_2).f1)) ∧ w'.cell? ⟨gb358, 2, none⟩ = some (.bool ((rd_T45 l0 x36_2).f2.f0)) ∧ w'.cell? ⟨gb358, 3, none⟩ = some (.int .i64 ((rd_T45 l0 x36_2).f2.f1)) ∧ w'.cell? ⟨gb358, 4, none⟩ = some (.int .i64 ((rd_T45 l0 x36_2).f2.f2)) ∧ w'.cell? ⟨gb358, 5, none⟩ = some (.int .i64 ((rd_T45 l0 x36_2).f2.f3)) ∧ w'.cell? ⟨gb358, 6, none⟩ = some (.int .i64 ((rd_T45 l0 x36_2).f2.f4)) ∧ w'.cell? ⟨gb358, 7, none⟩ = some (.int .i64 ((rd_T45 l0 x36_2).f2.f5)) ∧ w'.cell? ⟨gb358, 8, none⟩ = some (.int .i64 ((rd_T45 l0 x36_2).f3.f0)) ∧ w'.cell? ⟨gb358, 9, none⟩ = some (.int .i64 ((rd_T45 l0 x36_2).f3.f1)) ∧ w'.cell? ⟨gb358, 10, none⟩ = some (.int .i64 ((rd_T45 l0 x36_2).f3.f2)) ∧ w'.cell? ⟨gb358, 11, none⟩ = some (.int .i64 ((rd_T45 l0 x36_2).f4))) ∧ (Kd.S k24 24 w' w.heap.size (fun k_ => some k_ ≠ (s_ : Value).ownBlock ∧ k_ ≠ gb353 ∧ k_ ≠ gb358) v372 y371) ∧ (Kd.R k45 45 w' w.heap.size (fun k_ => k_ ≠ gb358) s_ y375) ∧ (w'.heap[gb353]? = some (.cells #[.int .i64 x354000_2, .slice Ao56 x354001_2.length co56] 24 (0, 0))) ∧ (w'.heap[gb358]? = some (.cells #[.int .i64 ((rd_T45 l0 x36_2).f0), .int .i64 ((rd_T45 l0 x36_2).f1), .bool ((rd_T45 l0 x36_2).f2.f0), .int .i64 ((rd_T45 l0 x36_2).f2.f1), .int .i64 ((rd_T45 l0 x36_2).f2.f2), .int .i64 ((rd_T45 l0 x36_2).f2.f3), .int .i64 ((rd_T45 l0 x36_2).f2.f4), .int .i64 ((rd_T45 l0 x36_2).f2.f5), .int .i64 ((rd_T45 l0 x36_2).f3.f0), .int .i64 ((rd_T45 l0 x36_2).f3.f1), .int .i64 ((rd_T45 l0 x36_2).f3.f2), .int .i64 ((rd_T45 l0 x36_2).f4)] 45 (0, 0))) ∧ (Below w.heap.size w w')) ?_ ?_
            rotate_left
            · intro hCont
              refine two_ (i := 2) (j := 4) (Ni := some 70) (Nj := some 72) #[true, true, true, true, false, false, false] #[true, true, false, true, true, false, false] rfl rfl rfl rfl (by kernel_rfl) (by decide) (by decide) (fun K hK => ?_) (fun K hK => ?_)
              · skip
                refine goes_ Try.func20 (by kernel_rfl) rfl #[.int .i64 x354000_2] (by rfl) rfl rfl (by (try simp only [YP, List.map_cons, List.map_nil]); first | done | rfl | (simp only [YR, YQ]; rfl)) ?_
                with_reducible refine (serial_Next.calls x354000_2 t374 _ A49.out).mono ?_
                rintro e w' ⟨rfl, ⟨nd, rfl⟩⟩
                refine ⟨_, rfl, ?_⟩
                refine hK.out _ _ ⟨(YI BK353.out 0).trans rfl, (YI BK353.out 1).trans rfl, (YI BK358.out 0).trans rfl, (YI BK358.out 1).trans rfl, (YI BK358.out 2).trans rfl, (YI BK358.out 3).trans rfl, (YI BK358.out 4).trans rfl, (YI BK358.out 5).trans rfl, (YI BK358.out 6).trans rfl, (YI BK358.out 7).trans rfl, (YI BK358.out 8).trans rfl, (YI BK358.out 9).trans rfl, (YI BK358.out 10).trans rfl, (YI BK358.out 11).trans rfl⟩ (fun hHeld => ?_)
                clear hK K
                refine norm_ (a' := ?_) ?_ ?_
                rotate_left
                · show Act.put _ (some 70) _ = _
                  simp only [Act.put, YM, YN, YO, i64_w, i32_w]
                  rfl
                refine one_ (i := 4) (N := some 72) #[true, true, true, true, true, false, false] rfl rfl (by kernel_rfl) (by decide) (fun K hK => ?_)
                refine Kd.R_lit_step k45 _ 45 ?hg (N := 72) ?hd (xs := ([(⟨(rd_T45 l0 x36_2).f0, (rd_T45 l0 x36_2).f1, (⟨(rd_T45 l0 x36_2).f2.f0, (rd_T45 l0 x36_2).f2.f1, (rd_T45 l0 x36_2).f2.f2, (rd_T45 l0 x36_2).f2.f3, (rd_T45 l0 x36_2).f2.f4, (rd_T45 l0 x36_2).f2.f5⟩ : S41), (⟨(rd_T45 l0 x36_2).f3.f0, (rd_T45 l0 x36_2).f3.f1, (rd_T45 l0 x36_2).f3.f2⟩ : S43), (rd_T45 l0 x36_2).f4⟩ : S45)] : List (S45))) (inner := [.int .i64 ((rd_T45 l0 x36_2).f0), .int .i64 ((rd_T45 l0 x36_2).f1), .bool ((rd_T45 l0 x36_2).f2.f0), .int .i64 ((rd_T45 l0 x36_2).f2.f1), .int .i64 ((rd_T45 l0 x36_2).f2.f2), .int .i64 ((rd_T45 l0 x36_2).f2.f3), .int .i64 ((rd_T45 l0 x36_2).f2.f4), .int .i64 ((rd_T45 l0 x36_2).f2.f5), .int .i64 ((rd_T45 l0 x36_2).f3.f0), .int .i64 ((rd_T45 l0 x36_2).f3.f1), .int .i64 ((rd_T45 l0 x36_2).f3.f2), .int .i64 ((rd_T45 l0 x36_2).f4)]) (ok := fun _ => True) (okp := fun _ => True) ?hr ?hp (fun _ hk => hk) trivial (Below.refl _ _) (Nat.le_refl _) (by simp) ?_; (case hd => rfl); (case hg => rfl); (case hr => first | (go_simp; done) | (go_simp; rfl)); (case hp => exact (Reps.front (show Kd.M k45 _ _ _ (⟨(rd_T45 l0 x36_2).f0, (rd_T45 l0 x36_2).f1, (⟨(rd_T45 l0 x36_2).f2.f0, (rd_T45 l0 x36_2).f2.f1, (rd_T45 l0 x36_2).f2.f2, (rd_T45 l0 x36_2).f2.f3, (rd_T45 l0 x36_2).f2.f4, (rd_T45 l0 x36_2).f2.f5⟩ : S41), (⟨(rd_T45 l0 x36_2).f3.f0, (rd_T45 l0 x36_2).f3.f1, (rd_T45 l0 x36_2).f3.f2⟩ : S43), (rd_T45 l0 x36_2).f4⟩ : S45) [.int .i64 ((rd_T45 l0 x36_2).f0), .int .i64 ((rd_T45 l0 x36_2).f1), .bool ((rd_T45 l0 x36_2).f2.f0), .int .i64 ((rd_T45 l0 x36_2).f2.f1), .int .i64 ((rd_T45 l0 x36_2).f2.f2), .int .i64 ((rd_T45 l0 x36_2).f2.f3), .int .i64 ((rd_T45 l0 x36_2).f2.f4), .int .i64 ((rd_T45 l0 x36_2).f2.f5), .int .i64 ((rd_T45 l0 x36_2).f3.f0), .int .i64 ((rd_T45 l0 x36_2).f3.f1), .int .i64 ((rd_T45 l0 x36_2).f3.f2), .int .i64 ((rd_T45 l0 x36_2).f4)] from (k45_mkM _ _ _ (⟨(rd_T45 l0 x36_2).f0, (rd_T45 l0 x36_2).f1, (⟨(rd_T45 l0 x36_2).f2.f0, (rd_T45 l0 x36_2).f2.f1, (rd_T45 l0 x36_2).f2.f2, (rd_T45 l0 x36_2).f2.f3, (rd_T45 l0 x36_2).f2.f4, (rd_T45 l0 x36_2).f2.f5⟩ : S41), (⟨(rd_T45 l0 x36_2).f3.f0, (rd_T45 l0 x36_2).f3.f1, (rd_T45 l0 x36_2).f3.f2⟩ : S43), (rd_T45 l0 x36_2).f4⟩ : S45) )) rfl (Reps.none _ _) rfl))
                intro v376 w58 ho59 hb hg_ hnew_
                clear hg_ hnew_
                (first | rw [← Ny375.out] at ho59 | (simp only [Int.reduceToNat] at ho59; rw [← Ny375.out] at ho59))
                have n0_ := YL (Kd.S_elder' (by (with_reducible repeat (first | apply Kd.S_alloc | apply Kd.S_drewN | apply Kd.S_drew)); exact HO373.out) (Kd.R_base ho59) hb)
                have n1_ := YL (Kd.R_lower (Kd.R_newB ho59 (g := gb358) (o := .cells #[.int .i64 ((rd_T45 l0 x36_2).f0), .int .i64 ((rd_T45 l0 x36_2).f1), .bool ((rd_T45 l0 x36_2).f2.f0), .int .i64 ((rd_T45 l0 x36_2).f2.f1), .int .i64 ((rd_T45 l0 x36_2).f2.f2), .int .i64 ((rd_T45 l0 x36_2).f2.f3), .int .i64 ((rd_T45 l0 x36_2).f2.f4), .int .i64 ((rd_T45 l0 x36_2).f2.f5), .int .i64 ((rd_T45 l0 x36_2).f3.f0), .int .i64 ((rd_T45 l0 x36_2).f3.f1), .int .i64 ((rd_T45 l0 x36_2).f3.f2), .int .i64 ((rd_T45 l0 x36_2).f4)] 45 (0, 0)) (by (with_reducible repeat (first | refine YF ?_ _ | refine YG ?_ | refine YH ?_ _)); exact BK358.out)) (YE (by repeat (first | (with_reducible first | exact HB.out | apply YA | apply YB | apply YC | refine below_set ?_ GE353.out | refine below_set ?_ GE358.out) | exact HB.out))))
                have n2_ := YL (YK (g := gb353) (o := .cells #[.int .i64 x354000_2, .slice Ao56 x354001_2.length co56] 24 (0, 0)) (by (with_reducible repeat (first | refine YF ?_ _ | refine YG ?_ | refine YH ?_ _)); exact BK353.out) hb)
                have n3_ := YL (YK (g := gb358) (o := .cells #[.int .i64 ((rd_T45 l0 x36_2).f0), .int .i64 ((rd_T45 l0 x36_2).f1), .bool ((rd_T45 l0 x36_2).f2.f0), .int .i64 ((rd_T45 l0 x36_2).f2.f1), .int .i64 ((rd_T45 l0 x36_2).f2.f2), .int .i64 ((rd_T45 l0 x36_2).f2.f3), .int .i64 ((rd_T45 l0 x36_2).f2.f4), .int .i64 ((rd_T45 l0 x36_2).f2.f5), .int .i64 ((rd_T45 l0 x36_2).f3.f0), .int .i64 ((rd_T45 l0 x36_2).f3.f1), .int .i64 ((rd_T45 l0 x36_2).f3.f2), .int .i64 ((rd_T45 l0 x36_2).f4)] 45 (0, 0)) (by (with_reducible repeat (first | refine YF ?_ _ | refine YG ?_ | refine YH ?_ _)); exact BK358.out) hb)
                have n4_ := YL (YD (by repeat (first | (with_reducible first | exact HB.out | apply YA | apply YB | apply YC | refine below_set ?_ GE353.out | refine below_set ?_ GE358.out) | exact HB.out)) hb)
                clear HO373; clear BK353; clear BK358; clear HB; have HO373 := n0_; have HO377 := n1_; have BK353 := n2_; have BK358 := n3_; have HB := n4_; clear n0_ n1_ n2_ n3_ n4_; clear hb ho59
                obtain ⟨Ao60, co60, eo60⟩ := Kd.R_slice HO377.out
                (first | subst eo60 | (injection eo60 with f1_ f2_ f3_; have f4_ := f1_.symm; have f5_ := f3_.symm; clear f1_ f2_ f3_; subst f4_; subst f5_))
                refine hK.out _ _ ⟨(YI BK353.out 0).trans rfl, (YI BK353.out 1).trans rfl, (YI BK358.out 0).trans rfl, (YI BK358.out 1).trans rfl, (YI BK358.out 2).trans rfl, (YI BK358.out 3).trans rfl, (YI BK358.out 4).trans rfl, (YI BK358.out 5).trans rfl, (YI BK358.out 6).trans rfl, (YI BK358.out 7).trans rfl, (YI BK358.out 8).trans rfl, (YI BK358.out 9).trans rfl, (YI BK358.out 10).trans rfl, (YI BK358.out 11).trans rfl⟩ (fun hHeld => ?_)
                clear hK K
                refine norm_ (a' := ?_) ?_ ?_
                rotate_left
                · show Act.put _ (some 72) _ = _
                  simp only [Act.put, YM, YN, YO, i64_w, i32_w]
                  rfl
                exact norm_ (by simp only [putAll, Act.put, YM, YN, YO]) (hCont (.slice Ao60 y375.length co60) _ ⟨hHeld, (by (with_reducible repeat (first | apply Kd.S_alloc | apply Kd.S_drewN | apply Kd.S_drew)); exact Kd.S_mono HO373.out (fun _ hk => by first | exact ⟨hk.2, ⟨hk.1.1, hk.1.2⟩⟩ | exact trivial | (simp [hk]; done) | simp_all)), (by (with_reducible repeat (first | apply YS | apply YT | apply YU)); exact Kd.R_mono HO377.out (fun _ hk => by first | exact hk.2 | exact trivial | (simp [hk]; done) | simp_all)), (by (with_reducible repeat (first | refine YF ?_ _ | refine YG ?_ | refine YH ?_ _)); exact BK353.out), (by (with_reducible repeat (first | refine YF ?_ _ | refine YG ?_ | refine YH ?_ _)); exact BK358.out), (by repeat (first | (with_reducible first | exact HB.out | apply YA | apply YB | apply YC | refine below_set ?_ GE353.out | refine below_set ?_ GE358.out) | exact HB.out))⟩)
              skip
              refine Kd.R_lit_step k45 _ 45 ?hg (N := 72) ?hd (xs := ([(⟨(rd_T45 l0 x36_2).f0, (rd_T45 l0 x36_2).f1, (⟨(rd_T45 l0 x36_2).f2.f0, (rd_T45 l0 x36_2).f2.f1, (rd_T45 l0 x36_2).f2.f2, (rd_T45 l0 x36_2).f2.f3, (rd_T45 l0 x36_2).f2.f4, (rd_T45 l0 x36_2).f2.f5⟩ : S41), (⟨(rd_T45 l0 x36_2).f3.f0, (rd_T45 l0 x36_2).f3.f1, (rd_T45 l0 x36_2).f3.f2⟩ : S43), (rd_T45 l0 x36_2).f4⟩ : S45)] : List (S45))) (inner := [.int .i64 ((rd_T45 l0 x36_2).f0), .int .i64 ((rd_T45 l0 x36_2).f1), .bool ((rd_T45 l0 x36_2).f2.f0), .int .i64 ((rd_T45 l0 x36_2).f2.f1), .int .i64 ((rd_T45 l0 x36_2).f2.f2), .int .i64 ((rd_T45 l0 x36_2).f2.f3), .int .i64 ((rd_T45 l0 x36_2).f2.f4), .int .i64 ((rd_T45 l0 x36_2).f2.f5), .int .i64 ((rd_T45 l0 x36_2).f3.f0), .int .i64 ((rd_T45 l0 x36_2).f3.f1), .int .i64 ((rd_T45 l0 x36_2).f3.f2), .int .i64 ((rd_T45 l0 x36_2).f4)]) (ok := fun _ => True) (okp := fun _ => True) ?hr ?hp (fun _ hk => hk) trivial (Below.refl _ _) (Nat.le_refl _) (by simp) ?_; (case hd => rfl); (case hg => rfl); (case hr => first | (go_simp; done) | (go_simp; rfl)); (case hp => exact (Reps.front (show Kd.M k45 _ _ _ (⟨(rd_T45 l0 x36_2).f0, (rd_T45 l0 x36_2).f1, (⟨(rd_T45 l0 x36_2).f2.f0, (rd_T45 l0 x36_2).f2.f1, (rd_T45 l0 x36_2).f2.f2, (rd_T45 l0 x36_2).f2.f3, (rd_T45 l0 x36_2).f2.f4, (rd_T45 l0 x36_2).f2.f5⟩ : S41), (⟨(rd_T45 l0 x36_2).f3.f0, (rd_T45 l0 x36_2).f3.f1, (rd_T45 l0 x36_2).f3.f2⟩ : S43), (rd_T45 l0 x36_2).f4⟩ : S45) [.int .i64 ((rd_T45 l0 x36_2).f0), .int .i64 ((rd_T45 l0 x36_2).f1), .bool ((rd_T45 l0 x36_2).f2.f0), .int .i64 ((rd_T45 l0 x36_2).f2.f1), .int .i64 ((rd_T45 l0 x36_2).f2.f2), .int .i64 ((rd_T45 l0 x36_2).f2.f3), .int .i64 ((rd_T45 l0 x36_2).f2.f4), .int .i64 ((rd_T45 l0 x36_2).f2.f5), .int .i64 ((rd_T45 l0 x36_2).f3.f0), .int .i64 ((rd_T45 l0 x36_2).f3.f1), .int .i64 ((rd_T45 l0 x36_2).f3.f2), .int .i64 ((rd_T45 l0 x36_2).f4)] from (k45_mkM _ _ _ (⟨(rd_T45 l0 x36_2).f0, (rd_T45 l0 x36_2).f1, (⟨(rd_T45 l0 x36_2).f2.f0, (rd_T45 l0 x36_2).f2.f1, (rd_T45 l0 x36_2).f2.f2, (rd_T45 l0 x36_2).f2.f3, (rd_T45 l0 x36_2).f2.f4, (rd_T45 l0 x36_2).f2.f5⟩ : S41), (⟨(rd_T45 l0 x36_2).f3.f0, (rd_T45 l0 x36_2).f3.f1, (rd_T45 l0 x36_2).f3.f2⟩ : S43), (rd_T45 l0 x36_2).f4⟩ : S45) )) rfl (Reps.none _ _) rfl))
              intro v376 w58 ho59 hb hg_ hnew_
              clear hg_ hnew_
              (first | rw [← Ny375.out] at ho59 | (simp only [Int.reduceToNat] at ho59; rw [← Ny375.out] at ho59))
              have n0_ := YL (Kd.S_elder' (by (with_reducible repeat (first | apply Kd.S_alloc | apply Kd.S_drewN | apply Kd.S_drew)); exact HO373.out) (Kd.R_base ho59) hb)
              have n1_ := YL (Kd.R_lower (Kd.R_newB ho59 (g := gb358) (o := .cells #[.int .i64 ((rd_T45 l0 x36_2).f0), .int .i64 ((rd_T45 l0 x36_2).f1), .bool ((rd_T45 l0 x36_2).f2.f0), .int .i64 ((rd_T45 l0 x36_2).f2.f1), .int .i64 ((rd_T45 l0 x36_2).f2.f2), .int .i64 ((rd_T45 l0 x36_2).f2.f3), .int .i64 ((rd_T45 l0 x36_2).f2.f4), .int .i64 ((rd_T45 l0 x36_2).f2.f5), .int .i64 ((rd_T45 l0 x36_2).f3.f0), .int .i64 ((rd_T45 l0 x36_2).f3.f1), .int .i64 ((rd_T45 l0 x36_2).f3.f2), .int .i64 ((rd_T45 l0 x36_2).f4)] 45 (0, 0)) (by (with_reducible repeat (first | refine YF ?_ _ | refine YG ?_ | refine YH ?_ _)); exact BK358.out)) (YE (by repeat (first | (with_reducible first | exact HB.out | apply YA | apply YB | apply YC | refine below_set ?_ GE353.out | refine below_set ?_ GE358.out) | exact HB.out))))
              have n2_ := YL (YK (g := gb353) (o := .cells #[.int .i64 x354000_2, .slice Ao56 x354001_2.length co56] 24 (0, 0)) (by (with_reducible repeat (first | refine YF ?_ _ | refine YG ?_ | refine YH ?_ _)); exact BK353.out) hb)
              have n3_ := YL (YK (g := gb358) (o := .cells #[.int .i64 ((rd_T45 l0 x36_2).f0), .int .i64 ((rd_T45 l0 x36_2).f1), .bool ((rd_T45 l0 x36_2).f2.f0), .int .i64 ((rd_T45 l0 x36_2).f2.f1), .int .i64 ((rd_T45 l0 x36_2).f2.f2), .int .i64 ((rd_T45 l0 x36_2).f2.f3), .int .i64 ((rd_T45 l0 x36_2).f2.f4), .int .i64 ((rd_T45 l0 x36_2).f2.f5), .int .i64 ((rd_T45 l0 x36_2).f3.f0), .int .i64 ((rd_T45 l0 x36_2).f3.f1), .int .i64 ((rd_T45 l0 x36_2).f3.f2), .int .i64 ((rd_T45 l0 x36_2).f4)] 45 (0, 0)) (by (with_reducible repeat (first | refine YF ?_ _ | refine YG ?_ | refine YH ?_ _)); exact BK358.out) hb)
              have n4_ := YL (YD (by repeat (first | (with_reducible first | exact HB.out | apply YA | apply YB | apply YC | refine below_set ?_ GE353.out | refine below_set ?_ GE358.out) | exact HB.out)) hb)
              clear HO373; clear BK353; clear BK358; clear HB; have HO373 := n0_; have HO377 := n1_; have BK353 := n2_; have BK358 := n3_; have HB := n4_; clear n0_ n1_ n2_ n3_ n4_; clear hb ho59
              refine hK.out _ _ ⟨(YI BK353.out 0).trans rfl, (YI BK353.out 1).trans rfl, (YI BK358.out 0).trans rfl, (YI BK358.out 1).trans rfl, (YI BK358.out 2).trans rfl, (YI BK358.out 3).trans rfl, (YI BK358.out 4).trans rfl, (YI BK358.out 5).trans rfl, (YI BK358.out 6).trans rfl, (YI BK358.out 7).trans rfl, (YI BK358.out 8).trans rfl, (YI BK358.out 9).trans rfl, (YI BK358.out 10).trans rfl, (YI BK358.out 11).trans rfl⟩ (fun hHeld => ?_)
              clear hK K
              refine norm_ (a' := ?_) ?_ ?_
              rotate_left
              · show Act.put _ (some 72) _ = _
                simp only [Act.put, YM, YN, YO, i64_w, i32_w]
                rfl
              refine one_ (i := 2) (N := some 70) #[true, true, true, true, true, false, false] rfl rfl (by kernel_rfl) (by decide) (fun K hK => ?_)
              refine goes_ Try.func20 (by kernel_rfl) rfl #[.int .i64 x354000_2] (by rfl) rfl rfl (by (try simp only [YP, List.map_cons, List.map_nil]); first | done | rfl | (simp only [YR, YQ]; rfl)) ?_
              with_reducible refine (serial_Next.calls x354000_2 t374 _ A49.out).mono ?_
              rintro e w' ⟨rfl, ⟨nd, rfl⟩⟩
              refine ⟨_, rfl, ?_⟩
              obtain ⟨Ao60, co60, eo60⟩ := Kd.R_slice HO377.out
              (first | subst eo60 | (injection eo60 with f1_ f2_ f3_; have f4_ := f1_.symm; have f5_ := f3_.symm; clear f1_ f2_ f3_; subst f4_; subst f5_))
              refine hK.out _ _ ⟨(YI BK353.out 0).trans rfl, (YI BK353.out 1).trans rfl, (YI BK358.out 0).trans rfl, (YI BK358.out 1).trans rfl, (YI BK358.out 2).trans rfl, (YI BK358.out 3).trans rfl, (YI BK358.out 4).trans rfl, (YI BK358.out 5).trans rfl, (YI BK358.out 6).trans rfl, (YI BK358.out 7).trans rfl, (YI BK358.out 8).trans rfl, (YI BK358.out 9).trans rfl, (YI BK358.out 10).trans rfl, (YI BK358.out 11).trans rfl⟩ (fun hHeld => ?_)
              clear hK K
              refine norm_ (a' := ?_) ?_ ?_
              rotate_left
              · show Act.put _ (some 70) _ = _
                simp only [Act.put, YM, YN, YO, i64_w, i32_w]
                rfl
              exact norm_ (by simp only [putAll, Act.put, YM, YN, YO]) (hCont (.slice Ao60 y375.length co60) _ ⟨hHeld, (by (with_reducible repeat (first | apply Kd.S_alloc | apply Kd.S_drewN | apply Kd.S_drew)); exact Kd.S_mono HO373.out (fun _ hk => by first | exact ⟨hk.2, ⟨hk.1.1, hk.1.2⟩⟩ | exact trivial | (simp [hk]; done) | simp_all)), (by (with_reducible repeat (first | apply YS | apply YT | apply YU)); exact Kd.R_mono HO377.out (fun _ hk => by first | exact hk.2 | exact trivial | (simp [hk]; done) | simp_all)), (by (with_reducible repeat (first | refine YF ?_ _ | refine YG ?_ | refine YH ?_ _)); exact BK353.out), (by (with_reducible repeat (first | refine YF ?_ _ | refine YG ?_ | refine YH ?_ _)); exact BK358.out), (by repeat (first | (with_reducible first | exact HB.out | apply YA | apply YB | apply YC | refine below_set ?_ GE353.out | refine below_set ?_ GE358.out) | exact HB.out))⟩)
            rintro v376 w61 ⟨hS_, h0_, h1_, h2_, h3_, h4_⟩
            have n0_ : Aside0 (Kd.S k24 24 w61 w.heap.size (fun k_ => some k_ ≠ (v376 : Value).ownBlock ∧ k_ ≠ gb353 ∧ k_ ≠ gb358) v372 y371) := ⟨h0_⟩
            have n1_ : Aside0 (Kd.R k45 45 w61 w.heap.size (fun k_ => k_ ≠ gb358) v376 y375) := ⟨h1_⟩
            have n2_ : Aside0 (w61.heap[gb353]? = some (.cells #[.int .i64 x354000_2, .slice Ao56 x354001_2.length co56] 24 (0, 0))) := ⟨h2_⟩
            have n3_ : Aside0 (w61.heap[gb358]? = some (.cells #[.int .i64 ((rd_T45 l0 x36_2).f0), .int .i64 ((rd_T45 l0 x36_2).f1), .bool ((rd_T45 l0 x36_2).f2.f0), .int .i64 ((rd_T45 l0 x36_2).f2.f1), .int .i64 ((rd_T45 l0 x36_2).f2.f2), .int .i64 ((rd_T45 l0 x36_2).f2.f3), .int .i64 ((rd_T45 l0 x36_2).f2.f4), .int .i64 ((rd_T45 l0 x36_2).f2.f5), .int .i64 ((rd_T45 l0 x36_2).f3.f0), .int .i64 ((rd_T45 l0 x36_2).f3.f1), .int .i64 ((rd_T45 l0 x36_2).f3.f2), .int .i64 ((rd_T45 l0 x36_2).f4)] 45 (0, 0))) := ⟨h3_⟩
            have n4_ : Aside0 (Below w.heap.size w w61) := ⟨h4_⟩
            clear HO373; clear BK353; clear BK358; clear HB; clear h0_ h1_ h2_ h3_ h4_; have HO373 := n0_; have HO377 := n1_; have BK353 := n2_; have BK358 := n3_; have HB := n4_; clear n0_ n1_ n2_ n3_ n4_
            have hHeld : w61.cell? ⟨gb353, 0, none⟩ = some (.int .i64 x354000_2) ∧ w61.cell? ⟨gb353, 1, none⟩ = some (.slice Ao56 x354001_2.length co56) ∧ w61.cell? ⟨gb358, 0, none⟩ = some (.int .i64 ((rd_T45 l0 x36_2).f0)) ∧ w61.cell? ⟨gb358, 1, none⟩ = some (.int .i64 ((rd_T45 l0 x36_2).f1)) ∧ w61.cell? ⟨gb358, 2, none⟩ = some (.bool ((rd_T45 l0 x36_2).f2.f0)) ∧ w61.cell? ⟨gb358, 3, none⟩ = some (.int .i64 ((rd_T45 l0 x36_2).f2.f1)) ∧ w61.cell? ⟨gb358, 4, none⟩ = some (.int .i64 ((rd_T45 l0 x36_2).f2.f2)) ∧ w61.cell? ⟨gb358, 5, none⟩ = some (.int .i64 ((rd_T45 l0 x36_2).f2.f3)) ∧ w61.cell? ⟨gb358, 6, none⟩ = some (.int .i64 ((rd_T45 l0 x36_2).f2.f4)) ∧ w61.cell? ⟨gb358, 7, none⟩ = some (.int .i64 ((rd_T45 l0 x36_2).f2.f5)) ∧ w61.cell? ⟨gb358, 8, none⟩ = some (.int .i64 ((rd_T45 l0 x36_2).f3.f0)) ∧ w61.cell? ⟨gb358, 9, none⟩ = some (.int .i64 ((rd_T45 l0 x36_2).f3.f1)) ∧ w61.cell? ⟨gb358, 10, none⟩ = some (.int .i64 ((rd_T45 l0 x36_2).f3.f2)) ∧ w61.cell? ⟨gb358, 11, none⟩ = some (.int .i64 ((rd_T45 l0 x36_2).f4)) := hS_
            obtain ⟨Ao62, co62, eo62⟩ := Kd.R_slice HO377.out
            (first | subst eo62 | (injection eo62 with f1_ f2_ f3_; have f4_ := f1_.symm; have f5_ := f3_.symm; clear f1_ f2_ f3_; subst f4_; subst f5_))
            refine norm_ (a' := ?_) ?_ ?_
            rotate_left
            · simp only [putAll, Act.put, YM, YN, YO]
              rfl
            refine pure_ (i := 5) (N := some 73) (v := ?_) (a' := ?_) #[true, true, true, true, true, true, false] rfl rfl (by kernel_rfl) (fun _ _ _ h => h) (Or.inl ⟨by rfl, ?_⟩) ?_ ?_
            rotate_left
            · intro w'
              go_simp; with_reducible rfl
            rotate_left
            · simp only [Act.put, YM, YN, YO, i64_w, i32_w]
              rfl
            refine last_ (i := 6) (N := none) #[true, true, true, true, true, true, true] rfl rfl (by kernel_rfl) (by decide) (fun K hK => ?_)
            have hs63 : w61.cell? ⟨gb353, 0, none⟩ = some (.int .i64 x354000_2) := (YI BK353.out 0).trans rfl
            have hfs63 := YJ BK353.out 0
            have hns63_1 := NB358_353.out
            have hms63_1 := NB353_358.out
            have hs64 : w61.cell? ⟨gb353, 1, none⟩ = some (.slice Ao56 x354001_2.length co56) := (YI BK353.out 1).trans rfl
            have hfs64 := YJ BK353.out 1
            have hns64_1 := NB358_353.out
            have hms64_1 := NB353_358.out
            refine skip_ (w1 := ?_) (by rfl) rfl ?_ ?_
            rotate_left
            · go_simp
              rfl
            refine hK.out _ _ ?_
            clear hK K
            refine done_ (by kernel_rfl) ?_
            try go_wp2_with (go_step3)
            go_roundg k2
            case measure => have := HJ3.out; have := HK2.out; omega
            case rel => exact ⟨(y371), (wrap64 ((wrap64 (a2 - 3)) - t359)), (wrap64 (x36_2 + 1)), (t374), (y375), (.slice Ao62 y375.length co62), (by first | rfl | (simp; done) | (simp [*]; done)), (by first | rfl | (simp; done) | (simp [*]; done)), H', ⟨by have := HJ3.out; have := HK2.out; omega⟩, ⟨by (with_reducible repeat (first | apply Kd.S_alloc | apply Kd.S_drewN | apply Kd.S_drew)); exact Kd.S_mono (Kd.S_far (p := ⟨gb353, 1, none⟩) (Kd.S_far (p := ⟨gb353, 0, none⟩) (Kd.S_mono HO373.out (fun k_ hk => (⟨hk, hk.2.1⟩ : _ ∧ k_ ≠ gb353))) (fun _ hk => hk.2) (.int .i64 t374)) (fun _ hk => hk.2) (.slice Ao62 y375.length co62)) (fun _ hk => ⟨hk.1.1, hk.1.2.1⟩)⟩, ⟨by (with_reducible repeat (first | apply YS | apply YT | apply YU)); exact Kd.R_mono (Kd.R_far (p := ⟨gb353, 1, none⟩) (Kd.R_far (p := ⟨gb353, 0, none⟩) (Kd.R_types HO377.out BK353.out (by decide)) (fun _ hk => hk.2) (.int .i64 t374)) (fun _ hk => hk.2) (.slice Ao62 y375.length co62)) (fun _ hk => trivial)⟩, ⟨by (with_reducible repeat (first | refine YF ?_ _ | refine YG ?_ | refine YH ?_ _)); refine blk_put (cs := #[.int .i64 t374, .slice Ao56 x354001_2.length co56]) ?_ 1 _ rfl; (with_reducible repeat (first | refine YF ?_ _ | refine YG ?_ | refine YH ?_ _)); refine blk_put (cs := #[.int .i64 x354000_2, .slice Ao56 x354001_2.length co56]) ?_ 0 _ rfl; (with_reducible repeat (first | refine YF ?_ _ | refine YG ?_ | refine YH ?_ _)); exact BK353.out⟩, ⟨by repeat (first | (with_reducible first | exact HB.out | apply YA | apply YB | apply YC | refine below_set ?_ GE353.out | refine below_set ?_ GE358.out) | exact HB.out)⟩⟩
          rw [if_neg c13] at H
          have c13b0 : decide (x36_2 < (l0.length : Int)) = false := decide_eq_false c13
          clear c13
          by_cases c65 : (x354001_2.length : Int) > 0
          · rw [if_pos c65] at H
            have c65b0 : decide (0 < (x354001_2.length : Int)) = true := decide_eq_true c65
            have c65b1 : decide (0 < x354001_2.length) = true := decide_eq_true (by omega)
            clear c65
            by_cases c66 : x8_2.length < 4398046511104
            rotate_left
            · rw [if_neg c66] at H
              exact absurd H (by simp)
            rw [if_pos c66] at H; have LMc66 := YL c66; clear c66
            obtain ⟨y354, hy354⟩ : ∃ y_ : List (S24), y_ = (x8_2 ++ [(⟨x354000_2, x354001_2⟩ : S24)]) := ⟨_, rfl⟩
            replace H : (some (y354, 0)) = some (r1, r2) := by first | (rw [hy354]; with_reducible exact H) | (have H2_ := (Option.bind_some _ _).symm.trans H; rw [hy354]; with_reducible exact H2_) | (have H2_ := (Option.bind_some _ _).symm.trans H; with_reducible exact H2_) | with_reducible exact H | (rw [hy354]; exact H) | exact H
            have Ny354 := YL hy354; clear hy354
            simp only [Option.some.injEq, Prod.mk.injEq] at H
            obtain ⟨rfl, rfl⟩ := H
            have hcz67_0 : wr.cell? ⟨gb353, 0, none⟩ = some (.int .i64 x354000_2) := (YI BK353.out 0).trans rfl
            have hcz67_1 : wr.cell? ⟨gb353, 1, none⟩ = some (u354001) := (YI BK353.out 1).trans rfl
            have hfz67_0 := YJ BK353.out 0
            have hfz67_1 := YJ BK353.out 1
            obtain ⟨Ao68, co68, eo68⟩ := Kd.R_slice HO_354001.out
            subst eo68
            go_wp2_with (first | go_step3 | ((with_reducible refine gate_builtin (b := .append) (xs := #[.tmp 83, .tmp 85]) rfl ?_); (try (refine gate_guard (by rfl) ?_; dsimp only)); at_builtin; refine Kd.S_append k24 (w0 := w) w.heap.size rfl (.tmp 83) (.tmp 85) 34 24 (.agg #[(.int .i64 0), (.slice none 0 0)]) 32 rfl Try.underlying34 info24 rfl (by decide) (by omega) u8 x8_2 (⟨x354000_2, x354001_2⟩ : S24) [.int .i64 x354000_2, .slice Ao68 x354001_2.length co68] (fun k_ => k_ ≠ gb353) (fun k_ => some k_ = (.slice Ao68 x354001_2.length co68 : Value).ownBlock) rfl rfl ?aP (fun k_ hk_ => ((Kd.R_mono (ok' := fun k_ => ((fun k_ => k_ ≠ gb353)) k_ ∧ some k_ ≠ (u8 : Value).ownBlock) (Kd.R_types (Kd.R_apart' (HO_354001.out) (Kd.S_typed HO_8.out) (by decide)) BK353.out (by decide)) (fun k_ hk => ⟨hk.2, hk.1.2⟩))).1 k_ hk_.symm) ?aF ?aO ?aB ?aS ?aL ?_; (case aP => exact k24_mkM _ _ _ (⟨x354000_2, x354001_2⟩ : S24) (Kd.R_mono (Kd.R_tight rfl (Kd.R_mono (ok' := fun k_ => ((fun k_ => k_ ≠ gb353)) k_ ∧ some k_ ≠ (u8 : Value).ownBlock) (Kd.R_types (Kd.R_apart' (HO_354001.out) (Kd.S_typed HO_8.out) (by decide)) BK353.out (by decide)) (fun k_ hk => ⟨hk.2, hk.1.2⟩))) (fun _ h_ => h_))); (case aB => exact (by repeat (first | (with_reducible first | exact HB.out | apply YA | apply YB | apply YC | refine below_set ?_ GE353.out) | exact HB.out))); (case aF => exact (fun k_ hk => Kd.freshB (g := gb353) (o := .cells #[.int .i64 x354000_2, .slice Ao68 x354001_2.length co68] 24 (0, 0)) (by (with_reducible repeat (first | refine YF ?_ _ | refine YG ?_ | refine YH ?_ _)); exact BK353.out) k_ hk)); (case aO => exact (by (with_reducible repeat (first | apply Kd.S_alloc | apply Kd.S_drewN | apply Kd.S_drew)); exact Kd.S_mono HO_8.out (fun k_ hk => ⟨hk.2, fun e_ => hk.1 e_⟩))); (case aS => exact (YE (by repeat (first | (with_reducible first | exact HB.out | apply YA | apply YB | apply YC | refine below_set ?_ GE353.out) | exact HB.out)))); (case aL => have := LMc66.out; omega); intro v355 w69 ho hb hg hat; rw [← Ny354.out] at ho; have n0_ := YL (blk_grown (g := gb353) (o := .cells #[.int .i64 x354000_2, .slice Ao68 x354001_2.length co68] 24 (0, 0)) (by (with_reducible repeat (first | refine YF ?_ _ | refine YG ?_ | refine YH ?_ _)); exact BK353.out) hg (Kd.S_away HO_8.out (fun _ hk => hk.2))); have n1_ := YL (hb); have n2_ := YL (ho); clear BK353; clear HB; clear HO_8; clear HO_354001; have BK353 := n0_; have HB := n1_; have HO356 := n2_; clear n0_ n1_ n2_; clear ho hb hg hat))
            (try simp only [Exit.noGoto_ret])
            go_ret2
            exact ⟨_, by first | rfl | (simp [errW_none, errW_some] <;> rfl) | (simp [*, errW_none, errW_some] <;> rfl), by (with_reducible repeat (first | apply Kd.S_alloc | apply Kd.S_drewN | apply Kd.S_drew)); exact Kd.S_mono HO356.out (fun _ hk => trivial), by repeat (first | (with_reducible first | exact HB.out | apply YA | apply YB | apply YC | refine below_set ?_ GE353.out) | exact HB.out)⟩
          rw [if_neg c65] at H
          have c65b0 : decide (0 < (x354001_2.length : Int)) = false := decide_eq_false c65
          have c65b1 : decide (0 < x354001_2.length) = false := decide_eq_false (by omega)
          clear c65
          simp only [Option.some.injEq, Prod.mk.injEq] at H
          obtain ⟨rfl, rfl⟩ := H
          have hcz70_0 : wr.cell? ⟨gb353, 0, none⟩ = some (.int .i64 x354000_2) := (YI BK353.out 0).trans rfl
          have hcz70_1 : wr.cell? ⟨gb353, 1, none⟩ = some (u354001) := (YI BK353.out 1).trans rfl
          have hfz70_0 := YJ BK353.out 0
          have hfz70_1 := YJ BK353.out 1
          obtain ⟨Ao71, co71, eo71⟩ := Kd.R_slice HO_354001.out
          subst eo71
          go_wp2_with (go_step3)
          (try simp only [Exit.noGoto_ret])
          go_ret2
          exact ⟨_, by first | rfl | (simp [errW_none, errW_some] <;> rfl) | (simp [*, errW_none, errW_some] <;> rfl), by (with_reducible repeat (first | apply Kd.S_alloc | apply Kd.S_drewN | apply Kd.S_drew)); exact Kd.S_mono HO_8.out (fun _ hk => trivial), by repeat (first | (with_reducible first | exact HB.out | apply YA | apply YB | apply YC | refine below_set ?_ GE353.out) | exact HB.out)⟩
end Go.Proofs.Ytfigbjjaffkidaa.P
namespace Go.Proofs.Ytfigbjjaffkidaa.P
open Go.RowKit Go.Proofs.YtfigbjjaffkidaaW.PrintWords Go.Proofs.YtfigbjjaffkidaaW.PrintLast Go.Proofs.YtfigbjjaffkidaaW.PrintMore
open Go.Proofs.YtfigbjjaffkidaaW.PrintWords renaming below_alloc → YA, pw_below_drewN → YB, below_drew1 → YC, below_step → YD, below_size → YE
open Go.Proofs.YtfigbjjaffkidaaW.PrintWords.Aside0 renaming mk → YF
open Go.Proofs.YtfigbjjaffkidaaW.PrintWords.Kd renaming R_alloc → YG, R_drewN → YH, R_drew → YI
attribute [local go_sem] max2_int min2_int max_two min_two max_three min_three max_four min_four   -- for this text's walks alone
def serial_of.l0 : Nat → List Int → List Int → Int → Int → Option (List Int)
  | 0, _, _, _, _ => none
  | k + 1, x3, x9, x10, x11 => if x11 < x10 then (if 0 ≤ x11 then (if x11 < (x9.length : Int) then (if x3.length < 70368744177664 then (serial_of.l0 k (x3 ++ [IntKind.u16.wrap (rd x9 x11)]) x9 x10 (wrap64 (x11 + 1))) else (none)) else (none)) else (none)) else (some x3)
def serial_of.f (k : Nat) (l0 : List Int) : Option (List Int) := if 0 ≤ (l0.length : Int) then (if ((l0.length : Int) : Int).toNat ≤ 140737488355328 then (serial_of.l0 k (([] : List Int)) l0 (l0.length : Int) 0) else (none)) else (none)
theorem serial_of.mono_l : ∀ k, (∀ y0 y1 y2 y3, LeO (serial_of.l0 k y0 y1 y2 y3) (serial_of.l0 (k + 1) y0 y1 y2 y3))
  | 0 => fun _ _ _ _ r h => by simp [serial_of.l0] at h
  | k + 1 => by
    have ih0 := serial_of.mono_l k
    · intro y0 y1 y2 y3
      unfold serial_of.l0
      repeat' first
      | (with_reducible exact ih0 _ _ _ _)
      | (with_reducible exact LeO.refl _)
      | (with_reducible exact LeO.none _)
      | (with_reducible refine LeO.ite ?_ ?_)
      | (with_reducible refine LeO.bind ?_ (fun _ => ?_))
      | exact ih0 _ _ _ _
      | exact LeO.none _
      | refine LeO.ite ?_ ?_
      | refine LeO.bind ?_ (fun _ => ?_)
theorem serial_of.mono : ∀ a0 k, LeO (serial_of.f k a0) (serial_of.f (k + 1) a0) := by
  intro a0 k
  have ih0 := serial_of.mono_l k
  unfold serial_of.f
  repeat' first
      | (with_reducible exact ih0 _ _ _ _)
      | (with_reducible exact LeO.refl _)
      | (with_reducible exact LeO.none _)
      | (with_reducible refine LeO.ite ?_ ?_)
      | (with_reducible refine LeO.bind ?_ (fun _ => ?_))
      | exact ih0 _ _ _ _
      | exact LeO.none _
      | refine LeO.ite ?_ ?_
      | refine LeO.bind ?_ (fun _ => ?_)
set_option maxHeartbeats 8000000 in
set_option maxRecDepth 100000 in
theorem serial_of.calls (k : Nat) (A0 : Option Addr) (c0 : Nat) (l0 : List Int) (r : List Int) (w : World) (hr0 : Kd.C (Kd.int .i64) w A0 l0.length l0) (hc0 : l0.length ≤ c0) (h : serial_of.f k l0 = some r) :
    Calls Try.prog 31 #[.slice A0 l0.length c0] w fun e w' => ∃ v0_ : Value, e = .returned (v0_) ∧ Kd.R (Kd.int .u16) 61 w' w.heap.size (fun _ => True) v0_ r ∧ Below w.heap.size w w' := by
  have HR0 := YF hr0; have HC0 := YF hc0; clear hr0 hc0
  have HB := YF (Below.refl w.heap.size w)
  have H : (if 0 ≤ (l0.length : Int) then (if ((l0.length : Int) : Int).toNat ≤ 140737488355328 then (serial_of.l0 k (([] : List Int)) l0 (l0.length : Int) 0) else (none)) else (none)) = some r := h
  clear h
  by_cases c2 : 0 ≤ (l0.length : Int)
  rotate_left
  · rw [if_neg c2] at H
    exact absurd H (by simp)
  rw [if_pos c2] at H
  have c2b0 := eq_true c2
  have c2b1 : decide (0 ≤ (l0.length : Int)) = true := decide_eq_true c2
  clear c2
  by_cases c3 : ((l0.length : Int) : Int).toNat ≤ 140737488355328
  rotate_left
  · rw [if_neg c3] at H
    exact absurd H (by simp)
  rw [if_pos c3] at H
  have c3b0 := eq_true c3
  have c3b1 : decide (((l0.length : Int) : Int).toNat ≤ 140737488355328) = true := decide_eq_true c3
  clear c3
  obtain ⟨y454, hy454⟩ : ∃ y_ : List Int, y_ = (([] : List Int)) := ⟨_, rfl⟩
  replace H : (serial_of.l0 k y454 l0 (l0.length : Int) 0) = some r := by first | (rw [hy454]; with_reducible exact H) | (have H2_ := (Option.bind_some _ _).symm.trans H; rw [hy454]; with_reducible exact H2_) | (have H2_ := (Option.bind_some _ _).symm.trans H; with_reducible exact H2_) | with_reducible exact H | (rw [hy454]; exact H) | exact H
  have Ny454 := YF hy454; clear hy454
  have H' := YF H
  clear H
  go_enter Try.func31, Try.ntmps31
  go_wp2_with (first | ((with_reducible refine gate_dst (N := 8) rfl ?_); refine Kd.R_make0 (Kd.int .u16) _ 61 rfl (N := 8) rfl 58 _ _ rfl (l0.length : Int) rfl rfl Try.underlying58 (.int .u16 0) 2 info61 (by decide) (ok := fun _ => True) trivial (of_decide_eq_true (by first | (with_reducible assumption) | assumption)) (Nat.le_trans (Nat.mul_le_mul_right _ (of_decide_eq_true (by first | (with_reducible assumption) | assumption) : (l0.length : Int).toNat ≤ 140737488355328)) (by omega)) (Below.refl _ _) (Nat.le_refl _) ?_; intro v455 w4 ho5 hb hg_ hnew_; clear hg_ hnew_; (first | rw [← Ny454.out] at ho5 | (simp only [Int.reduceToNat] at ho5; rw [← Ny454.out] at ho5)); have n0_ := YF (Kd.R_lower ho5 (YE (by repeat (first | (with_reducible first | exact HB.out | apply YA | apply YB | apply YC) | exact HB.out)))); have n1_ := YF (YD (by repeat (first | (with_reducible first | exact HB.out | apply YA | apply YB | apply YC) | exact HB.out)) hb); clear HB; have HO456 := n0_; have HB := n1_; clear n0_ n1_; clear hb ho5))
  go_loopg [3, 11] k (fun kq v3 v11 w' => ∃ (x3_1 : List Int) (x11_1 : Int), v11 = .int .i64 x11_1 ∧ Aside0 (serial_of.l0 kq x3_1 l0 (l0.length : Int) x11_1 = some r) ∧ Aside0 (kq ≤ k) ∧ Aside0 (Kd.R (Kd.int .u16) 61 w' w.heap.size (fun _ => True) v3 x3_1) ∧ Aside0 (Below w.heap.size w w'))
  case atStart => exact ⟨(y454), (0), (by first | rfl | (simp; done) | (simp [*]; done)), H', ⟨Nat.le_refl _⟩, ⟨by (with_reducible repeat (first | apply YG | apply YH | apply YI)); exact HO456.out⟩, ⟨by repeat (first | (with_reducible first | exact HB.out | apply YA | apply YB | apply YC) | exact HB.out)⟩⟩
  case round =>
    clear H'
    try clear c2
    try clear c2b0
    try clear c2b1
    try clear p2
    try clear c3
    try clear c3b0
    try clear c3b1
    obtain ⟨x3_1, x11_1, rfl, HA, HK1, HO_3, HB⟩ := hrel
    cases gk with
    | zero => exact absurd HA.out (by simp [serial_of.l0])
    | succ k1 =>
      have H := HA.out
      clear HA
      simp only [serial_of.l0] at H
      by_cases c6 : x11_1 < (l0.length : Int)
      · rw [if_pos c6] at H
        have c6b0 : decide (x11_1 < (l0.length : Int)) = true := decide_eq_true c6
        clear c6
        by_cases c7 : 0 ≤ x11_1
        rotate_left
        · rw [if_neg c7] at H
          exact absurd H (by simp)
        rw [if_pos c7] at H; have c7b0 : decide (0 ≤ x11_1) = true := decide_eq_true c7; clear c7
        by_cases c8 : x11_1 < (l0.length : Int)
        rotate_left
        · rw [if_neg c8] at H
          exact absurd H (by simp)
        rw [if_pos c8] at H
        have c8b0 : decide (x11_1 < (l0.length : Int)) = true := decide_eq_true c8
        clear c8
        by_cases c9 : x3_1.length < 70368744177664
        rotate_left
        · rw [if_neg c9] at H
          exact absurd H (by simp)
        rw [if_pos c9] at H; have LMc9 := YF c9; clear c9
        obtain ⟨y458, hy458⟩ : ∃ y_ : List Int, y_ = (x3_1 ++ [IntKind.u16.wrap (rd l0 x11_1)]) := ⟨_, rfl⟩
        replace H : (serial_of.l0 k1 y458 l0 (l0.length : Int) (wrap64 (x11_1 + 1))) = some r := by first | (rw [hy458]; with_reducible exact H) | (have H2_ := (Option.bind_some _ _).symm.trans H; rw [hy458]; with_reducible exact H2_) | (have H2_ := (Option.bind_some _ _).symm.trans H; with_reducible exact H2_) | with_reducible exact H | (rw [hy458]; exact H) | exact H
        have Ny458 := YF hy458; clear hy458
        have H' := YF H
        clear H
        have p457 : 0 ≤ (x11_1 : Int) := of_decide_eq_true (by first | (with_reducible assumption) | assumption)
        have q457 : x11_1 < (l0.length : Int) := of_decide_eq_true (by first | (with_reducible assumption) | assumption)
        obtain ⟨ad457, e457, hx457_0⟩ := Kd.at_int HR0.out x11_1 p457 q457
        cases e457
        replace hx457_0 := (HB.out.cell (World.block_lt_of_cell? w _ hx457_0)).trans hx457_0
        replace p457 := eq_true p457
        replace q457 := eq_true q457
        go_wp2_with (first | ((with_reducible refine gate_builtin (b := .append) (xs := #[.tmp 15, .tmp 18]) rfl ?_); at_builtin; refine Kd.R_append (Kd.int .u16) (w0 := w) w.heap.size rfl (.tmp 15) (.tmp 18) 58 61 (.int .u16 0) 2 rfl Try.underlying58 info61 rfl (by decide) (by omega) u3 x3_1 (IntKind.u16.wrap (rd l0 x11_1)) [.int .u16 (IntKind.u16.wrap (rd l0 x11_1))] (fun _ => True) (fun _ => False) rfl rfl ?aP (fun _ hk => hk.elim) ?aF ?aO ?aB ?aS ?aL ?_; (case aP => exact rfl); (case aB => exact (by repeat (first | (with_reducible first | exact HB.out | apply YA | apply YB | apply YC) | exact HB.out))); (case aF => exact (fun _ _ => trivial)); (case aO => exact (by (with_reducible repeat (first | apply YG | apply YH | apply YI)); exact HO_3.out)); (case aS => exact (YE (by repeat (first | (with_reducible first | exact HB.out | apply YA | apply YB | apply YC) | exact HB.out)))); (case aL => have := LMc9.out; omega); intro v459 w10 ho hb hg hat; rw [← Ny458.out] at ho; have n0_ := YF (hb); have n1_ := YF (ho); clear HB; clear HO_3; have HB := n0_; have HO460 := n1_; clear n0_ n1_; clear ho hb hg hat))
        go_roundg k1
        case measure => have := HK1.out; omega
        case rel => exact ⟨(y458), (wrap64 (x11_1 + 1)), (by first | rfl | (simp; done) | (simp [*]; done)), H', ⟨by have := HK1.out; omega⟩, ⟨by (with_reducible repeat (first | apply YG | apply YH | apply YI)); exact HO460.out⟩, ⟨by repeat (first | (with_reducible first | exact HB.out | apply YA | apply YB | apply YC) | exact HB.out)⟩⟩
      rw [if_neg c6] at H
      have c6b0 : decide (x11_1 < (l0.length : Int)) = false := decide_eq_false c6
      clear c6
      obtain rfl := Option.some.inj H
      go_wp2
      go_ret
      exact ⟨_, by first | rfl | (simp [errW_none, errW_some] <;> rfl) | (simp [*, errW_none, errW_some] <;> rfl), by (with_reducible repeat (first | apply YG | apply YH | apply YI)); exact HO_3.out, by repeat (first | (with_reducible first | exact HB.out | apply YA | apply YB | apply YC) | exact HB.out)⟩
def serial_Far.f (k : Nat) (a0 : Int) (a1 : Int) : Option (Int) := (serial_of.f k (([a0, a1] : List Int))).bind fun t464 => (if 1 < (t464.length : Int) then (if 0 < (t464.length : Int) then (some (wrap64 (IntKind.u16.wrap ((rd t464 1) - (rd t464 0))))) else (none)) else (none))
theorem serial_Far.mono : ∀ a0 a1 k, LeO (serial_Far.f k a0 a1) (serial_Far.f (k + 1) a0 a1) := by
  intro a0 a1 k
  unfold serial_Far.f
  repeat' first
      | (with_reducible exact serial_of.mono _ _)
      | (with_reducible exact LeO.refl _)
      | (with_reducible exact LeO.none _)
      | (with_reducible refine LeO.ite ?_ ?_)
      | (with_reducible refine LeO.bind ?_ (fun _ => ?_))
      | exact serial_of.mono _ _
      | exact LeO.none _
      | refine LeO.ite ?_ ?_
      | refine LeO.bind ?_ (fun _ => ?_)
set_option maxHeartbeats 8000000 in
set_option maxRecDepth 100000 in
theorem serial_Far.calls (k : Nat) (a0 : Int) (a1 : Int) (r : Int) (w : World) (h : serial_Far.f k a0 a1 = some r) :
    Calls Try.prog 19 #[.int .i64 a0, .int .i64 a1] w fun e w' => e = .returned (.int .i64 r) ∧ Below w.heap.size w w' := by
  have HB := YF (Below.refl w.heap.size w)
  have H : ((serial_of.f k (([a0, a1] : List Int))).bind fun t464 => (if 1 < (t464.length : Int) then (if 0 < (t464.length : Int) then (some (wrap64 (IntKind.u16.wrap ((rd t464 1) - (rd t464 0))))) else (none)) else (none))) = some r := h
  clear h
  obtain ⟨y461, hy461⟩ : ∃ y_ : List Int, y_ = (([a0, a1] : List Int)) := ⟨_, rfl⟩
  replace H : ((serial_of.f k y461).bind fun t464 => (if 1 < (t464.length : Int) then (if 0 < (t464.length : Int) then (some (wrap64 (IntKind.u16.wrap ((rd t464 1) - (rd t464 0))))) else (none)) else (none))) = some r := by first | (rw [hy461]; with_reducible exact H) | (have H2_ := (Option.bind_some _ _).symm.trans H; rw [hy461]; with_reducible exact H2_) | (have H2_ := (Option.bind_some _ _).symm.trans H; with_reducible exact H2_) | with_reducible exact H | (rw [hy461]; exact H) | exact H
  have Ny461 := YF hy461; clear hy461; replace H := Option.bind_eq_some_iff.mp H; obtain ⟨t464, A30, H⟩ := H
  replace H : (if 1 < (t464.length : Int) then (if 0 < (t464.length : Int) then (some (wrap64 (IntKind.u16.wrap ((rd t464 1) - (rd t464 0))))) else (none)) else (none)) = some r := H
  have A3 := YF A30; clear A30
  by_cases c4 : 1 < (t464.length : Int)
  rotate_left
  · rw [if_neg c4] at H
    exact absurd H (by simp)
  rw [if_pos c4] at H
  have c4b0 : decide (1 < (t464.length : Int)) = true := decide_eq_true c4
  have c4b1 : decide (1 < t464.length) = true := decide_eq_true (by omega)
  clear c4
  by_cases c5 : 0 < (t464.length : Int)
  rotate_left
  · rw [if_neg c5] at H
    exact absurd H (by simp)
  rw [if_pos c5] at H
  have c5b0 : decide (0 < (t464.length : Int)) = true := decide_eq_true c5
  have c5b1 : decide (0 < t464.length) = true := decide_eq_true (by omega)
  clear c5
  obtain rfl := Option.some.inj H
  go_enter Try.func19, Try.ntmps19
  go_wp2_with (first | ((with_reducible refine gate_dst (N := 8) rfl ?_); refine Kd.R_lit (Kd.int .i64) _ 3 ?hg (N := 8) ?hd (xs := ([a0, a1] : List Int)) (inner := [.int .i64 a0, .int .i64 a1]) (ok := fun _ => True) (okp := fun _ => True) ?hr ?hp (fun _ hk => hk) trivial (Below.refl _ _) (Nat.le_refl _) (by simp) ?_; (case hd => rfl); (case hg => rfl); (case hr => first | (go_simp; done) | (go_simp; rfl)); (case hp => exact (Reps.one (show Kd.M (Kd.int .i64) _ _ _ a0 [.int .i64 a0] from rfl) (Reps.one (show Kd.M (Kd.int .i64) _ _ _ a1 [.int .i64 a1] from rfl) (Reps.none _ _)))); intro v462 w6 ho7 hb hg_ hnew_; clear hg_ hnew_; (first | rw [← Ny461.out] at ho7 | (simp only [Int.reduceToNat] at ho7; rw [← Ny461.out] at ho7)); have n0_ := YF (Kd.R_lower ho7 (YE (by repeat (first | (with_reducible first | exact HB.out | apply YA | apply YB | apply YC) | exact HB.out)))); have n1_ := YF (YD (by repeat (first | (with_reducible first | exact HB.out | apply YA | apply YB | apply YC) | exact HB.out)) hb); clear HB; have HO463 := n0_; have HB := n1_; clear n0_ n1_; clear hb ho7; obtain ⟨Ao8, co8, eo8⟩ := Kd.R_slice HO463.out; subst eo8) | (go_at_call 31; (with_reducible refine (serial_of.calls k _ _ y461 t464 _ ?side1 ?side2 A3.out).mono ?_); (case side1 => repeat (first | exact (Kd.R_reads' HO463.out).2.2 | (with_reducible refine Kd.C_alloc ?_ _) | (with_reducible refine Kd.C_drewN ?_ _) | (with_reducible refine Kd.C_drew ?_))); (case side2 => exact (Kd.R_reads' HO463.out).2.1); rintro e w9 ⟨v465, rfl, ho0, hb⟩; have n0_ := YF (Kd.R_below (by (with_reducible repeat (first | apply YG | apply YH | apply YI)); exact HO463.out) hb); have n1_ := YF (Kd.R_lower ho0 (YE (by repeat (first | (with_reducible first | exact HB.out | apply YA | apply YB | apply YC) | exact HB.out)))); have n2_ := YF (YD (by repeat (first | (with_reducible first | exact HB.out | apply YA | apply YB | apply YC) | exact HB.out)) hb); clear HO463; clear HB; have HO463 := n0_; have HO466 := n1_; have HB := n2_; clear n0_ n1_ n2_; (try clear hb); (try clear hb2); (try clear hk); (try clear hi); (try clear ho0); obtain ⟨Ao10, co10, eo10⟩ := Kd.R_slice HO466.out; subst eo10; have p467 : 0 ≤ (1 : Int) := (by omega); have q467 : 1 < (t464.length : Int) := of_decide_eq_true (by first | (with_reducible assumption) | assumption); obtain ⟨ad467, e467, hx467_0⟩ := Kd.at_int (Kd.R_reads' HO466.out).2.2 1 p467 q467; cases e467; (try simp only [show (1 : Int).toNat = 1 from rfl, Nat.reduceMul, Nat.reduceEqDiff, Go.Addr.add, ↓reduceIte] at hx467_0); have qi467 : (1 < t464.length) = True := eq_true (by omega); (try rw [show ((1 : Int)).toNat = 1 from rfl] at hx467_0); replace p467 := eq_true p467; replace q467 := eq_true q467; have p468 : 0 ≤ (0 : Int) := (by omega); have q468 : 0 < (t464.length : Int) := of_decide_eq_true (by first | (with_reducible assumption) | assumption); obtain ⟨ad468, e468, hx468_0⟩ := Kd.at_int (Kd.R_reads' HO466.out).2.2 0 p468 q468; obtain rfl : ad467 = ad468 := (by injection e468); have qi468 : (0 < t464.length) = True := eq_true (by omega); (try rw [show ((0 : Int)).toNat = 0 from rfl] at hx468_0); (try rw [Addr.add_zero'] at hx468_0); replace p468 := eq_true p468; replace q468 := eq_true q468))
  repeat (go_quiet (first | ((with_reducible refine gate_dst (N := 8) rfl ?_); refine Kd.R_lit (Kd.int .i64) _ 3 ?hg (N := 8) ?hd (xs := ([a0, a1] : List Int)) (inner := [.int .i64 a0, .int .i64 a1]) (ok := fun _ => True) (okp := fun _ => True) ?hr ?hp (fun _ hk => hk) trivial (Below.refl _ _) (Nat.le_refl _) (by simp) ?_; (case hd => rfl); (case hg => rfl); (case hr => first | (go_simp; done) | (go_simp; rfl)); (case hp => exact (Reps.one (show Kd.M (Kd.int .i64) _ _ _ a0 [.int .i64 a0] from rfl) (Reps.one (show Kd.M (Kd.int .i64) _ _ _ a1 [.int .i64 a1] from rfl) (Reps.none _ _)))); intro v462 w6 ho7 hb hg_ hnew_; clear hg_ hnew_; (first | rw [← Ny461.out] at ho7 | (simp only [Int.reduceToNat] at ho7; rw [← Ny461.out] at ho7)); have n0_ := YF (Kd.R_lower ho7 (YE (by repeat (first | (with_reducible first | exact HB.out | apply YA | apply YB | apply YC) | exact HB.out)))); have n1_ := YF (YD (by repeat (first | (with_reducible first | exact HB.out | apply YA | apply YB | apply YC) | exact HB.out)) hb); clear HB; have HO463 := n0_; have HB := n1_; clear n0_ n1_; clear hb ho7; obtain ⟨Ao8, co8, eo8⟩ := Kd.R_slice HO463.out; subst eo8) | (go_at_call 31; (with_reducible refine (serial_of.calls k _ _ y461 t464 _ ?side1 ?side2 A3.out).mono ?_); (case side1 => repeat (first | exact (Kd.R_reads' HO463.out).2.2 | (with_reducible refine Kd.C_alloc ?_ _) | (with_reducible refine Kd.C_drewN ?_ _) | (with_reducible refine Kd.C_drew ?_))); (case side2 => exact (Kd.R_reads' HO463.out).2.1); rintro e w9 ⟨v465, rfl, ho0, hb⟩; have n0_ := YF (Kd.R_below (by (with_reducible repeat (first | apply YG | apply YH | apply YI)); exact HO463.out) hb); have n1_ := YF (Kd.R_lower ho0 (YE (by repeat (first | (with_reducible first | exact HB.out | apply YA | apply YB | apply YC) | exact HB.out)))); have n2_ := YF (YD (by repeat (first | (with_reducible first | exact HB.out | apply YA | apply YB | apply YC) | exact HB.out)) hb); clear HO463; clear HB; have HO463 := n0_; have HO466 := n1_; have HB := n2_; clear n0_ n1_ n2_; (try clear hb); (try clear hb2); (try clear hk); (try clear hi); (try clear ho0); obtain ⟨Ao10, co10, eo10⟩ := Kd.R_slice HO466.out; subst eo10; have p467 : 0 ≤ (1 : Int) := (by omega); have q467 : 1 < (t464.length : Int) := of_decide_eq_true (by first | (with_reducible assumption) | assumption); obtain ⟨ad467, e467, hx467_0⟩ := Kd.at_int (Kd.R_reads' HO466.out).2.2 1 p467 q467; cases e467; (try simp only [show (1 : Int).toNat = 1 from rfl, Nat.reduceMul, Nat.reduceEqDiff, Go.Addr.add, ↓reduceIte] at hx467_0); have qi467 : (1 < t464.length) = True := eq_true (by omega); (try rw [show ((1 : Int)).toNat = 1 from rfl] at hx467_0); replace p467 := eq_true p467; replace q467 := eq_true q467; have p468 : 0 ≤ (0 : Int) := (by omega); have q468 : 0 < (t464.length : Int) := of_decide_eq_true (by first | (with_reducible assumption) | assumption); obtain ⟨ad468, e468, hx468_0⟩ := Kd.at_int (Kd.R_reads' HO466.out).2.2 0 p468 q468; obtain rfl : ad467 = ad468 := (by injection e468); have qi468 : (0 < t464.length) = True := eq_true (by omega); (try rw [show ((0 : Int)).toNat = 0 from rfl] at hx468_0); (try rw [Addr.add_zero'] at hx468_0); replace p468 := eq_true p468; replace q468 := eq_true q468)); try go_wp2_with (first | ((with_reducible refine gate_dst (N := 8) rfl ?_); refine Kd.R_lit (Kd.int .i64) _ 3 ?hg (N := 8) ?hd (xs := ([a0, a1] : List Int)) (inner := [.int .i64 a0, .int .i64 a1]) (ok := fun _ => True) (okp := fun _ => True) ?hr ?hp (fun _ hk => hk) trivial (Below.refl _ _) (Nat.le_refl _) (by simp) ?_; (case hd => rfl); (case hg => rfl); (case hr => first | (go_simp; done) | (go_simp; rfl)); (case hp => exact (Reps.one (show Kd.M (Kd.int .i64) _ _ _ a0 [.int .i64 a0] from rfl) (Reps.one (show Kd.M (Kd.int .i64) _ _ _ a1 [.int .i64 a1] from rfl) (Reps.none _ _)))); intro v462 w6 ho7 hb hg_ hnew_; clear hg_ hnew_; (first | rw [← Ny461.out] at ho7 | (simp only [Int.reduceToNat] at ho7; rw [← Ny461.out] at ho7)); have n0_ := YF (Kd.R_lower ho7 (YE (by repeat (first | (with_reducible first | exact HB.out | apply YA | apply YB | apply YC) | exact HB.out)))); have n1_ := YF (YD (by repeat (first | (with_reducible first | exact HB.out | apply YA | apply YB | apply YC) | exact HB.out)) hb); clear HB; have HO463 := n0_; have HB := n1_; clear n0_ n1_; clear hb ho7; obtain ⟨Ao8, co8, eo8⟩ := Kd.R_slice HO463.out; subst eo8) | (go_at_call 31; (with_reducible refine (serial_of.calls k _ _ y461 t464 _ ?side1 ?side2 A3.out).mono ?_); (case side1 => repeat (first | exact (Kd.R_reads' HO463.out).2.2 | (with_reducible refine Kd.C_alloc ?_ _) | (with_reducible refine Kd.C_drewN ?_ _) | (with_reducible refine Kd.C_drew ?_))); (case side2 => exact (Kd.R_reads' HO463.out).2.1); rintro e w9 ⟨v465, rfl, ho0, hb⟩; have n0_ := YF (Kd.R_below (by (with_reducible repeat (first | apply YG | apply YH | apply YI)); exact HO463.out) hb); have n1_ := YF (Kd.R_lower ho0 (YE (by repeat (first | (with_reducible first | exact HB.out | apply YA | apply YB | apply YC) | exact HB.out)))); have n2_ := YF (YD (by repeat (first | (with_reducible first | exact HB.out | apply YA | apply YB | apply YC) | exact HB.out)) hb); clear HO463; clear HB; have HO463 := n0_; have HO466 := n1_; have HB := n2_; clear n0_ n1_ n2_; (try clear hb); (try clear hb2); (try clear hk); (try clear hi); (try clear ho0); obtain ⟨Ao10, co10, eo10⟩ := Kd.R_slice HO466.out; subst eo10; have p467 : 0 ≤ (1 : Int) := (by omega); have q467 : 1 < (t464.length : Int) := of_decide_eq_true (by first | (with_reducible assumption) | assumption); obtain ⟨ad467, e467, hx467_0⟩ := Kd.at_int (Kd.R_reads' HO466.out).2.2 1 p467 q467; cases e467; (try simp only [show (1 : Int).toNat = 1 from rfl, Nat.reduceMul, Nat.reduceEqDiff, Go.Addr.add, ↓reduceIte] at hx467_0); have qi467 : (1 < t464.length) = True := eq_true (by omega); (try rw [show ((1 : Int)).toNat = 1 from rfl] at hx467_0); replace p467 := eq_true p467; replace q467 := eq_true q467; have p468 : 0 ≤ (0 : Int) := (by omega); have q468 : 0 < (t464.length : Int) := of_decide_eq_true (by first | (with_reducible assumption) | assumption); obtain ⟨ad468, e468, hx468_0⟩ := Kd.at_int (Kd.R_reads' HO466.out).2.2 0 p468 q468; obtain rfl : ad467 = ad468 := (by injection e468); have qi468 : (0 < t464.length) = True := eq_true (by omega); (try rw [show ((0 : Int)).toNat = 0 from rfl] at hx468_0); (try rw [Addr.add_zero'] at hx468_0); replace p468 := eq_true p468; replace q468 := eq_true q468)))
  go_ret
  exact ⟨by first | rfl | (simp [errW_none, errW_some] <;> rfl) | (simp [*, errW_none, errW_some] <;> rfl), by repeat (first | (with_reducible first | exact HB.out | apply YA | apply YB | apply YC) | exact HB.out)⟩
end Go.Proofs.Ytfigbjjaffkidaa.P
namespace Go.Proofs.Ytfigbjjaffkidaa.P
open Go.RowKit Go.Proofs.YtfigbjjaffkidaaW.PrintWords Go.Proofs.YtfigbjjaffkidaaW.PrintLast Go.Proofs.YtfigbjjaffkidaaW.PrintMore
open Go.Proofs.YtfigbjjaffkidaaW.PrintWords renaming below_alloc → YA, pw_below_drewN → YB, below_drew1 → YC, below_step → YD, below_size → YE
open Go.Proofs.YtfigbjjaffkidaaW.PrintWords.Aside0 renaming mk → YF
open List renaming map_toArray → YG, length_take → YH, length_drop → YI
open Go.Proofs.YtfigbjjaffkidaaW.PrintWords.Kd renaming R_alloc → YJ, R_drewN → YK, R_drew → YL, R_below → YM
attribute [local go_sem] max2_int min2_int max_two min_two max_three min_three max_four min_four   -- for this text's walks alone
def thalweglaw05_BatchWhole.l0 : Nat → List (S45) → Int → Int → Int → List (S24) → List (S45) → Int → Int → Option (Bool)
  | 0, _, _, _, _, _, _, _, _ => none
  | k + 1, x0, x1, x2, x3, x9, x11, x12, x13 => if x13 < (x9.length : Int) then (if 0 ≤ x13 then ((batch_Bytes.f k ((rd_T24 x9 x13).f0) ((rd_T24 x9 x13).f1)).bind fun bt481 => (if bt481.2 = 0 then (if (bt481.1.length : Int) > x2 then (none) else ((serial_Far.f k x12 ((rd_T24 x9 x13).f0)).bind fun t486 => (if t486 = 0 then (if x11.length + ((rd_T24 x9 x13).f1).length < 1466015503701 then ((serial_Next.f x12).bind fun t491 => (thalweglaw05_BatchWhole.l0 k x0 x1 x2 x3 x9 (x11 ++ ((rd_T24 x9 x13).f1)) t491 (wrap64 (x13 + 1)))) else (none)) else (none)))) else (none))) else (none)) else ((batch_Pack.f k x0 x1 x3).bind fun bt474 => ((thalweglaw05_awake.f k).bind fun t478 => (if t478 = true then ((thalwegref04_Same.f k x11 x0).bind fun t479 => (if t479 = true then (if bt474.2 = 0 then (if x3 < x2 then (some true) else (some (decide ((bt474.1.length : Int) ≤ (x9.length : Int))))) else (some true)) else (none))) else (none))))
def thalweglaw05_BatchWhole.f (k : Nat) (l0 : List (S45)) (a1 : Int) (a2 : Int) (a3 : Int) : Option (Bool) := if (l0.length : Int) > 200 then (some true) else ((batch_Pack.f k l0 a1 a2).bind fun bt469 => (if bt469.2 = 0 then (thalweglaw05_BatchWhole.l0 k l0 a1 a2 a3 bt469.1 ([] : List (S45)) a1 0) else ((thalweglaw05_awake.f k).bind fun t473 => (if t473 = true then (some ((bt469.1.length : Int) == 0)) else (none)))))
theorem thalweglaw05_BatchWhole.mono_l : ∀ k, (∀ y0 y1 y2 y3 y4 y5 y6 y7, LeO (thalweglaw05_BatchWhole.l0 k y0 y1 y2 y3 y4 y5 y6 y7) (thalweglaw05_BatchWhole.l0 (k + 1) y0 y1 y2 y3 y4 y5 y6 y7))
  | 0 => fun _ _ _ _ _ _ _ _ r h => by simp [thalweglaw05_BatchWhole.l0] at h
  | k + 1 => by
    have ih0 := thalweglaw05_BatchWhole.mono_l k
    · intro y0 y1 y2 y3 y4 y5 y6 y7
      unfold thalweglaw05_BatchWhole.l0
      repeat' first
      | (with_reducible exact ih0 _ _ _ _ _ _ _ _)
      | (with_reducible exact batch_Bytes.mono _ _ _)
      | (with_reducible exact batch_Pack.mono _ _ _ _)
      | (with_reducible exact serial_Far.mono _ _ _)
      | (with_reducible exact thalweglaw05_awake.mono _)
      | (with_reducible exact thalwegref04_Same.mono _ _ _)
      | (with_reducible exact LeO.refl _)
      | (with_reducible exact LeO.none _)
      | (with_reducible refine LeO.ite ?_ ?_)
      | (with_reducible refine LeO.bind ?_ (fun _ => ?_))
      | exact ih0 _ _ _ _ _ _ _ _
      | exact batch_Bytes.mono _ _ _
      | exact batch_Pack.mono _ _ _ _
      | exact serial_Far.mono _ _ _
      | exact thalweglaw05_awake.mono _
      | exact thalwegref04_Same.mono _ _ _
      | exact LeO.none _
      | refine LeO.ite ?_ ?_
      | refine LeO.bind ?_ (fun _ => ?_)
theorem thalweglaw05_BatchWhole.mono : ∀ a0 a1 a2 a3 k, LeO (thalweglaw05_BatchWhole.f k a0 a1 a2 a3) (thalweglaw05_BatchWhole.f (k + 1) a0 a1 a2 a3) := by
  intro a0 a1 a2 a3 k
  have ih0 := thalweglaw05_BatchWhole.mono_l k
  unfold thalweglaw05_BatchWhole.f
  repeat' first
      | (with_reducible exact ih0 _ _ _ _ _ _ _ _)
      | (with_reducible exact batch_Bytes.mono _ _ _)
      | (with_reducible exact batch_Pack.mono _ _ _ _)
      | (with_reducible exact serial_Far.mono _ _ _)
      | (with_reducible exact thalweglaw05_awake.mono _)
      | (with_reducible exact thalwegref04_Same.mono _ _ _)
      | (with_reducible exact LeO.refl _)
      | (with_reducible exact LeO.none _)
      | (with_reducible refine LeO.ite ?_ ?_)
      | (with_reducible refine LeO.bind ?_ (fun _ => ?_))
      | exact ih0 _ _ _ _ _ _ _ _
      | exact batch_Bytes.mono _ _ _
      | exact batch_Pack.mono _ _ _ _
      | exact serial_Far.mono _ _ _
      | exact thalweglaw05_awake.mono _
      | exact thalwegref04_Same.mono _ _ _
      | exact LeO.none _
      | refine LeO.ite ?_ ?_
      | refine LeO.bind ?_ (fun _ => ?_)
set_option maxHeartbeats 8000000 in
set_option maxRecDepth 100000 in
theorem thalweglaw05_BatchWhole.calls (k : Nat) (A0 : Option Addr) (c0 : Nat) (l0 : List (S45)) (a1 : Int) (a2 : Int) (a3 : Int) (r : Bool) (w : World) (hr0 : Kd.C k45 w A0 l0.length l0) (hc0 : l0.length ≤ c0) (h : thalweglaw05_BatchWhole.f k l0 a1 a2 a3 = some r) :
    Calls Try.prog 6 #[.slice A0 l0.length c0, .int .i64 a1, .int .i64 a2, .int .i64 a3] w fun e w' => e = .returned (.bool r) ∧ Below w.heap.size w w' := by
  have hu24 := Try.underlying24
  have HR0 := YF hr0; have HC0 := YF hc0; clear hr0 hc0
  have HB := YF (Below.refl w.heap.size w)
  have H : (if (l0.length : Int) > 200 then (some true) else ((batch_Pack.f k l0 a1 a2).bind fun bt469 => (if bt469.2 = 0 then (thalweglaw05_BatchWhole.l0 k l0 a1 a2 a3 bt469.1 ([] : List (S45)) a1 0) else ((thalweglaw05_awake.f k).bind fun t473 => (if t473 = true then (some ((bt469.1.length : Int) == 0)) else (none)))))) = some r := h
  clear h
  by_cases c5 : (l0.length : Int) > 200
  · rw [if_pos c5] at H
    have c5b0 : decide (200 < (l0.length : Int)) = true := decide_eq_true c5
    have c5b1 : decide (200 < l0.length) = true := decide_eq_true (by omega)
    clear c5
    obtain rfl := Option.some.inj H
    go_enter Try.func6, Try.ntmps6
    go_wp2
    go_ret
    exact ⟨by first | rfl | (simp [errW_none, errW_some] <;> rfl) | (simp [*, errW_none, errW_some] <;> rfl), by repeat (first | (with_reducible first | exact HB.out | apply YA | apply YB | apply YC) | exact HB.out)⟩
  rw [if_neg c5] at H
  have c5b0 : decide (200 < (l0.length : Int)) = false := decide_eq_false c5
  have c5b1 : decide (200 < l0.length) = false := decide_eq_false (by omega)
  clear c5; replace H := Option.bind_eq_some_iff.mp H
  obtain ⟨⟨t469, t470⟩, A60, H⟩ := H
  replace H : (if t470 = 0 then (thalweglaw05_BatchWhole.l0 k l0 a1 a2 a3 t469 ([] : List (S45)) a1 0) else ((thalweglaw05_awake.f k).bind fun t473 => (if t473 = true then (some ((t469.length : Int) == 0)) else (none)))) = some r := H
  have A6 := YF A60; clear A60
  by_cases c7 : t470 = 0
  · rw [if_pos c7] at H
    have c7b0 : (t470 == 0) = true := beq_iff_eq.mpr c7
    have c7b1 : (t470 != 0) = false := bne_eq_false_iff_eq.mpr c7
    clear c7
    have H' := YF H
    clear H
    go_enter Try.func6, Try.ntmps6
    go_wp2_with (first | ((with_reducible refine gate_callee (f := 15) rfl ?_); refine goesL_ (some 25) rfl rfl Try.func15 (by kernel_rfl) rfl #[.slice A0 l0.length c0, .int .i64 a1, .int .i64 a2] rfl (by (try simp only [YG, List.map_cons, List.map_nil]); first | done | rfl | (simp only [YI, YH]; rfl)) ?_; (with_reducible refine (batch_Pack.calls k _ _ l0 a1 a2 t469 t470 _ ?side1 ?side2 A6.out).mono ?_); (case side1 => repeat (first | exact HR0.out | (with_reducible refine Kd.C_alloc ?_ _) | (with_reducible refine Kd.C_drewN ?_ _) | (with_reducible refine Kd.C_drew ?_))); (case side2 => exact HC0.out); rintro e w8 ⟨v471, rfl, ho0, hb⟩; refine ⟨_, rfl, ?_⟩; have n0_ := YF (Kd.S_lower ho0 (YE (by repeat (first | (with_reducible first | exact HB.out | apply YA | apply YB | apply YC) | exact HB.out)))); have n1_ := YF (YD (by repeat (first | (with_reducible first | exact HB.out | apply YA | apply YB | apply YC) | exact HB.out)) hb); clear HB; have HO472 := n0_; have HB := n1_; clear n0_ n1_; (try clear hb); (try clear hb2); (try clear hk); (try clear hi); (try clear ho0)))
    go_loopg [11, 12, 13] k (fun kq v11 v12 v13 w' => ∃ (x11_1 : List (S45)) (x12_1 : Int) (x13_1 : Int), v12 = .int .i64 x12_1 ∧ v13 = .int .i64 x13_1 ∧ Aside0 (thalweglaw05_BatchWhole.l0 kq l0 a1 a2 a3 t469 x11_1 x12_1 x13_1 = some r) ∧ Aside0 (kq ≤ k) ∧ Aside0 (Kd.S k24 24 w' w.heap.size (fun k_ => some k_ ≠ (v11 : Value).ownBlock) v471 t469) ∧ Aside0 (Kd.R k45 45 w' w.heap.size (fun _ => True) v11 x11_1) ∧ Aside0 (Below w.heap.size w w'))
    case atStart => exact ⟨(([] : List (S45))), (a1), (0), (by first | rfl | (simp; done) | (simp [*]; done)), (by first | rfl | (simp; done) | (simp [*]; done)), H', ⟨Nat.le_refl _⟩, ⟨by (with_reducible repeat (first | apply Kd.S_alloc | apply Kd.S_drewN | apply Kd.S_drew)); exact Kd.S_mono HO472.out (fun _ hk => (by simp [Value.ownBlock]))⟩, ⟨by first | exact Kd.R_nil _ _ _ _ _ | exact Kd.N_nil _ _ _ _ _ | exact Kd.V_nil _ _ _ _ _ | exact Kd.Q_nil _ _ _ _ _ | exact Kd.S_nil _ _ _ _ _⟩, ⟨by repeat (first | (with_reducible first | exact HB.out | apply YA | apply YB | apply YC) | exact HB.out)⟩⟩
    case round =>
      clear H'
      try clear c1
      try clear p2
      try clear c5
      try clear c5b0
      try clear c5b1
      try clear c6
      try clear c7
      try clear c7b0
      try clear c7b1
      obtain ⟨x11_1, x12_1, x13_1, rfl, rfl, HA, HK1, HO_9, HO_11, HB⟩ := hrel
      cases gk with
      | zero => exact absurd HA.out (by simp [thalweglaw05_BatchWhole.l0])
      | succ k1 =>
        have H := HA.out
        clear HA
        simp only [thalweglaw05_BatchWhole.l0] at H
        by_cases c9 : x13_1 < (t469.length : Int)
        · rw [if_pos c9] at H
          have c9b0 : decide (x13_1 < (t469.length : Int)) = true := decide_eq_true c9
          clear c9
          by_cases c10 : 0 ≤ x13_1
          rotate_left
          · rw [if_neg c10] at H
            exact absurd H (by simp)
          rw [if_pos c10] at H; have c10b0 : decide (0 ≤ x13_1) = true := decide_eq_true c10; clear c10; replace H := Option.bind_eq_some_iff.mp H
          obtain ⟨⟨t481, t484⟩, A110, H⟩ := H
          replace H : (if t484 = 0 then (if (t481.length : Int) > a2 then (none) else ((serial_Far.f k1 x12_1 ((rd_T24 t469 x13_1).f0)).bind fun t486 => (if t486 = 0 then (if x11_1.length + ((rd_T24 t469 x13_1).f1).length < 1466015503701 then ((serial_Next.f x12_1).bind fun t491 => (thalweglaw05_BatchWhole.l0 k1 l0 a1 a2 a3 t469 (x11_1 ++ ((rd_T24 t469 x13_1).f1)) t491 (wrap64 (x13_1 + 1)))) else (none)) else (none)))) else (none)) = some r := H
          have A11 := YF A110; clear A110
          by_cases c12 : t484 = 0
          rotate_left
          · rw [if_neg c12] at H
            exact absurd H (by simp)
          rw [if_pos c12] at H
          have c12b0 : (t484 == 0) = true := beq_iff_eq.mpr c12
          have c12b1 : (t484 != 0) = false := bne_eq_false_iff_eq.mpr c12
          clear c12
          by_cases c13 : (t481.length : Int) > a2
          · rw [if_pos c13] at H
            exact absurd H (by simp)
          rw [if_neg c13] at H
          have c13b0 : decide (a2 < (t481.length : Int)) = false := decide_eq_false c13
          clear c13; replace H := Option.bind_eq_some_iff.mp H; obtain ⟨t486, A140, H⟩ := H
          replace H : (if t486 = 0 then (if x11_1.length + ((rd_T24 t469 x13_1).f1).length < 1466015503701 then ((serial_Next.f x12_1).bind fun t491 => (thalweglaw05_BatchWhole.l0 k1 l0 a1 a2 a3 t469 (x11_1 ++ ((rd_T24 t469 x13_1).f1)) t491 (wrap64 (x13_1 + 1)))) else (none)) else (none)) = some r := H
          have A14 := YF A140; clear A140
          by_cases c15 : t486 = 0
          rotate_left
          · rw [if_neg c15] at H
            exact absurd H (by simp)
          rw [if_pos c15] at H
          have c15b0 : (t486 == 0) = true := beq_iff_eq.mpr c15
          have c15b1 : (t486 != 0) = false := bne_eq_false_iff_eq.mpr c15
          clear c15
          by_cases c16 : x11_1.length + ((rd_T24 t469 x13_1).f1).length < 1466015503701
          rotate_left
          · rw [if_neg c16] at H
            exact absurd H (by simp)
          rw [if_pos c16] at H; have LMc16 := YF c16; clear c16
          obtain ⟨y488, hy488⟩ : ∃ y_ : List (S45), y_ = (x11_1 ++ ((rd_T24 t469 x13_1).f1)) := ⟨_, rfl⟩
          replace H : ((serial_Next.f x12_1).bind fun t491 => (thalweglaw05_BatchWhole.l0 k1 l0 a1 a2 a3 t469 y488 t491 (wrap64 (x13_1 + 1)))) = some r := by first | (rw [hy488]; with_reducible exact H) | (have H2_ := (Option.bind_some _ _).symm.trans H; rw [hy488]; with_reducible exact H2_) | (have H2_ := (Option.bind_some _ _).symm.trans H; with_reducible exact H2_) | with_reducible exact H | (rw [hy488]; exact H) | exact H
          have Ny488 := YF hy488; clear hy488; replace H := Option.bind_eq_some_iff.mp H; obtain ⟨t491, A170, H⟩ := H
          replace H : (thalweglaw05_BatchWhole.l0 k1 l0 a1 a2 a3 t469 y488 t491 (wrap64 (x13_1 + 1))) = some r := H
          have A17 := YF A170; clear A170
          have H' := YF H
          clear H
          obtain ⟨Ao18, co18, eo18⟩ := Kd.S_slice HO_9.out
          subst eo18
          have p480 : 0 ≤ (x13_1 : Int) := of_decide_eq_true (by first | (with_reducible assumption) | assumption)
          have q480 : x13_1 < (t469.length : Int) := of_decide_eq_true (by first | (with_reducible assumption) | assumption)
          obtain ⟨ad480, A480_1, c480_1, e480, hx480_0, hx480_1, hl480_1, hi480_1⟩ := at_T24 (Kd.S_reads' HO_9.out).2.2 x13_1 p480 q480
          cases e480
          obtain ⟨ce480, hce480, hMe480, hcc480⟩ := Kd.S_get HO_9.out z24 x13_1 p480 (by first | exact q480 | exact of_decide_eq_true (by first | (with_reducible assumption) | assumption) | (have e_ := (Kd.S_reads' HO_9.out).1; omega))
          obtain ⟨ve480_1, rfl, ge480_1⟩ := k24_openM hMe480
          have hv480_1 := hcc480 1 _ rfl
          rw [add_field _ _ 1 (by omega)] at hv480_1
          replace hv480_1 := Option.some.inj (hv480_1.symm.trans hx480_1)
          rw [hv480_1] at ge480_1
          have HL480_1 := YF (show Kd.R k45 45 _ _ _ _ ((rd_T24 t469 x13_1).f1) from ge480_1)
          clear hv480_1 ge480_1; clear hcc480 hce480; have HR480_1 := YF hi480_1; have HC480_1 := YF hl480_1; clear hi480_1 hl480_1
          replace p480 := eq_true p480
          replace q480 := eq_true q480
          go_wp2_with (first | ((with_reducible refine gate_callee (f := 9) rfl ?_); refine goesL_ (some 48) rfl rfl Try.func9 (by kernel_rfl) rfl #[.agg #[.int .i64 ((rd_T24 t469 x13_1).f0), .slice A480_1 ((rd_T24 t469 x13_1).f1).length c480_1]] rfl (by (try simp only [YG, List.map_cons, List.map_nil]); first | done | rfl | (simp only [YI, YH]; rfl)) ?_; (with_reducible refine (batch_Bytes.calls k1 ((rd_T24 t469 x13_1).f0) _ _ ((rd_T24 t469 x13_1).f1) t481 t484 _ ?side1 ?side2 A11.out).mono ?_); (case side1 => repeat (first | exact (by repeat (first | (with_reducible exact HR480_1.out) | (with_reducible refine Kd.C_alloc ?_ _) | (with_reducible refine Kd.C_drewN ?_ _) | (with_reducible refine Kd.C_drew ?_) | exact HR480_1.out)) | (with_reducible refine Kd.C_alloc ?_ _) | (with_reducible refine Kd.C_drewN ?_ _) | (with_reducible refine Kd.C_drew ?_))); (case side2 => exact HC480_1.out); rintro e w19 ⟨v482, rfl, ho0, hb⟩; refine ⟨_, rfl, ?_⟩; have n0_ := YF (Kd.S_below (by (with_reducible repeat (first | apply Kd.S_alloc | apply Kd.S_drewN | apply Kd.S_drew)); exact HO_9.out) hb); have n1_ := YF (YM (by (with_reducible repeat (first | apply YJ | apply YK | apply YL)); exact HO_11.out) hb); have n2_ := YF (YM (by (with_reducible repeat (first | apply YJ | apply YK | apply YL)); exact HL480_1.out) hb); have n3_ := YF (Kd.R_lower ho0 (YE (by repeat (first | (with_reducible first | exact HB.out | apply YA | apply YB | apply YC) | exact HB.out)))); have n4_ := YF (Kd.C_below (by repeat (first | (with_reducible exact HR480_1.out) | (with_reducible refine Kd.C_alloc ?_ _) | (with_reducible refine Kd.C_drewN ?_ _) | (with_reducible refine Kd.C_drew ?_) | exact HR480_1.out)) hb); have n5_ := YF (YD (by repeat (first | (with_reducible first | exact HB.out | apply YA | apply YB | apply YC) | exact HB.out)) hb); clear HO_9; clear HO_11; clear HL480_1; clear HR480_1; clear HB; have HO_9 := n0_; have HO_11 := n1_; have HL480_1 := n2_; have HO483 := n3_; have HR480_1 := n4_; have HB := n5_; clear n0_ n1_ n2_ n3_ n4_ n5_; (try clear hb); (try clear hb2); (try clear hk); (try clear hi); (try clear ho0); obtain ⟨Ao20, co20, eo20⟩ := Kd.R_slice HO483.out; subst eo20; have p485 : 0 ≤ (x13_1 : Int) := of_decide_eq_true (by first | (with_reducible assumption) | assumption); have q485 : x13_1 < (t469.length : Int) := of_decide_eq_true (by first | (with_reducible assumption) | assumption); obtain ⟨ad485, A485_1, c485_1, e485, hx485_0, hx485_1, hl485_1, hi485_1⟩ := at_T24 (Kd.S_reads' HO_9.out).2.2 x13_1 p485 q485; obtain rfl : ad480 = ad485 := (by injection e485); obtain ⟨ce485, hce485, hMe485, hcc485⟩ := Kd.S_get HO_9.out z24 x13_1 p485 (by first | exact q485 | exact of_decide_eq_true (by first | (with_reducible assumption) | assumption) | (have e_ := (Kd.S_reads' HO_9.out).1; omega)); obtain ⟨ve485_1, rfl, ge485_1⟩ := k24_openM hMe485; have hv485_1 := hcc485 1 _ rfl; rw [add_field _ _ 1 (by omega)] at hv485_1; replace hv485_1 := Option.some.inj (hv485_1.symm.trans hx485_1); rw [hv485_1] at ge485_1; have HL485_1 := YF (show Kd.R k45 45 _ _ _ _ ((rd_T24 t469 x13_1).f1) from ge485_1); clear hv485_1 ge485_1; clear hcc485 hce485; have HR485_1 := YF hi485_1; have HC485_1 := YF hl485_1; clear hi485_1 hl485_1; replace p485 := eq_true p485; replace q485 := eq_true q485) | (go_at_call 19; (with_reducible refine (serial_Far.calls k1 x12_1 ((rd_T24 t469 x13_1).f0) t486 _ A14.out).mono ?_); rintro e w21 ⟨rfl, hb⟩; have n0_ := YF (Kd.S_below (by (with_reducible repeat (first | apply Kd.S_alloc | apply Kd.S_drewN | apply Kd.S_drew)); exact HO_9.out) hb); have n1_ := YF (YM (by (with_reducible repeat (first | apply YJ | apply YK | apply YL)); exact HO_11.out) hb); have n2_ := YF (YM (by (with_reducible repeat (first | apply YJ | apply YK | apply YL)); exact HL480_1.out) hb); have n3_ := YF (YM (by (with_reducible repeat (first | apply YJ | apply YK | apply YL)); exact HO483.out) hb); have n4_ := YF (YM (by (with_reducible repeat (first | apply YJ | apply YK | apply YL)); exact HL485_1.out) hb); have n5_ := YF (Kd.C_below (by repeat (first | (with_reducible exact HR480_1.out) | (with_reducible refine Kd.C_alloc ?_ _) | (with_reducible refine Kd.C_drewN ?_ _) | (with_reducible refine Kd.C_drew ?_) | exact HR480_1.out)) hb); have n6_ := YF (Kd.C_below (by repeat (first | (with_reducible exact HR485_1.out) | (with_reducible refine Kd.C_alloc ?_ _) | (with_reducible refine Kd.C_drewN ?_ _) | (with_reducible refine Kd.C_drew ?_) | exact HR485_1.out)) hb); have n7_ := YF (YD (by repeat (first | (with_reducible first | exact HB.out | apply YA | apply YB | apply YC) | exact HB.out)) hb); clear HO_9; clear HO_11; clear HL480_1; clear HO483; clear HL485_1; clear HR480_1; clear HR485_1; clear HB; have HO_9 := n0_; have HO_11 := n1_; have HL480_1 := n2_; have HO483 := n3_; have HL485_1 := n4_; have HR480_1 := n5_; have HR485_1 := n6_; have HB := n7_; clear n0_ n1_ n2_ n3_ n4_ n5_ n6_ n7_; (try clear hb); (try clear hb2); (try clear hk); (try clear hi); have p487 : 0 ≤ (x13_1 : Int) := of_decide_eq_true (by first | (with_reducible assumption) | assumption); have q487 : x13_1 < (t469.length : Int) := of_decide_eq_true (by first | (with_reducible assumption) | assumption); obtain ⟨ad487, A487_1, c487_1, e487, hx487_0, hx487_1, hl487_1, hi487_1⟩ := at_T24 (Kd.S_reads' HO_9.out).2.2 x13_1 p487 q487; obtain rfl : ad480 = ad487 := (by injection e487); obtain ⟨ce487, hce487, hMe487, hcc487⟩ := Kd.S_get HO_9.out z24 x13_1 p487 (by first | exact q487 | exact of_decide_eq_true (by first | (with_reducible assumption) | assumption) | (have e_ := (Kd.S_reads' HO_9.out).1; omega)); obtain ⟨ve487_1, rfl, ge487_1⟩ := k24_openM hMe487; have hv487_1 := hcc487 1 _ rfl; rw [add_field _ _ 1 (by omega)] at hv487_1; replace hv487_1 := Option.some.inj (hv487_1.symm.trans hx487_1); rw [hv487_1] at ge487_1; have HL487_1 := YF (show Kd.R k45 45 _ _ _ _ ((rd_T24 t469 x13_1).f1) from ge487_1); clear hv487_1 ge487_1; clear hcc487 hce487; have HR487_1 := YF hi487_1; have HC487_1 := YF hl487_1; clear hi487_1 hl487_1; replace p487 := eq_true p487; replace q487 := eq_true q487) | ((with_reducible refine gate_builtin (b := .append) (xs := #[.tmp 69, .tmp 74]) rfl ?_); (try (refine gate_guard (by rfl) ?_; dsimp only)); at_builtin; refine Kd.R_append_rows k45 (w0 := w) w.heap.size rfl (.tmp 69) (.tmp 74) 22 45 (.agg #[(.int .i64 0), (.int .i64 0), (.bool false), (.int .i64 0), (.int .i64 0), (.int .i64 0), (.int .i64 0), (.int .i64 0), (.int .i64 0), (.int .i64 0), (.int .i64 0), (.int .i64 0)]) 96 rfl Try.underlying22 info45 rfl (by decide) (by omega) u11 x11_1 ((rd_T24 t469 x13_1).f1) _ _ _ (fun _ => True) (fun _ => False) rfl rfl ?aO ?aR (fun _ _ h => h) (fun _ h => h.elim) ?aF ?aB ?aS ?aL ?_; (case aR => repeat (first | exact (by repeat (first | (with_reducible exact HR487_1.out) | (with_reducible refine Kd.C_alloc ?_ _) | (with_reducible refine Kd.C_drewN ?_ _) | (with_reducible refine Kd.C_drew ?_) | exact HR487_1.out)) | (with_reducible refine Kd.C_alloc ?_ _) | (with_reducible refine Kd.C_drewN ?_ _) | (with_reducible refine Kd.C_drew ?_))); (case aB => exact (by repeat (first | (with_reducible first | exact HB.out | apply YA | apply YB | apply YC) | exact HB.out))); (case aF => exact (fun _ _ => trivial)); (case aO => exact (by (with_reducible repeat (first | apply YJ | apply YK | apply YL)); exact HO_11.out)); (case aS => exact (YE (by repeat (first | (with_reducible first | exact HB.out | apply YA | apply YB | apply YC) | exact HB.out)))); (case aL => have := LMc16.out; omega); intro v489 w22 ho hb hg hat; rw [← Ny488.out] at ho; have n0_ := YF (Kd.S_after (ok := (fun _ => True)) (by (with_reducible repeat (first | apply Kd.S_alloc | apply Kd.S_drewN | apply Kd.S_drew)); exact Kd.S_mono HO_9.out (fun _ hk => by first | exact ⟨trivial, hk⟩ | exact trivial | (simp [hk]; done) | simp_all)) hg hat); have n1_ := YF (Kd.R_after (ok := (fun k_ => some k_ ≠ (.slice (some ad480) t469.length co18 : Value).ownBlock)) (by (with_reducible repeat (first | apply YJ | apply YK | apply YL)); exact Kd.R_mono HL480_1.out (fun _ hk => ⟨hk.2, hk.1⟩)) hg hat); have n2_ := YF (Kd.R_over' (by (with_reducible repeat (first | apply YJ | apply YK | apply YL)); exact HO483.out) (Kd.R_typed (by (with_reducible repeat (first | apply YJ | apply YK | apply YL)); exact HO_11.out)) (by decide) hg); have n3_ := YF (Kd.R_after (ok := (fun k_ => some k_ ≠ (.slice (some ad480) t469.length co18 : Value).ownBlock)) (by (with_reducible repeat (first | apply YJ | apply YK | apply YL)); exact Kd.R_mono HL485_1.out (fun _ hk => ⟨hk.2, hk.1⟩)) hg hat); have n4_ := YF (Kd.R_after (ok := (fun k_ => some k_ ≠ (.slice (some ad480) t469.length co18 : Value).ownBlock)) (by (with_reducible repeat (first | apply YJ | apply YK | apply YL)); exact Kd.R_mono HL487_1.out (fun _ hk => ⟨hk.2, hk.1⟩)) hg hat); have n5_ := YF (hb); have n6_ := YF (ho); clear HO_9; clear HL480_1; clear HO483; clear HL485_1; clear HL487_1; clear HB; clear HO_11; have HO_9 := n0_; have HL480_1 := n1_; have HO483 := n2_; have HL485_1 := n3_; have HL487_1 := n4_; have HB := n5_; have HO490 := n6_; clear n0_ n1_ n2_ n3_ n4_ n5_ n6_; clear ho hb hg hat) | ((with_reducible refine gate_callee (f := 20) rfl ?_); refine goesL_ (some 77) rfl rfl Try.func20 (by kernel_rfl) rfl #[.int .i64 x12_1] rfl (by (try simp only [YG, List.map_cons, List.map_nil]); first | done | rfl | (simp only [YI, YH]; rfl)) ?_; (with_reducible refine (serial_Next.calls x12_1 t491 _ A17.out).mono ?_); rintro e w' ⟨rfl, ⟨nd, rfl⟩⟩; refine ⟨_, rfl, ?_⟩))
          go_roundg k1
          case measure => have := HK1.out; omega
          case rel => exact ⟨(y488), (t491), (wrap64 (x13_1 + 1)), (by first | rfl | (simp; done) | (simp [*]; done)), (by first | rfl | (simp; done) | (simp [*]; done)), H', ⟨by have := HK1.out; omega⟩, ⟨by (with_reducible repeat (first | apply Kd.S_alloc | apply Kd.S_drewN | apply Kd.S_drew)); exact Kd.S_mono HO_9.out (fun _ hk => by first | exact hk.2 | exact trivial | (simp [hk]; done) | simp_all)⟩, ⟨by (with_reducible repeat (first | apply YJ | apply YK | apply YL)); exact HO490.out⟩, ⟨by repeat (first | (with_reducible first | exact HB.out | apply YA | apply YB | apply YC) | exact HB.out)⟩⟩
        rw [if_neg c9] at H
        have c9b0 : decide (x13_1 < (t469.length : Int)) = false := decide_eq_false c9
        clear c9; replace H := Option.bind_eq_some_iff.mp H
        obtain ⟨⟨t474, t475⟩, A230, H⟩ := H
        replace H : ((thalweglaw05_awake.f k1).bind fun t478 => (if t478 = true then ((thalwegref04_Same.f k1 x11_1 l0).bind fun t479 => (if t479 = true then (if t475 = 0 then (if a3 < a2 then (some true) else (some (decide ((t474.length : Int) ≤ (t469.length : Int))))) else (some true)) else (none))) else (none))) = some r := H
        have A23 := YF A230; clear A230; replace H := Option.bind_eq_some_iff.mp H; obtain ⟨t478, A240, H⟩ := H
        replace H : (if t478 = true then ((thalwegref04_Same.f k1 x11_1 l0).bind fun t479 => (if t479 = true then (if t475 = 0 then (if a3 < a2 then (some true) else (some (decide ((t474.length : Int) ≤ (t469.length : Int))))) else (some true)) else (none))) else (none)) = some r := H
        have A24 := YF A240; clear A240
        by_cases c25 : t478 = true
        · subst c25
          have H1 : ((thalwegref04_Same.f k1 x11_1 l0).bind fun t479 => (if t479 = true then (if t475 = 0 then (if a3 < a2 then (some true) else (some (decide ((t474.length : Int) ≤ (t469.length : Int))))) else (some true)) else (none))) = some r := by rw [if_pos rfl] at H; exact H
          clear H
          have H := H1
          clear H1; replace H := Option.bind_eq_some_iff.mp H; obtain ⟨t479, A260, H⟩ := H
          replace H : (if t479 = true then (if t475 = 0 then (if a3 < a2 then (some true) else (some (decide ((t474.length : Int) ≤ (t469.length : Int))))) else (some true)) else (none)) = some r := H
          have A26 := YF A260; clear A260
          by_cases c27 : t479 = true
          · subst c27
            have H1 : (if t475 = 0 then (if a3 < a2 then (some true) else (some (decide ((t474.length : Int) ≤ (t469.length : Int))))) else (some true)) = some r := by rw [if_pos rfl] at H; exact H
            clear H
            have H := H1
            clear H1
            by_cases c28 : t475 = 0
            · rw [if_pos c28] at H
              have c28b0 : (t475 == 0) = true := beq_iff_eq.mpr c28
              have c28b1 : (t475 != 0) = false := bne_eq_false_iff_eq.mpr c28
              clear c28
              by_cases c29 : a3 < a2
              · rw [if_pos c29] at H
                have c29b0 : decide (a3 < a2) = true := decide_eq_true c29; clear c29
                obtain rfl := Option.some.inj H
                obtain ⟨Ao30, co30, eo30⟩ := Kd.S_slice HO_9.out
                subst eo30
                go_wp2_with (first | ((with_reducible refine gate_callee (f := 15) rfl ?_); refine goesL_ (some 82) rfl rfl Try.func15 (by kernel_rfl) rfl #[.slice A0 l0.length c0, .int .i64 a1, .int .i64 a3] rfl (by (try simp only [YG, List.map_cons, List.map_nil]); first | done | rfl | (simp only [YI, YH]; rfl)) ?_; (with_reducible refine (batch_Pack.calls k1 _ _ l0 a1 a3 t474 t475 _ ?side1 ?side2 A23.out).mono ?_); (case side1 => repeat (first | exact (Kd.C_below HR0.out HB.out) | (with_reducible refine Kd.C_alloc ?_ _) | (with_reducible refine Kd.C_drewN ?_ _) | (with_reducible refine Kd.C_drew ?_))); (case side2 => exact HC0.out); rintro e w31 ⟨v476, rfl, ho0, hb⟩; refine ⟨_, rfl, ?_⟩; have n0_ := YF (Kd.S_elder' (by (with_reducible repeat (first | apply Kd.S_alloc | apply Kd.S_drewN | apply Kd.S_drew)); exact HO_9.out) (Kd.S_base ho0) hb); have n1_ := YF (YM (by (with_reducible repeat (first | apply YJ | apply YK | apply YL)); exact HO_11.out) hb); have n2_ := YF (Kd.S_lower (Kd.S_new' (Kd.S_new' ho0 (Kd.S_lt (by (with_reducible repeat (first | apply Kd.S_alloc | apply Kd.S_drewN | apply Kd.S_drew)); exact HO_9.out))) (Kd.R_lt (by (with_reducible repeat (first | apply YJ | apply YK | apply YL)); exact HO_11.out))) (YE (by repeat (first | (with_reducible first | exact HB.out | apply YA | apply YB | apply YC) | exact HB.out)))); have n3_ := YF (YD (by repeat (first | (with_reducible first | exact HB.out | apply YA | apply YB | apply YC) | exact HB.out)) hb); clear HO_9; clear HO_11; clear HB; have HO_9 := n0_; have HO_11 := n1_; have HO477 := n2_; have HB := n3_; clear n0_ n1_ n2_ n3_; (try clear hb); (try clear hb2); (try clear hk); (try clear hi); (try clear ho0)) | ((with_reducible refine gate_callee (f := 11) rfl ?_); refine goesL_ (some 85) rfl rfl Try.func11 (by kernel_rfl) rfl #[] rfl (by (try simp only [YG, List.map_cons, List.map_nil]); first | done | rfl | (simp only [YI, YH]; rfl)) ?_; (with_reducible refine (thalweglaw05_awake.calls k1  true _ A24.out).mono ?_); rintro e w32 ⟨rfl, hb⟩; refine ⟨_, rfl, ?_⟩; have n0_ := YF (Kd.S_below (by (with_reducible repeat (first | apply Kd.S_alloc | apply Kd.S_drewN | apply Kd.S_drew)); exact HO_9.out) hb); have n1_ := YF (YM (by (with_reducible repeat (first | apply YJ | apply YK | apply YL)); exact HO_11.out) hb); have n2_ := YF (Kd.S_below (by (with_reducible repeat (first | apply Kd.S_alloc | apply Kd.S_drewN | apply Kd.S_drew)); exact HO477.out) hb); have n3_ := YF (YD (by repeat (first | (with_reducible first | exact HB.out | apply YA | apply YB | apply YC) | exact HB.out)) hb); clear HO_9; clear HO_11; clear HO477; clear HB; have HO_9 := n0_; have HO_11 := n1_; have HO477 := n2_; have HB := n3_; clear n0_ n1_ n2_ n3_; (try clear hb); (try clear hb2); (try clear hk); (try clear hi); obtain ⟨Ao33, co33, eo33⟩ := Kd.R_slice HO_11.out; subst eo33) | (go_at_call 14; (with_reducible refine (thalwegref04_Same.calls k1 _ _ x11_1 _ _ l0 true _ ?side1 ?side2 ?side3 ?side4 A26.out).mono ?_); (case side1 => repeat (first | exact (Kd.R_reads' HO_11.out).2.2 | (with_reducible refine Kd.C_alloc ?_ _) | (with_reducible refine Kd.C_drewN ?_ _) | (with_reducible refine Kd.C_drew ?_))); (case side2 => exact (Kd.R_reads' HO_11.out).2.1); (case side3 => repeat (first | exact (Kd.C_below HR0.out HB.out) | (with_reducible refine Kd.C_alloc ?_ _) | (with_reducible refine Kd.C_drewN ?_ _) | (with_reducible refine Kd.C_drew ?_))); (case side4 => exact HC0.out); rintro e w' ⟨rfl, ⟨nd, rfl⟩⟩))
                go_ret
                exact ⟨by first | rfl | (simp [errW_none, errW_some] <;> rfl) | (simp [*, errW_none, errW_some] <;> rfl), by repeat (first | (with_reducible first | exact HB.out | apply YA | apply YB | apply YC) | exact HB.out)⟩
              rw [if_neg c29] at H; have c29b0 : decide (a3 < a2) = false := decide_eq_false c29; clear c29
              obtain rfl := Option.some.inj H
              obtain ⟨Ao34, co34, eo34⟩ := Kd.S_slice HO_9.out
              subst eo34
              go_wp2_with (first | ((with_reducible refine gate_callee (f := 15) rfl ?_); refine goesL_ (some 82) rfl rfl Try.func15 (by kernel_rfl) rfl #[.slice A0 l0.length c0, .int .i64 a1, .int .i64 a3] rfl (by (try simp only [YG, List.map_cons, List.map_nil]); first | done | rfl | (simp only [YI, YH]; rfl)) ?_; (with_reducible refine (batch_Pack.calls k1 _ _ l0 a1 a3 t474 t475 _ ?side1 ?side2 A23.out).mono ?_); (case side1 => repeat (first | exact (Kd.C_below HR0.out HB.out) | (with_reducible refine Kd.C_alloc ?_ _) | (with_reducible refine Kd.C_drewN ?_ _) | (with_reducible refine Kd.C_drew ?_))); (case side2 => exact HC0.out); rintro e w35 ⟨v476, rfl, ho0, hb⟩; refine ⟨_, rfl, ?_⟩; have n0_ := YF (Kd.S_elder' (by (with_reducible repeat (first | apply Kd.S_alloc | apply Kd.S_drewN | apply Kd.S_drew)); exact HO_9.out) (Kd.S_base ho0) hb); have n1_ := YF (YM (by (with_reducible repeat (first | apply YJ | apply YK | apply YL)); exact HO_11.out) hb); have n2_ := YF (Kd.S_lower (Kd.S_new' (Kd.S_new' ho0 (Kd.S_lt (by (with_reducible repeat (first | apply Kd.S_alloc | apply Kd.S_drewN | apply Kd.S_drew)); exact HO_9.out))) (Kd.R_lt (by (with_reducible repeat (first | apply YJ | apply YK | apply YL)); exact HO_11.out))) (YE (by repeat (first | (with_reducible first | exact HB.out | apply YA | apply YB | apply YC) | exact HB.out)))); have n3_ := YF (YD (by repeat (first | (with_reducible first | exact HB.out | apply YA | apply YB | apply YC) | exact HB.out)) hb); clear HO_9; clear HO_11; clear HB; have HO_9 := n0_; have HO_11 := n1_; have HO477 := n2_; have HB := n3_; clear n0_ n1_ n2_ n3_; (try clear hb); (try clear hb2); (try clear hk); (try clear hi); (try clear ho0)) | ((with_reducible refine gate_callee (f := 11) rfl ?_); refine goesL_ (some 85) rfl rfl Try.func11 (by kernel_rfl) rfl #[] rfl (by (try simp only [YG, List.map_cons, List.map_nil]); first | done | rfl | (simp only [YI, YH]; rfl)) ?_; (with_reducible refine (thalweglaw05_awake.calls k1  true _ A24.out).mono ?_); rintro e w36 ⟨rfl, hb⟩; refine ⟨_, rfl, ?_⟩; have n0_ := YF (Kd.S_below (by (with_reducible repeat (first | apply Kd.S_alloc | apply Kd.S_drewN | apply Kd.S_drew)); exact HO_9.out) hb); have n1_ := YF (YM (by (with_reducible repeat (first | apply YJ | apply YK | apply YL)); exact HO_11.out) hb); have n2_ := YF (Kd.S_below (by (with_reducible repeat (first | apply Kd.S_alloc | apply Kd.S_drewN | apply Kd.S_drew)); exact HO477.out) hb); have n3_ := YF (YD (by repeat (first | (with_reducible first | exact HB.out | apply YA | apply YB | apply YC) | exact HB.out)) hb); clear HO_9; clear HO_11; clear HO477; clear HB; have HO_9 := n0_; have HO_11 := n1_; have HO477 := n2_; have HB := n3_; clear n0_ n1_ n2_ n3_; (try clear hb); (try clear hb2); (try clear hk); (try clear hi); obtain ⟨Ao37, co37, eo37⟩ := Kd.R_slice HO_11.out; subst eo37) | (go_at_call 14; (with_reducible refine (thalwegref04_Same.calls k1 _ _ x11_1 _ _ l0 true _ ?side1 ?side2 ?side3 ?side4 A26.out).mono ?_); (case side1 => repeat (first | exact (Kd.R_reads' HO_11.out).2.2 | (with_reducible refine Kd.C_alloc ?_ _) | (with_reducible refine Kd.C_drewN ?_ _) | (with_reducible refine Kd.C_drew ?_))); (case side2 => exact (Kd.R_reads' HO_11.out).2.1); (case side3 => repeat (first | exact (Kd.C_below HR0.out HB.out) | (with_reducible refine Kd.C_alloc ?_ _) | (with_reducible refine Kd.C_drewN ?_ _) | (with_reducible refine Kd.C_drew ?_))); (case side4 => exact HC0.out); rintro e w' ⟨rfl, ⟨nd, rfl⟩⟩; obtain ⟨Ao38, co38, eo38⟩ := Kd.S_slice HO477.out; subst eo38))
              go_ret
              exact ⟨by first | rfl | (simp [errW_none, errW_some] <;> rfl) | (simp [*, errW_none, errW_some] <;> rfl), by repeat (first | (with_reducible first | exact HB.out | apply YA | apply YB | apply YC) | exact HB.out)⟩
            rw [if_neg c28] at H
            have c28b0 : (t475 == 0) = false := beq_eq_false_iff_ne.mpr c28
            have c28b1 : (t475 != 0) = true := bne_iff_ne.mpr c28
            obtain rfl := Option.some.inj H
            obtain ⟨Ao39, co39, eo39⟩ := Kd.S_slice HO_9.out
            subst eo39
            go_wp2_with (first | ((with_reducible refine gate_callee (f := 15) rfl ?_); refine goesL_ (some 82) rfl rfl Try.func15 (by kernel_rfl) rfl #[.slice A0 l0.length c0, .int .i64 a1, .int .i64 a3] rfl (by (try simp only [YG, List.map_cons, List.map_nil]); first | done | rfl | (simp only [YI, YH]; rfl)) ?_; (with_reducible refine (batch_Pack.calls k1 _ _ l0 a1 a3 t474 t475 _ ?side1 ?side2 A23.out).mono ?_); (case side1 => repeat (first | exact (Kd.C_below HR0.out HB.out) | (with_reducible refine Kd.C_alloc ?_ _) | (with_reducible refine Kd.C_drewN ?_ _) | (with_reducible refine Kd.C_drew ?_))); (case side2 => exact HC0.out); rintro e w40 ⟨v476, rfl, ho0, hb⟩; refine ⟨_, rfl, ?_⟩; have n0_ := YF (Kd.S_elder' (by (with_reducible repeat (first | apply Kd.S_alloc | apply Kd.S_drewN | apply Kd.S_drew)); exact HO_9.out) (Kd.S_base ho0) hb); have n1_ := YF (YM (by (with_reducible repeat (first | apply YJ | apply YK | apply YL)); exact HO_11.out) hb); have n2_ := YF (Kd.S_lower (Kd.S_new' (Kd.S_new' ho0 (Kd.S_lt (by (with_reducible repeat (first | apply Kd.S_alloc | apply Kd.S_drewN | apply Kd.S_drew)); exact HO_9.out))) (Kd.R_lt (by (with_reducible repeat (first | apply YJ | apply YK | apply YL)); exact HO_11.out))) (YE (by repeat (first | (with_reducible first | exact HB.out | apply YA | apply YB | apply YC) | exact HB.out)))); have n3_ := YF (YD (by repeat (first | (with_reducible first | exact HB.out | apply YA | apply YB | apply YC) | exact HB.out)) hb); clear HO_9; clear HO_11; clear HB; have HO_9 := n0_; have HO_11 := n1_; have HO477 := n2_; have HB := n3_; clear n0_ n1_ n2_ n3_; (try clear hb); (try clear hb2); (try clear hk); (try clear hi); (try clear ho0)) | ((with_reducible refine gate_callee (f := 11) rfl ?_); refine goesL_ (some 85) rfl rfl Try.func11 (by kernel_rfl) rfl #[] rfl (by (try simp only [YG, List.map_cons, List.map_nil]); first | done | rfl | (simp only [YI, YH]; rfl)) ?_; (with_reducible refine (thalweglaw05_awake.calls k1  true _ A24.out).mono ?_); rintro e w41 ⟨rfl, hb⟩; refine ⟨_, rfl, ?_⟩; have n0_ := YF (Kd.S_below (by (with_reducible repeat (first | apply Kd.S_alloc | apply Kd.S_drewN | apply Kd.S_drew)); exact HO_9.out) hb); have n1_ := YF (YM (by (with_reducible repeat (first | apply YJ | apply YK | apply YL)); exact HO_11.out) hb); have n2_ := YF (Kd.S_below (by (with_reducible repeat (first | apply Kd.S_alloc | apply Kd.S_drewN | apply Kd.S_drew)); exact HO477.out) hb); have n3_ := YF (YD (by repeat (first | (with_reducible first | exact HB.out | apply YA | apply YB | apply YC) | exact HB.out)) hb); clear HO_9; clear HO_11; clear HO477; clear HB; have HO_9 := n0_; have HO_11 := n1_; have HO477 := n2_; have HB := n3_; clear n0_ n1_ n2_ n3_; (try clear hb); (try clear hb2); (try clear hk); (try clear hi); obtain ⟨Ao42, co42, eo42⟩ := Kd.R_slice HO_11.out; subst eo42) | (go_at_call 14; (with_reducible refine (thalwegref04_Same.calls k1 _ _ x11_1 _ _ l0 true _ ?side1 ?side2 ?side3 ?side4 A26.out).mono ?_); (case side1 => repeat (first | exact (Kd.R_reads' HO_11.out).2.2 | (with_reducible refine Kd.C_alloc ?_ _) | (with_reducible refine Kd.C_drewN ?_ _) | (with_reducible refine Kd.C_drew ?_))); (case side2 => exact (Kd.R_reads' HO_11.out).2.1); (case side3 => repeat (first | exact (Kd.C_below HR0.out HB.out) | (with_reducible refine Kd.C_alloc ?_ _) | (with_reducible refine Kd.C_drewN ?_ _) | (with_reducible refine Kd.C_drew ?_))); (case side4 => exact HC0.out); rintro e w' ⟨rfl, ⟨nd, rfl⟩⟩))
            go_ret
            exact ⟨by first | rfl | (simp [errW_none, errW_some] <;> rfl) | (simp [*, errW_none, errW_some] <;> rfl), by repeat (first | (with_reducible first | exact HB.out | apply YA | apply YB | apply YC) | exact HB.out)⟩
          replace c27 := Bool.eq_false_iff.mpr c27
          subst c27
          have H1 : (none) = some r := by rw [if_neg (show ¬ (false = true) by decide)] at H; exact H
          clear H
          have H := H1
          clear H1
          exact absurd H (by simp)
        replace c25 := Bool.eq_false_iff.mpr c25
        subst c25
        have H1 : (none) = some r := by rw [if_neg (show ¬ (false = true) by decide)] at H; exact H
        clear H
        have H := H1
        clear H1
        exact absurd H (by simp)
  rw [if_neg c7] at H
  have c7b0 : (t470 == 0) = false := beq_eq_false_iff_ne.mpr c7
  have c7b1 : (t470 != 0) = true := bne_iff_ne.mpr c7
  replace H := Option.bind_eq_some_iff.mp H; obtain ⟨t473, A430, H⟩ := H
  replace H : (if t473 = true then (some ((t469.length : Int) == 0)) else (none)) = some r := H
  have A43 := YF A430; clear A430
  by_cases c44 : t473 = true
  · subst c44
    have H1 : (some ((t469.length : Int) == 0)) = some r := by rw [if_pos rfl] at H; exact H
    clear H
    have H := H1
    clear H1
    obtain rfl := Option.some.inj H
    go_enter Try.func6, Try.ntmps6
    go_wp2_with (first | ((with_reducible refine gate_callee (f := 15) rfl ?_); refine goesL_ (some 25) rfl rfl Try.func15 (by kernel_rfl) rfl #[.slice A0 l0.length c0, .int .i64 a1, .int .i64 a2] rfl (by (try simp only [YG, List.map_cons, List.map_nil]); first | done | rfl | (simp only [YI, YH]; rfl)) ?_; (with_reducible refine (batch_Pack.calls k _ _ l0 a1 a2 t469 t470 _ ?side1 ?side2 A6.out).mono ?_); (case side1 => repeat (first | exact HR0.out | (with_reducible refine Kd.C_alloc ?_ _) | (with_reducible refine Kd.C_drewN ?_ _) | (with_reducible refine Kd.C_drew ?_))); (case side2 => exact HC0.out); rintro e w45 ⟨v471, rfl, ho0, hb⟩; refine ⟨_, rfl, ?_⟩; have n0_ := YF (Kd.S_lower ho0 (YE (by repeat (first | (with_reducible first | exact HB.out | apply YA | apply YB | apply YC) | exact HB.out)))); have n1_ := YF (YD (by repeat (first | (with_reducible first | exact HB.out | apply YA | apply YB | apply YC) | exact HB.out)) hb); clear HB; have HO472 := n0_; have HB := n1_; clear n0_ n1_; (try clear hb); (try clear hb2); (try clear hk); (try clear hi); (try clear ho0)) | ((with_reducible refine gate_callee (f := 11) rfl ?_); refine goesL_ (some 30) rfl rfl Try.func11 (by kernel_rfl) rfl #[] rfl (by (try simp only [YG, List.map_cons, List.map_nil]); first | done | rfl | (simp only [YI, YH]; rfl)) ?_; (with_reducible refine (thalweglaw05_awake.calls k  true _ A43.out).mono ?_); rintro e w46 ⟨rfl, hb⟩; refine ⟨_, rfl, ?_⟩; have n0_ := YF (Kd.S_below (by (with_reducible repeat (first | apply Kd.S_alloc | apply Kd.S_drewN | apply Kd.S_drew)); exact HO472.out) hb); have n1_ := YF (YD (by repeat (first | (with_reducible first | exact HB.out | apply YA | apply YB | apply YC) | exact HB.out)) hb); clear HO472; clear HB; have HO472 := n0_; have HB := n1_; clear n0_ n1_; (try clear hb); (try clear hb2); (try clear hk); (try clear hi); obtain ⟨Ao47, co47, eo47⟩ := Kd.S_slice HO472.out; subst eo47))
    go_ret
    exact ⟨by first | rfl | (simp [errW_none, errW_some] <;> rfl) | (simp [*, errW_none, errW_some] <;> rfl), by repeat (first | (with_reducible first | exact HB.out | apply YA | apply YB | apply YC) | exact HB.out)⟩
  replace c44 := Bool.eq_false_iff.mpr c44
  subst c44
  have H1 : (none) = some r := by rw [if_neg (show ¬ (false = true) by decide)] at H; exact H
  clear H
  have H := H1
  clear H1
  exact absurd H (by simp)
end Go.Proofs.Ytfigbjjaffkidaa.P
namespace Go.Proofs.Ytfigbjjaffkidaa.P
open Go.RowKit Go.Proofs.YtfigbjjaffkidaaW.PrintWords
def thalweglaw05_BatchWhole.Pure : Prop := ∀ (l0 : List S45) (a1 : Int) (a2 : Int) (a3 : Int), (l0.length ≤ maxLen ∧ ∀ x0_ ∈ l0, ((Lit.int .i64 x0_.f0).wf = true ∧ (Lit.int .i64 x0_.f1).wf = true ∧ (True ∧ (Lit.int .i64 x0_.f2.f1).wf = true ∧ (Lit.int .i64 x0_.f2.f2).wf = true ∧ (Lit.int .i64 x0_.f2.f3).wf = true ∧ (Lit.int .i64 x0_.f2.f4).wf = true ∧ (Lit.int .i64 x0_.f2.f5).wf = true) ∧ ((Lit.int .i64 x0_.f3.f0).wf = true ∧ (Lit.int .i64 x0_.f3.f1).wf = true ∧ (Lit.int .i64 x0_.f3.f2).wf = true) ∧ (Lit.int .i64 x0_.f4).wf = true)) → (Lit.int .i64 a1).wf = true → (Lit.int .i64 a2).wf = true → (Lit.int .i64 a3).wf = true → ∃ k, thalweglaw05_BatchWhole.f k l0 a1 a2 a3 = some true
end Go.Proofs.Ytfigbjjaffkidaa.P
namespace Go.Proofs.Ytfigbjjaffkidaa.P
open Go.RowKit Go.Proofs.YtfigbjjaffkidaaW.PrintWords Go.Proofs.YtfigbjjaffkidaaW.PrintLast Go.Proofs.YtfigbjjaffkidaaW.PrintMore
theorem wire_Int_eq (v : Int) : wire_Int.f v = some (intSpec v) := by
  unfold wire_Int.f wire_bytes.f intSpec
  rw [wrap_u64, if_pos (by omega)]
  rfl
end Go.Proofs.Ytfigbjjaffkidaa.P
namespace Go.Proofs.Ytfigbjjaffkidaa.P
open Go.RowKit Go.Proofs.YtfigbjjaffkidaaW.PrintWords Go.Proofs.YtfigbjjaffkidaaW.PrintLast Go.Proofs.YtfigbjjaffkidaaW.PrintMore
theorem intSpec_length (v : Int) : (intSpec v).length = 8 := be_length _ _
theorem ob_no (a0 a1 : Int) (a2 : Bool) (a3 a4 a5 a6 a7 a8 a9 a10 a11 c : Int) (h : Ev (fun k => object_Check.f k a0 a1 a2 a3 a4 a5 a6 a7 a8 a9 a10 a11) c) (hc : c ≠ 0) :
    Ev (fun k => object_Bytes.f k a0 a1 a2 a3 a4 a5 a6 a7 a8 a9 a10 a11) ([], c) := by
  unfold object_Bytes.f
  refine Ev.bind h ?_
  simp only [if_neg hc]
  exact Ev.now _
theorem os_ev (a0 a1 : Int) (a2 : Bool) (a3 a4 a5 a6 a7 a8 a9 a10 a11 : Int) (out : List Int × Int) (h : Ev (fun k => object_Bytes.f k a0 a1 a2 a3 a4 a5 a6 a7 a8 a9 a10 a11) out) :
    Ev (fun k => object_Size.f k a0 a1 a2 a3 a4 a5 a6 a7 a8 a9 a10 a11) (out.1.length : Int) := by
  unfold object_Size.f
  exact Ev.bind h (Ev.now _)
end Go.Proofs.Ytfigbjjaffkidaa.P
namespace Go.Proofs.Ytfigbjjaffkidaa.P
open Go.RowKit Go.Proofs.YtfigbjjaffkidaaW.PrintWords Go.Proofs.YtfigbjjaffkidaaW.PrintLast Go.Proofs.YtfigbjjaffkidaaW.PrintMore
def RH (n : Bool) (a b c d e : Int) : Prop := (0 ≤ e ∧ e < 64) ∧ ((n = true ∧ a = 0 ∧ b = 0 ∧ c = 0 ∧ d = 0) ∨ (n = false ∧ 0 ≤ a ∧ a ≤ 4611686018427387903 ∧ 0 ≤ b ∧ b < 64 ∧ 0 ≤ c ∧ c ≤ 1 ∧ -1099511627776 ≤ d ∧ d ≤ 1099511627776))
instance (n : Bool) (a b c d e : Int) : Decidable (RH n a b c d e) := by unfold RH; infer_instance
theorem hj_eq (k : Nat) (n x : Bool) (a b c d e : Int) : height_Check.j0 (k + 1) x n a b c d e = some (if x = true ∧ ((n = true ∧ a = 0 ∧ b = 0 ∧ c = 0 ∧ d = 0) ∨ (n = false ∧ 0 ≤ a ∧ a ≤ 4611686018427387903 ∧ 0 ≤ b ∧ b < 64 ∧ 0 ≤ c ∧ c ≤ 1 ∧ -1099511627776 ≤ d ∧ d ≤ 1099511627776)) then 0 else 1) := by
  simp only [height_Check.j0, height_Null.f, Option.bind_some]
  cases n <;> cases x <;> simp only [Bool.true_and, beq_self_eq_true, Bool.and_true, Bool.and_eq_true, beq_iff_eq, if_true, Bool.false_eq_true, if_false, true_and, false_and, or_false, false_or, Bool.true_eq_false, reduceCtorEq]
  · repeat' split
    all_goals first
      | rfl
      | (exfalso; omega)
  · by_cases h : a = 0 ∧ b = 0 ∧ c = 0 ∧ d = 0
    · rw [if_pos h, if_pos h]
    · rw [if_neg h, if_neg h]
theorem hc_eq (n : Bool) (a b c d e : Int) : Ev (fun k => height_Check.f k n a b c d e) (if RH n a b c d e then 0 else 1) := by
  unfold height_Check.f
  refine Ev.from 1 fun k => ?_
  rw [hj_eq, hj_eq]
  unfold RH
  by_cases h : e ≥ 0
  · rw [if_pos h]
    congr 1
    have h0 : 0 ≤ e := h
    simp only [decide_eq_true_eq, h0, true_and]
  · rw [if_neg h]
    have : ¬ 0 ≤ e := h
    simp only [this, false_and, Bool.false_eq_true]
theorem ha_eq (a b c d e : Int) : ∃ t : Bool × Int × Int × Int × Int × Int × Int, Ev (fun k => height_At.f k a b c d e) t ∧ t.2.2.2.2.2.2 = (if RH false a b c d e then 0 else 1) := by
  unfold height_At.f
  by_cases h : RH false a b c d e
  · have := hc_eq false a b c d e
    rw [if_pos h] at this
    rw [if_pos h]
    exact ⟨(false, a, b, c, d, e, 0), Ev.bind this (by simp only [if_true]; exact Ev.now _), rfl⟩
  · have := hc_eq false a b c d e
    rw [if_neg h] at this
    rw [if_neg h]
    exact ⟨(false, 0, 0, 0, 0, 0, 1), Ev.bind this (by simp only [if_neg (show ¬ (1 : Int) = 0 by decide)]; exact Ev.now _), rfl⟩
theorem ev_eq {α : Type} {g : Nat → Option α} {a b : α} (h : Ev g a) (e : a = b) : Ev g b := e ▸ h
end Go.Proofs.Ytfigbjjaffkidaa.P
namespace Go.Proofs.Ytfigbjjaffkidaa.P
open Go.RowKit Go.Proofs.YtfigbjjaffkidaaW.PrintWords Go.Proofs.YtfigbjjaffkidaaW.PrintLast Go.Proofs.YtfigbjjaffkidaaW.PrintMore
def RO (a0 a1 : Int) (a2 : Bool) (a3 a4 a5 a6 a7 a8 a9 a10 a11 : Int) : Prop := (0 ≤ a1 ∧ a1 < 64) ∧
  ((a0 = 1 ∧ (a8 = 0 ∧ a9 = 0 ∧ a10 = 0) ∧ (a2 = false ∧ a3 = 0 ∧ a4 = 0 ∧ a5 = 0 ∧ a6 = 0 ∧ a7 = 0) ∧ a11 = 0) ∨
   (a0 = 2 ∧ (a8 = 0 ∧ a9 = 0 ∧ a10 = 0) ∧ a11 = 0 ∧ RH a2 a3 a4 a5 a6 a7) ∨
   (a0 = 3 ∧ (a2 = false ∧ a3 = 0 ∧ a4 = 0 ∧ a5 = 0 ∧ a6 = 0 ∧ a7 = 0) ∧ a11 = 0 ∧ RH false a8 a9 a10 0 0) ∨
   (a0 = 4 ∧ (a8 = 0 ∧ a9 = 0 ∧ a10 = 0) ∧ 0 ≤ a11 ∧ a11 ≤ 65535 ∧ RH a2 a3 a4 a5 a6 a7 ∧ a2 = false))
instance (a0 a1 : Int) (a2 : Bool) (a3 a4 a5 a6 a7 a8 a9 a10 a11 : Int) : Decidable (RO a0 a1 a2 a3 a4 a5 a6 a7 a8 a9 a10 a11) := by unfold RO; infer_instance
theorem oj1_eq (x4 : Bool) (a0 a1 : Int) (a2 : Bool) (a3 a4 a5 a6 a7 a8 a9 a10 a11 : Int) (b2 : Bool) (b3 b4 b5 b6 b7 b8 b9 b10 b11 : Int) :
    Ev (fun k => object_Check.j1 k x4 a0 a1 a2 a3 a4 a5 a6 a7 a8 a9 a10 a11 0 0 b2 b3 b4 b5 b6 b7 b8 b9 b10 b11) (if x4 = true ∧ RH a2 a3 a4 a5 a6 a7 ∧ (b8 = 0 ∧ b9 = 0 ∧ b10 = 0) ∧ b11 = 0 then 0 else 1) := by
  refine Ev.step (f := fun k => _) (fun k => by simp only [object_Check.j1]; rfl) ?_
  cases x4 with
  | false => simp only [Bool.false_eq_true, if_false, false_and]; exact Ev.now _
  | true =>
    simp only [if_true, true_and]
    refine Ev.bind (hc_eq a2 a3 a4 a5 a6 a7) ?_
    by_cases h : RH a2 a3 a4 a5 a6 a7
    · simp only [if_pos h, if_true, h, true_and]
      by_cases g : (b8 = 0 ∧ b9 = 0 ∧ b10 = 0) ∧ b11 = 0
      · obtain ⟨⟨rfl, rfl, rfl⟩, rfl⟩ := g
        simp only [and_self, if_true]
        exact Ev.now _
      · rw [if_neg g]
        have : (!((0 : Int) == 0) || (!((0 : Int) == 0) || ((!(b8 == 0) || (!(b9 == 0) || (!(b10 == 0)))) || (!(b11 == 0))))) = true := by
          rw [← Bool.not_eq_false]
          intro hf
          simp only [Bool.or_eq_false_iff, Bool.not_eq_false', beq_iff_eq] at hf
          exact g ⟨⟨hf.2.2.1.1, hf.2.2.1.2.1, hf.2.2.1.2.2⟩, hf.2.2.2⟩
        simp only [if_pos this]
        exact Ev.now _
    · simp only [if_neg h, h, false_and, if_false, show ¬ (1 : Int) = 0 by decide]
      exact Ev.now _
theorem oc_eq (a0 a1 : Int) (a2 : Bool) (a3 a4 a5 a6 a7 a8 a9 a10 a11 : Int) : Ev (fun k => object_Check.f k a0 a1 a2 a3 a4 a5 a6 a7 a8 a9 a10 a11) (if RO a0 a1 a2 a3 a4 a5 a6 a7 a8 a9 a10 a11 then 0 else 1) := by
  have hj : ∀ x : Bool, Ev (fun k => object_Check.j0 k x a0 a1 a2 a3 a4 a5 a6 a7 a8 a9 a10 a11 0 0 a2 a3 a4 a5 a6 a7 a8 a9 a10 a11) (if x = true ∧
    ((a0 = 1 ∧ (a8 = 0 ∧ a9 = 0 ∧ a10 = 0) ∧ (a2 = false ∧ a3 = 0 ∧ a4 = 0 ∧ a5 = 0 ∧ a6 = 0 ∧ a7 = 0) ∧ a11 = 0) ∨
     (a0 = 2 ∧ (a8 = 0 ∧ a9 = 0 ∧ a10 = 0) ∧ a11 = 0 ∧ RH a2 a3 a4 a5 a6 a7) ∨
     (a0 = 3 ∧ (a2 = false ∧ a3 = 0 ∧ a4 = 0 ∧ a5 = 0 ∧ a6 = 0 ∧ a7 = 0) ∧ a11 = 0 ∧ RH false a8 a9 a10 0 0) ∨
     (a0 = 4 ∧ (a8 = 0 ∧ a9 = 0 ∧ a10 = 0) ∧ 0 ≤ a11 ∧ a11 ≤ 65535 ∧ RH a2 a3 a4 a5 a6 a7 ∧ a2 = false)) then 0 else 1) := by
    intro x
    refine Ev.step (f := fun k => _) (fun k => by simp only [object_Check.j0]; rfl) ?_
    by_cases h1 : a0 = 1
    · subst h1
      simp only [if_true, show ¬ (1 : Int) = 2 by decide, show ¬ (1 : Int) = 3 by decide, show ¬ (1 : Int) = 4 by decide, false_and, or_false, true_and]
      cases x with
      | false => simp only [Bool.false_eq_true, if_false, false_and]; exact Ev.now _
      | true =>
        simp only [if_true, true_and]
        by_cases g : (a8 = 0 ∧ a9 = 0 ∧ a10 = 0) ∧ (a2 = false ∧ a3 = 0 ∧ a4 = 0 ∧ a5 = 0 ∧ a6 = 0 ∧ a7 = 0) ∧ a11 = 0
        · rw [if_pos g]
          obtain ⟨⟨rfl, rfl, rfl⟩, ⟨rfl, rfl, rfl, rfl, rfl, rfl⟩, rfl⟩ := g
          exact Ev.now _
        · rw [if_neg g]
          have : (!((0 : Int) == 0) || (!((0 : Int) == 0) || ((a2 || (!(a3 == 0) || (!(a4 == 0) || (!(a5 == 0) || (!(a6 == 0) || (!(a7 == 0))))))) || ((!(a8 == 0) || (!(a9 == 0) || (!(a10 == 0)))) || (!(a11 == 0)))))) = true := by
            rw [← Bool.not_eq_false]
            intro hf
            simp only [Bool.or_eq_false_iff, Bool.not_eq_false', beq_iff_eq] at hf
            obtain ⟨_, _, ⟨u2, u3, u4, u5, u6, u7⟩, ⟨u8, u9, u10⟩, u11⟩ := hf
            exact g ⟨⟨u8, u9, u10⟩, ⟨u2, u3, u4, u5, u6, u7⟩, u11⟩
          simp only [if_pos this]
          exact Ev.now _
    by_cases h4 : a0 = 4
    · subst h4
      simp only [if_true, if_neg h1, show ¬ (4 : Int) = 1 by decide, show ¬ (4 : Int) = 2 by decide, show ¬ (4 : Int) = 3 by decide, false_and, false_or, true_and]
      cases x with
      | false =>
        simp only [Bool.false_eq_true, if_false, false_and]
        refine ev_eq (oj1_eq _ _ _ _ _ _ _ _ _ _ _ _ _ _ _ _ _ _ _ _ _ _ _) ?_
        simp only [Bool.false_eq_true, false_and, if_false]
      | true =>
        simp only [if_true, true_and]
        cases a2 with
        | true =>
          simp only [if_true, Bool.true_eq_false, and_false, if_false]
          refine ev_eq (oj1_eq _ _ _ _ _ _ _ _ _ _ _ _ _ _ _ _ _ _ _ _ _ _ _) ?_
          simp only [Bool.false_eq_true, false_and, if_false]
        | false =>
          simp only [Bool.false_eq_true, if_false, and_true]
          by_cases g : a11 ≥ 0
          · simp only [if_pos g]
            refine ev_eq (oj1_eq _ _ _ _ _ _ _ _ _ _ _ _ _ _ _ _ _ _ _ _ _ _ _) ?_
            have g0 : 0 ≤ a11 := g
            simp only [decide_eq_true_eq, g0, true_and, and_true]
            congr 1
            apply propext
            constructor
            · rintro ⟨u, v, w⟩; exact ⟨w, u, v⟩
            · rintro ⟨w, u, v⟩; exact ⟨u, v, w⟩
          · simp only [if_neg g]
            refine ev_eq (oj1_eq _ _ _ _ _ _ _ _ _ _ _ _ _ _ _ _ _ _ _ _ _ _ _) ?_
            have g' : ¬ 0 ≤ a11 := g
            simp only [g', Bool.false_eq_true, false_and, and_false, if_false]
    by_cases h2 : a0 = 2
    · subst h2
      simp only [if_neg h1, if_neg h4, if_true, show ¬ (2 : Int) = 1 by decide, show ¬ (2 : Int) = 4 by decide, show ¬ (2 : Int) = 3 by decide, false_and, false_or, or_false, true_and]
      refine ev_eq (oj1_eq _ _ _ _ _ _ _ _ _ _ _ _ _ _ _ _ _ _ _ _ _ _ _) ?_
      congr 1
      apply propext
      constructor
      · rintro ⟨u, v, w, z⟩; exact ⟨u, w, z, v⟩
      · rintro ⟨u, w, z, v⟩; exact ⟨u, v, w, z⟩
    by_cases h3 : a0 = 3
    · subst h3
      simp only [if_neg h1, if_neg h4, if_neg h2, if_true, show ¬ (3 : Int) = 1 by decide, show ¬ (3 : Int) = 4 by decide, show ¬ (3 : Int) = 2 by decide, false_and, false_or, or_false, true_and]
      obtain ⟨t, ht, he⟩ := ha_eq a8 a9 a10 0 0
      refine Ev.bind ht ?_
      rw [he]
      cases x with
      | false => simp only [Bool.false_eq_true, if_false, false_and]; exact Ev.now _
      | true =>
        simp only [if_true, true_and]
        by_cases h : RH false a8 a9 a10 0 0
        · simp only [if_pos h, h, if_true, and_true]
          by_cases g : (a2 = false ∧ a3 = 0 ∧ a4 = 0 ∧ a5 = 0 ∧ a6 = 0 ∧ a7 = 0) ∧ a11 = 0
          · rw [if_pos g]
            obtain ⟨⟨rfl, rfl, rfl, rfl, rfl, rfl⟩, rfl⟩ := g
            exact Ev.now _
          · rw [if_neg g]
            have : (!((0 : Int) == 0) || (!((0 : Int) == 0) || ((a2 || (!(a3 == 0) || (!(a4 == 0) || (!(a5 == 0) || (!(a6 == 0) || (!(a7 == 0))))))) || (!(a11 == 0))))) = true := by
              rw [← Bool.not_eq_false]
              intro hf
              simp only [Bool.or_eq_false_iff, Bool.not_eq_false', beq_iff_eq] at hf
              obtain ⟨_, _, ⟨u2, u3, u4, u5, u6, u7⟩, u11⟩ := hf
              exact g ⟨⟨u2, u3, u4, u5, u6, u7⟩, u11⟩
            simp only [if_pos this]
            exact Ev.now _
        · simp only [if_neg h, h, show ¬ (1 : Int) = 0 by decide, if_false, and_false]
          exact Ev.now _
    · simp only [if_neg h1, if_neg h4, if_neg h2, if_neg h3, h1, h2, h3, h4, false_and, or_false, and_false, if_false]
      exact Ev.now _
  unfold object_Check.f RO
  by_cases h : a1 ≥ 0
  · simp only [if_pos h]
    refine ev_eq (hj _) ?_
    have g0 : 0 ≤ a1 := h
    simp only [decide_eq_true_eq, g0, true_and]
  · simp only [if_neg h]
    refine ev_eq (hj _) ?_
    have h' : ¬ 0 ≤ a1 := h
    simp only [h', Bool.false_eq_true, false_and, and_false, if_false]
end Go.Proofs.Ytfigbjjaffkidaa.P
namespace Go.Proofs.Ytfigbjjaffkidaa.P
open Go.RowKit Go.Proofs.YtfigbjjaffkidaaW.PrintWords Go.Proofs.YtfigbjjaffkidaaW.PrintLast Go.Proofs.YtfigbjjaffkidaaW.PrintMore
def hB (n : Bool) (a b c d e : Int) : List Int := if n = true then [0, e % 256] else [1] ++ intSpec a ++ [b % 256, c % 256] ++ intSpec d ++ [e % 256]
theorem hB_length (n : Bool) (a b c d e : Int) : (hB n a b c d e).length = if n = true then 2 else 20 := by
  unfold hB
  cases n
  · simp only [Bool.false_eq_true, if_false, List.length_append, intSpec_length, List.length_cons, List.length_nil]
  · rfl
theorem hb_eq (n : Bool) (a b c d e : Int) (h : RH n a b c d e) : Ev (fun k => height_Bytes.f k n a b c d e) (hB n a b c d e, 0) := by
  have hc := hc_eq n a b c d e
  rw [if_pos h] at hc
  unfold height_Bytes.f hB
  refine Ev.bind hc ?_
  cases n with
  | true =>
    simp only [if_true, List.length_nil, List.nil_append, Option.bind_some, List.length_singleton]
    simp only [show (0 : Nat) < 140737488355328 by decide, show (1 : Nat) < 140737488355328 by decide, if_true]
    exact Ev.now _
  | false =>
    simp only [if_true, Bool.false_eq_true, if_false, List.length_nil, List.nil_append, Option.bind_some, List.length_singleton, wire_Int_eq, List.length_append, intSpec_length, List.length_cons]
    simp only [show (0 : Nat) < 140737488355328 by decide, Nat.reduceAdd, Nat.reduceLT, if_true]
    exact Ev.now _
def oB (a0 a1 : Int) (a2 : Bool) (a3 a4 a5 a6 a7 a8 a9 a10 a11 : Int) : List Int :=
  [a0 % 256, a1 % 256] ++ (if a0 = 1 then [] else if a0 = 3 then intSpec a8 ++ [a9 % 256, a10 % 256] else if a0 = 4 then hB a2 a3 a4 a5 a6 a7 ++ [a11 / 256 % 256, a11 % 256] else hB a2 a3 a4 a5 a6 a7)
theorem obx (a0 a1 : Int) (a2 : Bool) (a3 a4 a5 a6 a7 a8 a9 a10 a11 : Int) (h : RO a0 a1 a2 a3 a4 a5 a6 a7 a8 a9 a10 a11) :
    Ev (fun k => object_Bytes.f k a0 a1 a2 a3 a4 a5 a6 a7 a8 a9 a10 a11) (oB a0 a1 a2 a3 a4 a5 a6 a7 a8 a9 a10 a11, 0) := by
  have hc := oc_eq a0 a1 a2 a3 a4 a5 a6 a7 a8 a9 a10 a11
  rw [if_pos h] at hc
  unfold object_Bytes.f
  refine Ev.bind hc ?_
  simp only [if_true, Option.bind_some]
  rcases h.2 with ⟨rfl, _⟩ | ⟨rfl, _, _, hh⟩ | ⟨rfl, _⟩ | ⟨rfl, _, _, _, hh, rfl⟩
  · simp only [if_neg (show ¬ (1 : Int) = 2 by decide), show ((1 : Int) == 4) = false by decide]
    refine Ev.step (f := fun k => _) (fun k => by simp only [object_Bytes.j0]; rfl) ?_
    simp only [Bool.false_eq_true, if_false, if_neg (show ¬ (1 : Int) = 3 by decide), if_neg (show ¬ (1 : Int) = 4 by decide)]
    exact Ev.now _
  · simp only [show ((2 : Int) == 2) = true by decide, if_true]
    refine Ev.step (f := fun k => _) (fun k => by simp only [object_Bytes.j0]; rfl) ?_
    simp only [if_true]
    refine Ev.bind (hb_eq _ _ _ _ _ _ hh) ?_
    have hl := hB_length a2 a3 a4 a5 a6 a7
    have : [2 % 256, a1 % 256].length + (hB a2 a3 a4 a5 a6 a7).length < 140737488355328 := by rw [hl]; simp; split <;> omega
    simp only [if_true, if_pos this, Option.bind_some, if_neg (show ¬ (2 : Int) = 4 by decide)]
    exact Ev.now _
  · simp only [if_neg (show ¬ (3 : Int) = 2 by decide), show ((3 : Int) == 4) = false by decide]
    refine Ev.step (f := fun k => _) (fun k => by simp only [object_Bytes.j0]; rfl) ?_
    simp only [Bool.false_eq_true, if_false, if_true, wire_Int_eq, Option.bind_some, List.length_append, intSpec_length, List.length_cons, List.length_nil, Nat.reduceAdd, Nat.reduceLT, if_neg (show ¬ (3 : Int) = 4 by decide)]
    refine ev_eq (Ev.now _) ?_
    unfold oB
    rw [if_neg (show ¬ (3 : Int) = 1 by decide), if_pos rfl, List.append_assoc]
  · simp only [if_neg (show ¬ (4 : Int) = 2 by decide), show ((4 : Int) == 4) = true by decide]
    refine Ev.step (f := fun k => _) (fun k => by simp only [object_Bytes.j0]; rfl) ?_
    simp only [if_true]
    refine Ev.bind (hb_eq _ _ _ _ _ _ hh) ?_
    have h20 : (hB false a3 a4 a5 a6 a7).length = 20 := by rw [hB_length]; rfl
    simp only [List.length_append, List.length_cons, List.length_nil, h20, Nat.reduceAdd, Nat.reduceLT, if_true, Option.bind_some]
    refine ev_eq (Ev.now _) ?_
    unfold oB
    rw [if_neg (show ¬ (4 : Int) = 1 by decide), if_neg (show ¬ (4 : Int) = 3 by decide), if_pos rfl, List.append_assoc]
theorem obn (a0 a1 : Int) (a2 : Bool) (a3 a4 a5 a6 a7 a8 a9 a10 a11 : Int) (h : ¬ RO a0 a1 a2 a3 a4 a5 a6 a7 a8 a9 a10 a11) :
    Ev (fun k => object_Bytes.f k a0 a1 a2 a3 a4 a5 a6 a7 a8 a9 a10 a11) ([], 1) := by
  have hc := oc_eq a0 a1 a2 a3 a4 a5 a6 a7 a8 a9 a10 a11
  rw [if_neg h] at hc
  exact ob_no _ _ _ _ _ _ _ _ _ _ _ _ _ hc (by decide)
end Go.Proofs.Ytfigbjjaffkidaa.P
namespace Go.Proofs.Ytfigbjjaffkidaa.P
open Go.RowKit Go.Proofs.YtfigbjjaffkidaaW.PrintWords Go.Proofs.YtfigbjjaffkidaaW.PrintLast Go.Proofs.YtfigbjjaffkidaaW.PrintMore
theorem bool_same0 {p q : Prop} [Decidable p] [Decidable q] (h : p ↔ q) : (decide p) = (decide q) := by
  by_cases hp : p
  · rw [decide_eq_true hp, decide_eq_true (h.mp hp)]
  · rw [decide_eq_false hp, decide_eq_false (fun hq => hp (h.mpr hq))]
end Go.Proofs.Ytfigbjjaffkidaa.P
namespace Go.Proofs.Ytfigbjjaffkidaa.P
open Go.RowKit Go.Proofs.YtfigbjjaffkidaaW.PrintWords Go.Proofs.YtfigbjjaffkidaaW.PrintLast Go.Proofs.YtfigbjjaffkidaaW.PrintMore
open Classical
theorem awake05 : Ev (fun k => thalweglaw05_awake.f k) true := Ev.of (fun k => thalweglaw05_awake.mono k) (k := 30) (by decide +kernel)
def OR (o : S45) : Prop := RO o.f0 o.f1 o.f2.f0 o.f2.f1 o.f2.f2 o.f2.f3 o.f2.f4 o.f2.f5 o.f3.f0 o.f3.f1 o.f3.f2 o.f4
def OB (o : S45) : List Int := oB o.f0 o.f1 o.f2.f0 o.f2.f1 o.f2.f2 o.f2.f3 o.f2.f4 o.f2.f5 o.f3.f0 o.f3.f1 o.f3.f2 o.f4
noncomputable def sz (o : S45) : Int := if OR o then ((OB o).length : Int) else 0
theorem sz_yes {o : S45} (h : OR o) : sz o = ((OB o).length : Int) := if_pos h
theorem sz_no {o : S45} (h : ¬ OR o) : sz o = 0 := if_neg h
theorem OB_length (o : S45) : 2 ≤ (OB o).length ∧ (OB o).length ≤ 24 := by
  unfold OB oB
  rw [List.length_append]
  have h := hB_length o.f2.f0 o.f2.f1 o.f2.f2 o.f2.f3 o.f2.f4 o.f2.f5
  have h2 : (hB o.f2.f0 o.f2.f1 o.f2.f2 o.f2.f3 o.f2.f4 o.f2.f5).length ≤ 20 := by rw [h]; split <;> omega
  simp only [List.length_cons, List.length_nil]
  split
  · simp
  split
  · simp [intSpec_length]
  split
  · simp only [List.length_append, List.length_cons, List.length_nil]; omega
  · omega
theorem sz_range (o : S45) : 0 ≤ sz o ∧ sz o ≤ 24 := by
  have := OB_length o
  by_cases h : OR o
  · rw [sz_yes h]; omega
  · rw [sz_no h]; omega
noncomputable def sums (l : List S45) : Int := (l.map sz).sum
theorem sums_nil : sums [] = 0 := rfl
theorem sums_cons (o : S45) (l : List S45) : sums (o :: l) = sz o + sums l := by simp [sums]
theorem sums_append (l m : List S45) : sums (l ++ m) = sums l + sums m := by simp [sums]
theorem sums_range (l : List S45) : 0 ≤ sums l ∧ sums l ≤ 24 * l.length := by
  induction l with
  | nil => simp [sums]
  | cons o l ih => have := sz_range o; rw [sums_cons, List.length_cons]; omega
def Rights (l : List S45) : Prop := ∀ o ∈ l, OR o
theorem obs_get (l : List S45) (i : Int) (h0 : 0 ≤ i) (h1 : i < l.length) : l.drop i.toNat = rd_T45 l i :: l.drop (i + 1).toNat := by
  have hi : i.toNat < l.length := by omega
  rw [List.drop_eq_getElem_cons hi, show (i + 1).toNat = i.toNat + 1 by omega]
  congr 1
  unfold rd_T45
  rw [List.getD_eq_getElem?_getD, List.getElem?_eq_getElem hi]
  rfl
theorem obs_mem (l : List S45) (i : Int) (h0 : 0 ≤ i) (h1 : i < l.length) : rd_T45 l i ∈ l := by
  have := List.mem_of_mem_drop (l := l) (i := i.toNat) (a := rd_T45 l i) (by rw [obs_get l i h0 h1]; exact List.mem_cons_self)
  exact this
theorem size_ev (o : S45) : Ev (fun k => object_Size.f k o.f0 o.f1 o.f2.f0 o.f2.f1 o.f2.f2 o.f2.f3 o.f2.f4 o.f2.f5 o.f3.f0 o.f3.f1 o.f3.f2 o.f4) (sz o) := by
  by_cases h : OR o
  · rw [sz_yes h]
    exact os_ev _ _ _ _ _ _ _ _ _ _ _ _ _ (obx _ _ _ _ _ _ _ _ _ _ _ _ h)
  · rw [sz_no h]
    exact os_ev _ _ _ _ _ _ _ _ _ _ _ _ _ (obn _ _ _ _ _ _ _ _ _ _ _ _ h)
theorem wrong_ev (o : S45) : Ev (fun k => batch_wrong.f k o.f0 o.f1 o.f2.f0 o.f2.f1 o.f2.f2 o.f2.f3 o.f2.f4 o.f2.f5 o.f3.f0 o.f3.f1 o.f3.f2 o.f4) (decide (¬ OR o)) := by
  unfold batch_wrong.f
  by_cases h : OR o
  · have hc := oc_eq o.f0 o.f1 o.f2.f0 o.f2.f1 o.f2.f2 o.f2.f3 o.f2.f4 o.f2.f5 o.f3.f0 o.f3.f1 o.f3.f2 o.f4
    rw [if_pos (show RO _ _ _ _ _ _ _ _ _ _ _ _ from h)] at hc
    refine Ev.bind hc (ev_eq (Ev.now _) ?_)
    rw [decide_eq_false (fun g => g h)]
    rfl
  · have hc := oc_eq o.f0 o.f1 o.f2.f0 o.f2.f1 o.f2.f2 o.f2.f3 o.f2.f4 o.f2.f5 o.f3.f0 o.f3.f1 o.f3.f2 o.f4
    rw [if_neg (show ¬ RO _ _ _ _ _ _ _ _ _ _ _ _ from h)] at hc
    refine Ev.bind hc (ev_eq (Ev.now _) ?_)
    rw [decide_eq_true h]
    rfl
theorem index_l0 (l : List S45) (hn : l.length ≤ 100000) : ∀ (d : Nat) (i : Int), 0 ≤ i → (l.length : Int) - i = d → ∃ r : Int, Ev (fun k => api_Object_40.l0 k l (l.length : Int) i) r ∧ (r ≥ 0 ↔ ¬ Rights (l.drop i.toNat)) := by
  intro d
  induction d with
  | zero =>
    intro i h0 hd
    refine ⟨-1, Ev.from 1 fun k => ?_, ?_⟩
    · simp only [api_Object_40.l0]
      rw [if_neg (by omega)]
    · rw [List.drop_eq_nil_of_le (by omega)]
      constructor
      · intro h; omega
      · intro h; exact absurd (fun o ho => by cases ho) h
  | succ d ih =>
    intro i h0 hd
    have h1 : i < (l.length : Int) := by omega
    rw [obs_get l i h0 h1]
    by_cases h : OR (rd_T45 l i)
    · obtain ⟨r, hr, hi⟩ := ih (i + 1) (by omega) (by omega)
      refine ⟨r, ?_, ?_⟩
      · refine Ev.step (f := fun k => _) (fun k => by simp only [api_Object_40.l0]; rfl) ?_
        simp only [if_pos h1, if_pos h0]
        refine Ev.bind (wrong_ev (rd_T45 l i)) ?_
        simp only [decide_eq_false (fun g : ¬ OR (rd_T45 l i) => g h), Bool.false_eq_true, if_false, w64 (x := i + 1) (by omega) (by omega)]
        exact hr
      · rw [hi]
        constructor
        · intro g g2; exact g fun o ho => g2 o (List.mem_cons_of_mem _ ho)
        · intro g g2
          refine g fun o ho => ?_
          rcases List.mem_cons.1 ho with rfl | ho
          · exact h
          · exact g2 o ho
    · refine ⟨i, ?_, ?_⟩
      · refine Ev.step (f := fun k => _) (fun k => by simp only [api_Object_40.l0]; rfl) ?_
        simp only [if_pos h1, if_pos h0]
        refine Ev.bind (wrong_ev (rd_T45 l i)) ?_
        simp only [decide_eq_true h, if_true]
        exact Ev.now _
      · exact ⟨fun _ g => h (g _ List.mem_cons_self), fun _ => h0⟩
theorem contains_ev (l : List S45) (hn : l.length ≤ 100000) : Ev (fun k => api_Object_25.f k l) (decide (¬ Rights l)) := by
  obtain ⟨r, hr, hi⟩ := index_l0 l hn l.length 0 (by omega) (by omega)
  unfold api_Object_25.f
  refine Ev.bind (show Ev (fun k => api_Object_40.f k l) r from hr) (ev_eq (Ev.now _) ?_)
  exact bool_same0 hi
theorem bsize_l0 (l : List S45) (hn : l.length ≤ 100000) : ∀ (d : Nat) (i acc : Int), 0 ≤ i → (l.length : Int) - i = d → 0 ≤ acc → acc ≤ 3 + 24 * i → Ev (fun k => batch_size.l0 k acc l (l.length : Int) i) (acc + sums (l.drop i.toNat)) := by
  intro d
  induction d with
  | zero =>
    intro i acc h0 hd ha hb
    refine Ev.from 1 fun k => ?_
    simp only [batch_size.l0]
    rw [if_neg (by omega), List.drop_eq_nil_of_le (by omega), sums_nil, Int.add_zero]
  | succ d ih =>
    intro i acc h0 hd ha hb
    have h1 : i < (l.length : Int) := by omega
    have hz := sz_range (rd_T45 l i)
    refine Ev.step (f := fun k => _) (fun k => by simp only [batch_size.l0]; rfl) ?_
    rw [obs_get l i h0 h1, sums_cons, ← Int.add_assoc]
    simp only [if_pos h1, if_pos h0]
    refine Ev.bind (size_ev (rd_T45 l i)) ?_
    simp only [w64 (x := acc + sz (rd_T45 l i)) (by omega) (by omega), w64 (x := i + 1) (by omega) (by omega)]
    exact ih (i + 1) _ (by omega) (by omega) (by omega) (by omega)
theorem bsize_ev (l : List S45) (hn : l.length ≤ 100000) : Ev (fun k => batch_size.f k l) (3 + sums l) := by
  unfold batch_size.f
  exact bsize_l0 l hn l.length 0 3 (by omega) (by omega) (by omega) (by omega)
def RB (a : Int) (l : List S45) : Prop := (0 ≤ a ∧ a ≤ 65535) ∧ (1 ≤ l.length ∧ l.length ≤ 32) ∧ Rights l ∧ 3 + sums l ≤ 512
theorem bcheck_ev (a : Int) (l : List S45) : Ev (fun k => batch_Check.f k a l) (if RB a l then 0 else 1) := by
  unfold batch_Check.f
  by_cases h1 : a < 0
  · simp only [if_pos h1, if_neg (show ¬ RB a l from fun h => by have := h.1; omega)]; exact Ev.now _
  by_cases h2 : a > 65535
  · simp only [if_neg h1, if_pos h2, if_neg (show ¬ RB a l from fun h => by have := h.1; omega)]; exact Ev.now _
  by_cases h3 : (l.length : Int) = 0
  · simp only [if_neg h1, if_neg h2, if_pos h3, if_neg (show ¬ RB a l from fun h => by have := h.2.1; omega)]; exact Ev.now _
  by_cases h4 : (l.length : Int) > 32
  · simp only [if_neg h1, if_neg h2, if_neg h3, if_pos h4, if_neg (show ¬ RB a l from fun h => by have := h.2.1; omega)]; exact Ev.now _
  simp only [if_neg h1, if_neg h2, if_neg h3, if_neg h4]
  refine Ev.bind (contains_ev l (by omega)) ?_
  by_cases h5 : Rights l
  · simp only [decide_eq_false (fun g : ¬ Rights l => g h5), Bool.false_eq_true, if_false]
    refine Ev.bind (bsize_ev l (by omega)) ?_
    by_cases h6 : 3 + sums l > 512
    · simp only [if_pos h6, if_neg (show ¬ RB a l from fun h => by have := h.2.2.2; omega)]; exact Ev.now _
    · simp only [if_neg h6, if_pos (show RB a l from ⟨by omega, by omega, h5, by omega⟩)]; exact Ev.now _
  · simp only [decide_eq_true h5, if_true, if_neg (show ¬ RB a l from fun h => h5 h.2.2.1)]; exact Ev.now _
def bB (a : Int) (l : List S45) : List Int := [a / 256 % 256, a % 256, (l.length : Int) % 256] ++ l.flatMap OB
theorem bbytes_l0 (l : List S45) (hn : l.length ≤ 32) (hr : Rights l) : ∀ (d : Nat) (i : Int) (acc : List Int), 0 ≤ i → (l.length : Int) - i = d → (acc.length : Int) ≤ 3 + 24 * i → Ev (fun k => batch_Bytes.l0 k acc l (l.length : Int) i) (acc ++ (l.drop i.toNat).flatMap OB, 0) := by
  intro d
  induction d with
  | zero =>
    intro i acc h0 hd ha
    refine Ev.from 1 fun k => ?_
    simp only [batch_Bytes.l0]
    rw [if_neg (by omega), List.drop_eq_nil_of_le (by omega)]
    simp
  | succ d ih =>
    intro i acc h0 hd ha
    have h1 : i < (l.length : Int) := by omega
    have hz := OB_length (rd_T45 l i)
    refine Ev.step (f := fun k => _) (fun k => by simp only [batch_Bytes.l0]; rfl) ?_
    rw [obs_get l i h0 h1, List.flatMap_cons, ← List.append_assoc]
    simp only [if_pos h1, if_pos h0]
    refine Ev.bind (obx _ _ _ _ _ _ _ _ _ _ _ _ (hr _ (obs_mem l i h0 h1))) ?_
    have hl : acc.length + (OB (rd_T45 l i)).length < 140737488355328 := by omega
    simp only [if_true, w64 (x := i + 1) (by omega) (by omega)]
    rw [show oB (rd_T45 l i).f0 (rd_T45 l i).f1 (rd_T45 l i).f2.f0 (rd_T45 l i).f2.f1 (rd_T45 l i).f2.f2 (rd_T45 l i).f2.f3 (rd_T45 l i).f2.f4 (rd_T45 l i).f2.f5 (rd_T45 l i).f3.f0 (rd_T45 l i).f3.f1 (rd_T45 l i).f3.f2 (rd_T45 l i).f4 = OB (rd_T45 l i) from rfl]
    simp only [if_pos hl]
    exact ih (i + 1) _ (by omega) (by omega) (by rw [List.length_append]; omega)
theorem bbytes_ev (a : Int) (l : List S45) (h : RB a l) : Ev (fun k => batch_Bytes.f k a l) (bB a l, 0) := by
  have hc := bcheck_ev a l
  rw [if_pos h] at hc
  unfold batch_Bytes.f
  refine Ev.bind hc ?_
  simp only [if_true]
  have := bbytes_l0 l h.2.1.2 h.2.2.1 l.length 0 [a / 256 % 256, a % 256, (l.length : Int) % 256] (by omega) (by omega) (by simp)
  simpa [bB] using this
theorem flat_length (l : List S45) (h : Rights l) : ((l.flatMap OB).length : Int) = sums l := by
  induction l with
  | nil => rfl
  | cons o l ih =>
    rw [List.flatMap_cons, List.length_append, sums_cons, sz_yes (h o List.mem_cons_self), ← ih (fun x hx => h x (List.mem_cons_of_mem _ hx))]
    omega
theorem bB_length (a : Int) (l : List S45) (h : Rights l) : ((bB a l).length : Int) = 3 + sums l := by
  have := flat_length l h
  simp only [bB, List.length_append, List.length_cons, List.length_nil]
  omega
theorem same_l0 (l : List S45) (h : l.length ≤ 100000) : ∀ (d : Nat) (i : Int), 0 ≤ i → (l.length : Int) - i = d → Ev (fun k => thalwegref04_Same.l0 k l l i) true := by
  intro d
  induction d with
  | zero =>
    intro i h0 hd
    refine Ev.from 1 fun k => ?_
    simp only [thalwegref04_Same.l0]
    rw [if_neg (by omega)]
  | succ d ih =>
    intro i h0 hd
    refine Ev.step (f := fun k => _) (fun k => by simp only [thalwegref04_Same.l0]; rfl) ?_
    simp only [if_pos (show i < (l.length : Int) by omega), if_pos h0, beq_self_eq_true, Bool.not_true, Bool.or_self, Bool.false_eq_true, if_false, w64 (x := i + 1) (by omega) (by omega)]
    exact ih (i + 1) (by omega) (by omega)
theorem same_ev (l : List S45) (h : l.length ≤ 100000) : Ev (fun k => thalwegref04_Same.f k l l) true := by
  unfold thalwegref04_Same.f
  simp only [if_true]
  exact same_l0 l h l.length 0 (by omega) (by omega)
end Go.Proofs.Ytfigbjjaffkidaa.P
namespace Go.Proofs.Ytfigbjjaffkidaa.P
open Classical
open Go.RowKit Go.Proofs.YtfigbjjaffkidaaW.PrintWords Go.Proofs.YtfigbjjaffkidaaW.PrintLast Go.Proofs.YtfigbjjaffkidaaW.PrintMore
def nx (n : Int) : Int := (n + 1) % 65536
theorem next_eq (n : Int) (h : -9223372036854775808 ≤ n ∧ n ≤ 9223372036854775807) : serial_Next.f n = some (nx n) := by
  unfold serial_Next.f nx
  have hu : ∀ x : Int, IntKind.u16.wrap x = x % 65536 := fun x => by simp [IntKind.wrap, IntKind.bits, IntKind.signed]
  rw [hu, hu, w64 (by omega) (by omega)]
  congr 1
  omega
def fit (most : Int) (cur : List S45) (o : S45) : Prop := 3 + sums cur + sz o ≤ most ∧ cur.length < 32
noncomputable def packGo (most : Int) : List S45 → Int → List S45 → List S24
  | [], n, cur => if cur = [] then [] else [⟨n, cur⟩]
  | o :: l, n, cur => if fit most cur o then packGo most l n (cur ++ [o]) else ⟨n, cur⟩ :: packGo most l (nx n) [o]
theorem pack_nil (most n : Int) (cur : List S45) (h : cur ≠ []) : packGo most [] n cur = [⟨n, cur⟩] := by unfold packGo; rw [if_neg h]
theorem pack_nil0 (most n : Int) : packGo most [] n [] = [] := by unfold packGo; rw [if_pos rfl]
theorem pack_fit {most n : Int} {o : S45} {l cur : List S45} (h : fit most cur o) : packGo most (o :: l) n cur = packGo most l n (cur ++ [o]) := by rw [packGo, if_pos h]
theorem pack_new {most n : Int} {o : S45} {l cur : List S45} (h : ¬ fit most cur o) : packGo most (o :: l) n cur = ⟨n, cur⟩ :: packGo most l (nx n) [o] := by rw [packGo, if_neg h]
theorem fit_nil {most : Int} (h : 40 ≤ most) (o : S45) : fit most [] o := by
  have := sz_range o
  exact ⟨by rw [sums_nil]; omega, by simp⟩
theorem and16 (n : Int) (_h : -9223372036854775808 ≤ n ∧ n ≤ 9223372036854775807) : Go.bits .and .i64 n 65535 = n % 65536 := by
  show IntKind.i64.wrap ((BitVec.ofInt 64 n &&& BitVec.ofInt 64 65535).toNat : Int) = _
  rw [BitVec.toNat_and, BitVec.toNat_ofInt, show (BitVec.ofInt 64 65535).toNat = 2 ^ 16 - 1 from rfl, Nat.and_two_pow_sub_one_eq_mod, IntKind.wrap_i64]
  omega
theorem pack_l0 (l : List S45) (hn : l.length ≤ 2000) (most : Int) (hm : 40 ≤ most ∧ most ≤ 512) : ∀ (d : Nat) (i : Int) (out : List S24) (n : Int) (cur : List S45), 0 ≤ i → (l.length : Int) - i = d → (out.length : Int) ≤ i → cur.length ≤ 32 → 0 ≤ n → n ≤ 65535 → (cur = [] → i = 0) →
    Ev (fun k => batch_Pack.l0 k l most out (most - 3 - sums cur) l (l.length : Int) i n cur) (out ++ packGo most (l.drop i.toNat) n cur, 0) := by
  intro d
  induction d with
  | zero =>
    intro i out n cur h0 hd ho hc n0 n1 hz
    refine Ev.from 1 fun k => ?_
    simp only [batch_Pack.l0]
    rw [if_neg (by omega), List.drop_eq_nil_of_le (by omega)]
    by_cases h : cur = []
    · subst h
      rw [pack_nil0]
      simp
    · rw [pack_nil _ _ _ h, if_pos (by have := List.length_pos_iff.2 h; omega), if_pos (by omega)]
  | succ d ih =>
    intro i out n cur h0 hd ho hc n0 n1 hz
    have h1 : i < (l.length : Int) := by omega
    have hs := sz_range (rd_T45 l i)
    have hr := sums_range cur
    have hnx : 0 ≤ nx n ∧ nx n ≤ 65535 := by unfold nx; omega
    refine Ev.step (f := fun k => _) (fun k => by simp only [batch_Pack.l0]; rfl) ?_
    rw [obs_get l i h0 h1]
    simp only [if_pos h1, if_pos h0]
    refine Ev.bind (size_ev (rd_T45 l i)) ?_
    have hnew : ¬ fit most cur (rd_T45 l i) → Ev (fun k => (serial_Next.f n).bind fun t => batch_Pack.l0 k l most (out ++ [⟨n, cur⟩]) (wrap64 ((wrap64 (most - 3)) - sz (rd_T45 l i))) l (l.length : Int) (wrap64 (i + 1)) t [rd_T45 l i]) (out ++ packGo most (rd_T45 l i :: l.drop (i + 1).toNat) n cur, 0) := by
      intro hf
      rw [pack_new hf, show out ++ (⟨n, cur⟩ : S24) :: packGo most (l.drop (i + 1).toNat) (nx n) [rd_T45 l i] = (out ++ [⟨n, cur⟩]) ++ packGo most (l.drop (i + 1).toNat) (nx n) [rd_T45 l i] by simp]
      simp only [next_eq n (by omega), Option.bind_some, w64 (x := most - 3) (by omega) (by omega), w64 (x := most - 3 - sz (rd_T45 l i)) (by omega) (by omega), w64 (x := i + 1) (by omega) (by omega)]
      have := ih (i + 1) (out ++ [⟨n, cur⟩]) (nx n) [rd_T45 l i] (by omega) (by omega) (by simp; omega) (by simp) hnx.1 hnx.2 (by simp)
      rw [sums_cons, sums_nil, Int.add_zero] at this
      exact this
    have hout : out.length < 4398046511104 := by omega
    by_cases c1 : sz (rd_T45 l i) ≤ most - 3 - sums cur
    · simp only [if_pos c1]
      by_cases c2 : (cur.length : Int) < 32
      · have hf : fit most cur (rd_T45 l i) := ⟨by omega, by omega⟩
        rw [pack_fit hf]
        simp only [if_pos c2, if_pos (show cur.length < 1466015503701 by omega), w64 (x := most - 3 - sums cur - sz (rd_T45 l i)) (by omega) (by omega), w64 (x := i + 1) (by omega) (by omega)]
        have := ih (i + 1) out n (cur ++ [rd_T45 l i]) (by omega) (by omega) (by omega) (by simp; omega) n0 n1 (by simp)
        rw [sums_append, sums_cons, sums_nil, Int.add_zero, ← Int.sub_sub] at this
        exact this
      · simp only [if_neg c2, if_pos hout]
        exact hnew fun g => c2 (by have := g.2; omega)
    · simp only [if_neg c1, if_pos hout]
      exact hnew fun g => c1 (by have := g.1; omega)
def PK (most : Int) (l : List S45) : Prop := (40 ≤ most ∧ most ≤ 512) ∧ Rights l
theorem pack_yes (l : List S45) (hn : l.length ≤ 1024) (first most : Int) (hf : -9223372036854775808 ≤ first ∧ first ≤ 9223372036854775807) (h : PK most l) : Ev (fun k => batch_Pack.f k l first most) (packGo most l (first % 65536) [], 0) := by
  obtain ⟨hm, hr⟩ := h
  unfold batch_Pack.f
  simp only [if_neg (show ¬ most < 40 by omega), if_neg (show ¬ most > 512 by omega)]
  refine Ev.bind (contains_ev l (by omega)) ?_
  rw [decide_eq_false (fun g : ¬ Rights l => g hr)]
  refine Ev.step (f := fun k => _) (fun k => by simp only [batch_Pack.j0]; rfl) ?_
  simp only [Bool.false_eq_true, if_false, if_neg (show ¬ (l.length : Int) > 1024 by omega), w64 (x := most - 3) (by omega) (by omega), and16 first hf]
  have := pack_l0 l (by omega) most hm l.length 0 [] (first % 65536) [] (by omega) (by omega) (by simp) (by simp) (by omega) (by omega) (fun _ => rfl)
  rw [sums_nil, Int.sub_zero] at this
  exact this
theorem pack_no (l : List S45) (hn : l.length ≤ 100000) (first most : Int) (h : ¬ PK most l) : Ev (fun k => batch_Pack.f k l first most) ([], 1) := by
  have hj : Ev (fun k => batch_Pack.j0 k l first most true) ([], 1) := by
    refine Ev.step (f := fun k => _) (fun k => by simp only [batch_Pack.j0]; rfl) ?_
    simp only [if_true]
    exact Ev.now _
  unfold batch_Pack.f
  by_cases h1 : most < 40
  · simp only [if_pos h1]; exact hj
  by_cases h2 : most > 512
  · simp only [if_neg h1, if_pos h2]; exact hj
  simp only [if_neg h1, if_neg h2]
  refine Ev.bind (contains_ev l hn) ?_
  rw [decide_eq_true (show ¬ Rights l from fun g => h ⟨by omega, g⟩)]
  exact hj
end Go.Proofs.Ytfigbjjaffkidaa.P
namespace Go.Proofs.Ytfigbjjaffkidaa.P
open Classical
open Go.RowKit Go.Proofs.YtfigbjjaffkidaaW.PrintWords Go.Proofs.YtfigbjjaffkidaaW.PrintLast Go.Proofs.YtfigbjjaffkidaaW.PrintMore
theorem gs_get (l : List S24) (i : Int) (h0 : 0 ≤ i) (h1 : i < l.length) : l.drop i.toNat = rd_T24 l i :: l.drop (i + 1).toNat := by
  have hi : i.toNat < l.length := by omega
  rw [List.drop_eq_getElem_cons hi, show (i + 1).toNat = i.toNat + 1 by omega]
  congr 1
  unfold rd_T24
  rw [List.getD_eq_getElem?_getD, List.getElem?_eq_getElem hi]
  rfl
theorem pack_right (most : Int) (hm : 40 ≤ most ∧ most ≤ 512) : ∀ (l : List S45) (n : Int) (cur : List S45), Rights (cur ++ l) → cur.length ≤ 32 → (cur ≠ [] → 3 + sums cur ≤ most) → 0 ≤ n → n ≤ 65535 → ∀ b ∈ packGo most l n cur, RB b.f0 b.f1 ∧ 3 + sums b.f1 ≤ most := by
  intro l
  have one : ∀ (n : Int) (cur : List S45), cur ≠ [] → Rights cur → cur.length ≤ 32 → 3 + sums cur ≤ most → 0 ≤ n → n ≤ 65535 → RB n cur ∧ 3 + sums cur ≤ most := fun n cur h hr hl hs h0 h1 => ⟨⟨⟨h0, h1⟩, ⟨List.length_pos_iff.2 h, hl⟩, hr, by omega⟩, hs⟩
  induction l with
  | nil =>
    intro n cur hr hl hs h0 h1 b hb
    by_cases h : cur = []
    · subst h; rw [pack_nil0] at hb; cases hb
    · rw [pack_nil _ _ _ h] at hb
      rw [List.mem_singleton.1 hb]
      exact one n cur h (by simpa using hr) hl (hs h) h0 h1
  | cons o l ih =>
    intro n cur hr hl hs h0 h1 b hb
    have hnx : 0 ≤ nx n ∧ nx n ≤ 65535 := by unfold nx; omega
    by_cases hf : fit most cur o
    · rw [pack_fit hf] at hb
      refine ih n (cur ++ [o]) (by rw [List.append_assoc]; exact hr) (by have := hf.2; simp; omega) (fun _ => ?_) h0 h1 b hb
      have := hf.1
      rw [sums_append, sums_cons, sums_nil]
      omega
    · rw [pack_new hf] at hb
      rcases List.mem_cons.1 hb with rfl | hb
      · have h : cur ≠ [] := fun g => hf (by rw [g]; exact fit_nil hm.1 o)
        exact one n cur h (fun x hx => hr x (List.mem_append_left _ hx)) hl (hs h) h0 h1
      · have hz := sz_range o
        refine ih (nx n) [o] (fun x hx => hr x (List.mem_append_right _ (by simpa using hx))) (by simp) (fun _ => ?_) hnx.1 hnx.2 b hb
        rw [sums_cons, sums_nil]
        omega
theorem pack_flat (most : Int) : ∀ (l : List S45) (n : Int) (cur : List S45), (packGo most l n cur).flatMap (fun b => b.f1) = cur ++ l := by
  intro l
  induction l with
  | nil =>
    intro n cur
    by_cases h : cur = []
    · subst h; rw [pack_nil0]; rfl
    · rw [pack_nil _ _ _ h]; simp
  | cons o l ih =>
    intro n cur
    by_cases hf : fit most cur o
    · rw [pack_fit hf, ih]; simp
    · rw [pack_new hf, List.flatMap_cons, ih]; simp
def Nums : Int → List S24 → Prop
  | _, [] => True
  | n, b :: R => b.f0 = n ∧ Nums (nx n) R
theorem pack_nums (most : Int) : ∀ (l : List S45) (n : Int) (cur : List S45), Nums n (packGo most l n cur) := by
  intro l
  induction l with
  | nil =>
    intro n cur
    by_cases h : cur = []
    · subst h; rw [pack_nil0]; trivial
    · rw [pack_nil _ _ _ h]; exact ⟨rfl, trivial⟩
  | cons o l ih =>
    intro n cur
    by_cases hf : fit most cur o
    · rw [pack_fit hf]; exact ih _ _
    · rw [pack_new hf]; exact ⟨rfl, ih _ _⟩
theorem pack_len (most : Int) : ∀ (l : List S45) (n : Int) (cur : List S45), (packGo most l n cur).length ≤ l.length + 1 := by
  intro l
  induction l with
  | nil =>
    intro n cur
    by_cases h : cur = []
    · subst h; rw [pack_nil0]; simp
    · rw [pack_nil _ _ _ h]; simp
  | cons o l ih =>
    intro n cur
    by_cases hf : fit most cur o
    · rw [pack_fit hf]
      have := ih n (cur ++ [o])
      simp only [List.length_cons]
      omega
    · rw [pack_new hf]
      have := ih (nx n) [o]
      simp only [List.length_cons]
      omega
theorem pack_less (a b : Int) (hab : a ≤ b) (ha : 40 ≤ a) : ∀ (l : List S45),
    (∀ (n m : Int) (c d : List S45), sums d ≤ sums c → d.length ≤ c.length → (packGo b l m d).length ≤ (packGo a l n c).length) ∧
    (∀ (n m : Int) (c d : List S45), (packGo b l m d).length ≤ 1 + (packGo a l n c).length) := by
  intro l
  induction l with
  | nil =>
    have h1 : ∀ (m : Int) (d : List S45), (packGo b [] m d).length ≤ 1 := fun m d => by
      by_cases h : d = []
      · subst h; rw [pack_nil0]; simp
      · rw [pack_nil _ _ _ h]; simp
    refine ⟨fun n m c d _ hl => ?_, fun n m c d => by have := h1 m d; omega⟩
    by_cases h : d = []
    · subst h; rw [pack_nil0]; simp
    · have hc : c ≠ [] := fun g => h (List.eq_nil_of_length_eq_zero (by rw [g] at hl; simpa using hl))
      rw [pack_nil _ _ _ h, pack_nil _ _ _ hc]
      simp
  | cons o l ih =>
    have hz := sz_range o
    have hA : ∀ (n m : Int) (c d : List S45), sums d ≤ sums c → d.length ≤ c.length → (packGo b (o :: l) m d).length ≤ (packGo a (o :: l) n c).length := by
      intro n m c d hs hl
      by_cases hc : fit a c o
      · have hd : fit b d o := ⟨by have := hc.1; omega, by have := hc.2; omega⟩
        rw [pack_fit hc, pack_fit hd]
        exact ih.1 _ _ _ _ (by rw [sums_append, sums_append]; omega) (by simp; omega)
      · rw [pack_new hc]
        by_cases hd : fit b d o
        · rw [pack_fit hd]
          have := ih.2 (nx n) m [o] (d ++ [o])
          simp only [List.length_cons]
          omega
        · rw [pack_new hd]
          have := ih.1 (nx n) (nx m) [o] [o] (Int.le_refl _) (Nat.le_refl _)
          simp only [List.length_cons]
          omega
    refine ⟨hA, fun n m c d => ?_⟩
    by_cases hd : fit b d o
    · rw [pack_fit hd]
      by_cases hc : fit a c o
      · rw [pack_fit hc]
        exact ih.2 _ _ _ _
      · rw [pack_new hc]
        have := ih.2 (nx n) m [o] (d ++ [o])
        simp only [List.length_cons]
        omega
    · rw [pack_new hd]
      by_cases hc : fit a c o
      · rw [pack_fit hc]
        have hr := sums_range c
        have := ih.1 n (nx m) (c ++ [o]) [o] (by rw [sums_append]; omega) (by simp)
        simp only [List.length_cons]
        omega
      · rw [pack_new hc]
        have := ih.1 (nx n) (nx m) [o] [o] (Int.le_refl _) (Nat.le_refl _)
        simp only [List.length_cons]
        omega
end Go.Proofs.Ytfigbjjaffkidaa.P
namespace Go.Proofs.Ytfigbjjaffkidaa.Pure
open Classical
open Go.RowKit Go.Proofs.Ytfigbjjaffkidaa.P Go.Proofs.YtfigbjjaffkidaaW.PrintWords Go.Proofs.YtfigbjjaffkidaaW.PrintLast Go.Proofs.YtfigbjjaffkidaaW.PrintMore
theorem far5_eq (k : Nat) (a b : Int) : serial_Far.f (k + 3) a b = some ((b - a) % 65536) := by
  unfold serial_Far.f serial_of.f
  simp only [serial_of.l0, List.length_cons, List.length_nil]
  simp [rd, wrap64, IntKind.wrap_u16]
  omega
theorem far5_ev (a b : Int) : Ev (fun k => serial_Far.f k a b) ((b - a) % 65536) := Ev.from 3 (fun k => far5_eq k a b)
theorem whole_l0 (l : List S45) (hl : l.length ≤ 200) (first most more : Int) (hf : -9223372036854775808 ≤ first ∧ first ≤ 9223372036854775807) (h : PK most l) (R : List S24) (hR : R = packGo most l (first % 65536) []) : ∀ (d : Nat) (i : Int) (acc : List S45) (n c : Int), 0 ≤ i → (R.length : Int) - i = d → acc ++ (R.drop i.toNat).flatMap (fun b => b.f1) = l → (-9223372036854775808 ≤ c ∧ c ≤ 9223372036854775807) → c % 65536 = n → Nums n (R.drop i.toNat) → (∀ b ∈ R.drop i.toNat, RB b.f0 b.f1 ∧ 3 + sums b.f1 ≤ most) →
    Ev (fun k => thalweglaw05_BatchWhole.l0 k l first most more R acc c i) true := by
  have hRl : R.length ≤ 201 := by have := pack_len most l (first % 65536) []; rw [hR]; omega
  have fin : Ev (fun k => (batch_Pack.f k l first more).bind fun bt474 => ((thalweglaw05_awake.f k).bind fun t478 => (if t478 = true then ((thalwegref04_Same.f k l l).bind fun t479 => (if t479 = true then (if bt474.2 = 0 then (if more < most then (some true) else (some (decide ((bt474.1.length : Int) ≤ (R.length : Int))))) else (some true)) else (none))) else (none)))) true := by
    by_cases hp : PK more l
    · refine Ev.bind (pack_yes l (by omega) first more hf hp) (Ev.bind awake05 ?_)
      simp only [if_true]
      refine Ev.bind (same_ev l (by omega)) ?_
      simp only [if_true]
      by_cases hc : more < most
      · simp only [if_pos hc]; exact Ev.now _
      · simp only [if_neg hc]
        refine ev_eq (Ev.now _) (decide_eq_true ?_)
        have := (pack_less most more (by omega) h.1.1 l).1 (first % 65536) (first % 65536) [] [] (Int.le_refl _) (Nat.le_refl _)
        rw [hR]
        omega
    · refine Ev.bind (pack_no l (by omega) first more hp) (Ev.bind awake05 ?_)
      simp only [if_true]
      refine Ev.bind (same_ev l (by omega)) ?_
      simp only [if_true, if_neg (show ¬ (1 : Int) = 0 by decide)]
      exact Ev.now _
  intro d
  induction d with
  | zero =>
    intro i acc n c h0 hd ha hc hn hN hb
    refine Ev.step (f := fun k => _) (fun k => by simp only [thalweglaw05_BatchWhole.l0]; rfl) ?_
    simp only [if_neg (show ¬ i < (R.length : Int) by omega)]
    rw [List.drop_eq_nil_of_le (by omega)] at ha
    have hacc : acc = l := by simpa using ha
    subst hacc
    exact fin
  | succ d ih =>
    intro i acc n c h0 hd ha hc hn hN hb
    have h1 : i < (R.length : Int) := by omega
    rw [gs_get R i h0 h1] at ha hN hb
    obtain ⟨hn0, hN⟩ := hN
    obtain ⟨hrb, hsm⟩ := hb _ List.mem_cons_self
    have hlen := bB_length (rd_T24 R i).f0 (rd_T24 R i).f1 hrb.2.2.1
    refine Ev.step (f := fun k => _) (fun k => by simp only [thalweglaw05_BatchWhole.l0]; rfl) ?_
    simp only [if_pos h1, if_pos h0]
    refine Ev.bind (bbytes_ev _ _ hrb) ?_
    simp only [if_true, hlen, if_neg (show ¬ 3 + sums (rd_T24 R i).f1 > most by omega)]
    refine Ev.bind (far5_ev c (rd_T24 R i).f0) ?_
    have hal : acc.length + (rd_T24 R i).f1.length ≤ 200 := by
      have := congrArg List.length ha
      simp only [List.length_append, List.flatMap_cons] at this
      omega
    simp only [if_pos (show ((rd_T24 R i).f0 - c) % 65536 = 0 by omega), if_pos (show acc.length + (rd_T24 R i).f1.length < 1466015503701 by omega), next_eq c hc, Option.bind_some, w64 (x := i + 1) (by omega) (by omega)]
    refine ih (i + 1) (acc ++ (rd_T24 R i).f1) (nx n) (nx c) (by omega) (by omega) (by rw [List.append_assoc, ← List.flatMap_cons]; exact ha) (by unfold nx; omega) (by unfold nx; omega) hN (fun b g => hb b (List.mem_cons_of_mem _ g))
theorem whole_ev (l : List S45) (first most more : Int) (hf : -9223372036854775808 ≤ first ∧ first ≤ 9223372036854775807) : Ev (fun k => thalweglaw05_BatchWhole.f k l first most more) true := by
  unfold thalweglaw05_BatchWhole.f
  by_cases hl : (l.length : Int) > 200
  · simp only [if_pos hl]; exact Ev.now _
  simp only [if_neg hl]
  by_cases h : PK most l
  · refine Ev.bind (pack_yes l (by omega) first most hf h) ?_
    simp only [if_true]
    exact whole_l0 l (by omega) first most more hf h _ rfl _ 0 [] (first % 65536) first (by omega) (by rfl) (by simpa using pack_flat most l (first % 65536) []) hf rfl (pack_nums most l _ []) (pack_right most h.1 l (first % 65536) [] h.2 (by simp) (fun g => absurd rfl g) (by omega) (by omega))
  · refine Ev.bind (pack_no l (by omega) first most h) ?_
    simp only [if_neg (show ¬ (1 : Int) = 0 by decide)]
    refine Ev.bind awake05 ?_
    simp only [if_true]
    exact Ev.now _
theorem BatchWhole : thalweglaw05_BatchWhole.Pure := fun l first most more _ hf _ _ => Ev.rounds (whole_ev l first most more (bnd64 hf))
end Go.Proofs.Ytfigbjjaffkidaa.Pure
