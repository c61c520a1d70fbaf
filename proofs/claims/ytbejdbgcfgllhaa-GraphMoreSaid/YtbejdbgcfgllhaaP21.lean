-- WRITTEN BY xprint.py, a program of this session that drives the kit's printer.
import Derived.Test.YtbejdbgcfgllhaaP0
import Derived.Test.YtbejdbgcfgllhaaP1
import Derived.Test.YtbejdbgcfgllhaaP10
import Derived.Test.YtbejdbgcfgllhaaP15
namespace Go.Proofs.Ytbejdbgcfgllhaa.P
open Go.RowKit Go.Proofs.YtbejdbgcfgllhaaW.PrintWords Go.Proofs.YtbejdbgcfgllhaaW.PrintLast Go.Proofs.YtbejdbgcfgllhaaW.PrintMore
open Go.Proofs.YtbejdbgcfgllhaaW.PrintWords renaming below_alloc → YA, pw_below_drewN → YB, below_drew1 → YC, below_step → YD, below_size → YE, blk_drewN → YF, blk_drew → YG, blk_alloc → YH, blk_cell → YI, blk_below → YJ
open Go.Proofs.YtbejdbgcfgllhaaW.PrintWords.Aside0 renaming mk → YK
open List renaming setIfInBounds_toArray → YL, set_cons_zero → YM, set_cons_succ → YN, map_toArray → YO, length_take → YP, length_drop → YQ
open Go.Proofs.YtbejdbgcfgllhaaW.PrintWords.Kd renaming R_alloc → YR, R_drewN → YS, R_drew → YT, R_below → YU
attribute [local go_sem] max2_int min2_int max_two min_two max_three min_three max_four min_four   -- for this text's walks alone
set_option linter.unusedVariables false
set_option linter.unusedSimpArgs false

attribute [local go_sem high] eqA36
/-! ### thalweglaw25_GraphMore: function 6 -/
mutual
def thalweglaw25_GraphMore.j0 : Nat → Int → List (S36) → Int → Bool → Int → Int → Option (Bool)
  | 0, _, _, _, _, _, _ => none
  | k + 1, x0, x1, x3, x23, x331000, x331001 => if x23 = true then (some true) else ((some (([] : List (S36)) : List (S36))).bind fun y331 => (if y331.length + x1.length < 8796093022208 then ((some (y331 ++ x1 : List (S36))).bind fun y334 => ((some (([(⟨x331000, x331001⟩ : S36)] : List (S36)) : List (S36))).bind fun y337 => (if y334.length + y337.length < 8796093022208 then ((graph_Steps.f k x0 x1 x3).bind fun bt343 => ((graph_Steps.f k x0 (y334 ++ y337) x3).bind fun bt347 => (if bt343.2 = 0 then (if bt347.2 = 0 then (if (bt343.1.length : Int) = x0 then (thalweglaw25_GraphMore.j1 k x0 x1 bt343.1 bt347.1 ((bt347.1.length : Int) != x0) x331000 x331001) else (thalweglaw25_GraphMore.j1 k x0 x1 bt343.1 bt347.1 true x331000 x331001)) else (thalweglaw25_GraphMore.j1 k x0 x1 bt343.1 bt347.1 true x331000 x331001)) else ((thalweglaw25_awake.f k).bind fun t351 => (if t351 = true then (some (bt347.2 == bt343.2)) else (none)))))) else (none)))) else (none)))
def thalweglaw25_GraphMore.j1 : Nat → Int → List (S36) → List Int → List Int → Bool → Int → Int → Option (Bool)
  | 0, _, _, _, _, _, _, _ => none
  | k + 1, x0, x1, x10, x12, x65, x331000, x331001 => if x65 = true then (none) else (thalweglaw25_GraphMore.l0 k x0 x1 x10 x12 false 0 x331000 x331001)
def thalweglaw25_GraphMore.l0 : Nat → Int → List (S36) → List Int → List Int → Bool → Int → Int → Int → Option (Bool)
  | 0, _, _, _, _, _, _, _, _ => none
  | k + 1, x0, x1, x10, x12, x14, x15, x331000, x331001 => if x15 < (x1.length : Int) then (if x14 = true then (thalweglaw25_GraphMore.l0 k x0 x1 x10 x12 true (wrap64 (x15 + 1)) x331000 x331001) else (if 0 ≤ x15 then (if (((rd_T36 x1 x15).f0) == x331000 && (((rd_T36 x1 x15).f1) == x331001)) = true then (thalweglaw25_GraphMore.l0 k x0 x1 x10 x12 true (wrap64 (x15 + 1)) x331000 x331001) else (thalweglaw25_GraphMore.l0 k x0 x1 x10 x12 (((rd_T36 x1 x15).f0) == x331001 && (((rd_T36 x1 x15).f1) == x331000)) (wrap64 (x15 + 1)) x331000 x331001)) else (none))) else (thalweglaw25_GraphMore.l1 k x0 x10 x12 x14 0)
def thalweglaw25_GraphMore.l1 : Nat → Int → List Int → List Int → Bool → Int → Option (Bool)
  | 0, _, _, _, _, _ => none
  | k + 1, x0, x10, x12, x14, x16 => if x16 < x0 then (if 0 ≤ x16 then (if x16 < (x10.length : Int) then (if (rd x10 x16) ≥ 0 then (if x16 < (x12.length : Int) then (if (rd x12 x16) < 0 then (none) else (if (rd x12 x16) > (rd x10 x16) then (none) else (if x14 = true then (if (rd x10 x16) = (rd x12 x16) then (thalweglaw25_GraphMore.l1 k x0 x10 x12 true (wrap64 (x16 + 1))) else (none)) else (thalweglaw25_GraphMore.l1 k x0 x10 x12 false (wrap64 (x16 + 1)))))) else (none)) else (if x14 = true then (if x16 < (x12.length : Int) then (if (rd x10 x16) = (rd x12 x16) then (thalweglaw25_GraphMore.l1 k x0 x10 x12 true (wrap64 (x16 + 1))) else (none)) else (none)) else (thalweglaw25_GraphMore.l1 k x0 x10 x12 false (wrap64 (x16 + 1))))) else (none)) else (none)) else ((thalweglaw25_awake.f k).bind fun t362 => (some t362))
end
def thalweglaw25_GraphMore.f (k : Nat) (a0 : Int) (l1 : List (S36)) (a2_0 : Int) (a2_1 : Int) (a3 : Int) : Option (Bool) := if a0 > 20 then (thalweglaw25_GraphMore.j0 k a0 l1 a3 true a2_0 a2_1) else (thalweglaw25_GraphMore.j0 k a0 l1 a3 (decide ((l1.length : Int) > 40)) a2_0 a2_1)
theorem thalweglaw25_GraphMore.mono_l : ∀ k, (∀ y0 y1 y2 y3 y4 y5, LeO (thalweglaw25_GraphMore.j0 k y0 y1 y2 y3 y4 y5) (thalweglaw25_GraphMore.j0 (k + 1) y0 y1 y2 y3 y4 y5)) ∧ (∀ y0 y1 y2 y3 y4 y5 y6, LeO (thalweglaw25_GraphMore.j1 k y0 y1 y2 y3 y4 y5 y6) (thalweglaw25_GraphMore.j1 (k + 1) y0 y1 y2 y3 y4 y5 y6)) ∧ (∀ y0 y1 y2 y3 y4 y5 y6 y7, LeO (thalweglaw25_GraphMore.l0 k y0 y1 y2 y3 y4 y5 y6 y7) (thalweglaw25_GraphMore.l0 (k + 1) y0 y1 y2 y3 y4 y5 y6 y7)) ∧ (∀ y0 y1 y2 y3 y4, LeO (thalweglaw25_GraphMore.l1 k y0 y1 y2 y3 y4) (thalweglaw25_GraphMore.l1 (k + 1) y0 y1 y2 y3 y4))
  | 0 => ⟨fun _ _ _ _ _ _ r h => by simp [thalweglaw25_GraphMore.j0] at h, fun _ _ _ _ _ _ _ r h => by simp [thalweglaw25_GraphMore.j1] at h, fun _ _ _ _ _ _ _ _ r h => by simp [thalweglaw25_GraphMore.l0] at h, fun _ _ _ _ _ r h => by simp [thalweglaw25_GraphMore.l1] at h⟩
  | k + 1 => by
    obtain ⟨ih0, ih1, ih2, ih3⟩ := thalweglaw25_GraphMore.mono_l k
    refine ⟨?_, ?_, ?_, ?_⟩
    · intro y0 y1 y2 y3 y4 y5
      unfold thalweglaw25_GraphMore.j0
      repeat' first
      | (with_reducible exact ih0 _ _ _ _ _ _)
      | (with_reducible exact ih1 _ _ _ _ _ _ _)
      | (with_reducible exact ih2 _ _ _ _ _ _ _ _)
      | (with_reducible exact ih3 _ _ _ _ _)
      | (with_reducible exact graph_Steps.mono _ _ _ _)
      | (with_reducible exact thalweglaw25_awake.mono _)
      | (with_reducible exact LeO.refl _)
      | (with_reducible exact LeO.none _)
      | (with_reducible refine LeO.ite ?_ ?_)
      | (with_reducible refine LeO.bind ?_ (fun _ => ?_))
      | exact ih0 _ _ _ _ _ _
      | exact ih1 _ _ _ _ _ _ _
      | exact ih2 _ _ _ _ _ _ _ _
      | exact ih3 _ _ _ _ _
      | exact graph_Steps.mono _ _ _ _
      | exact thalweglaw25_awake.mono _
      | exact LeO.none _
      | refine LeO.ite ?_ ?_
      | refine LeO.bind ?_ (fun _ => ?_)
    · intro y0 y1 y2 y3 y4 y5 y6
      unfold thalweglaw25_GraphMore.j1
      repeat' first
      | (with_reducible exact ih0 _ _ _ _ _ _)
      | (with_reducible exact ih1 _ _ _ _ _ _ _)
      | (with_reducible exact ih2 _ _ _ _ _ _ _ _)
      | (with_reducible exact ih3 _ _ _ _ _)
      | (with_reducible exact graph_Steps.mono _ _ _ _)
      | (with_reducible exact thalweglaw25_awake.mono _)
      | (with_reducible exact LeO.refl _)
      | (with_reducible exact LeO.none _)
      | (with_reducible refine LeO.ite ?_ ?_)
      | (with_reducible refine LeO.bind ?_ (fun _ => ?_))
      | exact ih0 _ _ _ _ _ _
      | exact ih1 _ _ _ _ _ _ _
      | exact ih2 _ _ _ _ _ _ _ _
      | exact ih3 _ _ _ _ _
      | exact graph_Steps.mono _ _ _ _
      | exact thalweglaw25_awake.mono _
      | exact LeO.none _
      | refine LeO.ite ?_ ?_
      | refine LeO.bind ?_ (fun _ => ?_)
    · intro y0 y1 y2 y3 y4 y5 y6 y7
      unfold thalweglaw25_GraphMore.l0
      repeat' first
      | (with_reducible exact ih0 _ _ _ _ _ _)
      | (with_reducible exact ih1 _ _ _ _ _ _ _)
      | (with_reducible exact ih2 _ _ _ _ _ _ _ _)
      | (with_reducible exact ih3 _ _ _ _ _)
      | (with_reducible exact graph_Steps.mono _ _ _ _)
      | (with_reducible exact thalweglaw25_awake.mono _)
      | (with_reducible exact LeO.refl _)
      | (with_reducible exact LeO.none _)
      | (with_reducible refine LeO.ite ?_ ?_)
      | (with_reducible refine LeO.bind ?_ (fun _ => ?_))
      | exact ih0 _ _ _ _ _ _
      | exact ih1 _ _ _ _ _ _ _
      | exact ih2 _ _ _ _ _ _ _ _
      | exact ih3 _ _ _ _ _
      | exact graph_Steps.mono _ _ _ _
      | exact thalweglaw25_awake.mono _
      | exact LeO.none _
      | refine LeO.ite ?_ ?_
      | refine LeO.bind ?_ (fun _ => ?_)
    intro y0 y1 y2 y3 y4
    unfold thalweglaw25_GraphMore.l1
    repeat' first
    | (with_reducible exact ih0 _ _ _ _ _ _)
    | (with_reducible exact ih1 _ _ _ _ _ _ _)
    | (with_reducible exact ih2 _ _ _ _ _ _ _ _)
    | (with_reducible exact ih3 _ _ _ _ _)
    | (with_reducible exact graph_Steps.mono _ _ _ _)
    | (with_reducible exact thalweglaw25_awake.mono _)
    | (with_reducible exact LeO.refl _)
    | (with_reducible exact LeO.none _)
    | (with_reducible refine LeO.ite ?_ ?_)
    | (with_reducible refine LeO.bind ?_ (fun _ => ?_))
    | exact ih0 _ _ _ _ _ _
    | exact ih1 _ _ _ _ _ _ _
    | exact ih2 _ _ _ _ _ _ _ _
    | exact ih3 _ _ _ _ _
    | exact graph_Steps.mono _ _ _ _
    | exact thalweglaw25_awake.mono _
    | exact LeO.none _
    | refine LeO.ite ?_ ?_
    | refine LeO.bind ?_ (fun _ => ?_)
theorem thalweglaw25_GraphMore.mono : ∀ a0 a1 a2 a3 a4 k, LeO (thalweglaw25_GraphMore.f k a0 a1 a2 a3 a4) (thalweglaw25_GraphMore.f (k + 1) a0 a1 a2 a3 a4) := by
  intro a0 a1 a2 a3 a4 k
  obtain ⟨ih0, ih1, ih2, ih3⟩ := thalweglaw25_GraphMore.mono_l k
  unfold thalweglaw25_GraphMore.f
  repeat' first
      | (with_reducible exact ih0 _ _ _ _ _ _)
      | (with_reducible exact ih1 _ _ _ _ _ _ _)
      | (with_reducible exact ih2 _ _ _ _ _ _ _ _)
      | (with_reducible exact ih3 _ _ _ _ _)
      | (with_reducible exact graph_Steps.mono _ _ _ _)
      | (with_reducible exact thalweglaw25_awake.mono _)
      | (with_reducible exact LeO.refl _)
      | (with_reducible exact LeO.none _)
      | (with_reducible refine LeO.ite ?_ ?_)
      | (with_reducible refine LeO.bind ?_ (fun _ => ?_))
      | exact ih0 _ _ _ _ _ _
      | exact ih1 _ _ _ _ _ _ _
      | exact ih2 _ _ _ _ _ _ _ _
      | exact ih3 _ _ _ _ _
      | exact graph_Steps.mono _ _ _ _
      | exact thalweglaw25_awake.mono _
      | exact LeO.none _
      | refine LeO.ite ?_ ?_
      | refine LeO.bind ?_ (fun _ => ?_)
def thalweglaw25_GraphMore.T14 : Bool × List (List Nat × List Nat) := (true, [([], []), ([0], [0]), ([1], [1]), ([1], [1]), ([2, 3, 1], [1, 2, 3]), ([4, 1], [1, 4]), ([1], [1]), ([5, 6, 1], [1, 5, 6]), ([1, 7], [1, 7]), ([8, 1], [8]), ([9], [9]), ([9], [9]), ([10, 11, 9], [9, 10, 11]), ([12, 9], [9, 12]), ([9], [9]), ([14, 9], [9, 14]), ([9], [9]), ([16, 9], [9, 16]), ([15, 17, 9], [9, 15, 17]), ([13, 18, 9], [9, 13, 18]), ([9, 19], [9, 19]), ([20, 9, 0, 1, 2, 3, 4, 5, 6, 7, 8, 9, 10, 11, 12, 13, 14, 15, 16, 17, 18, 19, 20], [0, 20])])
def thalweglaw25_GraphMore.B14 : List Nat := [0, 1, 3, 3, 15, 31, 3, 127, 255, 511, 1023, 1023, 4095, 8191, 1023, 17407, 1023, 66559, 246783, 524287, 1048575, 2097151]
theorem thalweglaw25_GraphMore.tab14 : rtab .any (opsOf Try.f6 14) = thalweglaw25_GraphMore.T14 := by kernel_rfl
theorem thalweglaw25_GraphMore.bits14 : waitsOk thalweglaw25_GraphMore.T14.2 thalweglaw25_GraphMore.B14 = true := by kernel_rfl
def thalweglaw25_GraphMore.T18 : Bool × List (List Nat × List Nat) := (true, [([], []), ([], []), ([0, 1], [0, 1]), ([2], [2]), ([3], [3]), ([4], [4]), ([5], [5]), ([5], [5]), ([6, 7, 5], [5, 6, 7]), ([8, 5], [5, 8]), ([9, 5], [5, 9]), ([10, 5, 5], [5, 10]), ([11], [11]), ([11], [11]), ([12, 13, 11], [11, 12, 13]), ([14, 11], [11, 14]), ([11], [11]), ([11], [11]), ([16, 17, 11], [11, 16, 17]), ([18, 11], [11, 18]), ([15, 19, 11], [11, 15, 19]), ([11, 20, 5], [5, 11, 20]), ([5, 21], [5, 21]), ([22, 11], [22]), ([23], [23]), ([24, 23, 23], [23, 24]), ([25], [25]), ([25], [25]), ([26, 27, 25], [25, 26, 27]), ([28, 25], [25, 28]), ([25], [25]), ([25], [25]), ([30, 31, 25], [25, 30, 31]), ([32, 25], [25, 32]), ([29, 33, 25], [25, 29, 33]), ([25, 34, 23], [23, 25, 34]), ([23, 35], [23, 35])])
def thalweglaw25_GraphMore.B18 : List Nat := [0, 0, 3, 7, 15, 31, 63, 63, 255, 511, 1023, 2047, 4095, 4095, 16383, 32767, 4095, 4095, 200703, 462847, 1048575, 2097151, 4194303, 8388607, 16777215, 33554431, 67108863, 67108863, 268435455, 536870911, 67108863, 67108863, 3288334335, 7583301631, 17179869183, 34359738367, 68719476735]
theorem thalweglaw25_GraphMore.tab18 : rtab .any (opsOf Try.f6 18) = thalweglaw25_GraphMore.T18 := by kernel_rfl
theorem thalweglaw25_GraphMore.bits18 : waitsOk thalweglaw25_GraphMore.T18.2 thalweglaw25_GraphMore.B18 = true := by kernel_rfl
set_option maxHeartbeats 8000000 in
set_option maxRecDepth 100000 in
theorem thalweglaw25_GraphMore.calls (k : Nat) (a0 : Int) (A1 : Option Addr) (c1 : Nat) (l1 : List (S36)) (a2_0 : Int) (a2_1 : Int) (a3 : Int) (r : Bool) (w : World) (hr1 : Kd.C k36 w A1 l1.length l1) (hc1 : l1.length ≤ c1) (h : thalweglaw25_GraphMore.f k a0 l1 a2_0 a2_1 a3 = some r) :
    Calls Try.prog 6 #[.int .i64 a0, .slice A1 l1.length c1, .agg #[.int .i64 a2_0, .int .i64 a2_1], .int .i64 a3] w fun e w' => e = .returned (.bool r) ∧ Below w.heap.size w w' := by
  have hu36 := Try.underlying36
  have HR1 := YK hr1; have HC1 := YK hc1; clear hr1 hc1
  have HB := YK (Below.refl w.heap.size w)
  have H : (if a0 > 20 then (thalweglaw25_GraphMore.j0 k a0 l1 a3 true a2_0 a2_1) else (thalweglaw25_GraphMore.j0 k a0 l1 a3 (decide ((l1.length : Int) > 40)) a2_0 a2_1)) = some r := h
  clear h; have HC5 := YK H; clear H
  go_enter Try.func6, Try.ntmps6
  go_upto_region 1 with (first | ((with_reducible refine gate_dst (N := 6) rfl ?_); (try (refine gate_guard (by rfl) ?_; dsimp only)); refine box_event ?hg (N := 6) ?hd (cs := #[.int .i64 a2_0, .int .i64 a2_1]) (t := 36) ?hr ?_; (case hd => rfl); (case hg => rfl); (case hr => first | (go_simp; done) | (go_simp; rfl)); intro gb330 hg w6 hbox hb; have n0_ := YK (YD (by repeat (first | (with_reducible first | exact HB.out | apply YA | apply YB | apply YC) | exact HB.out)) hb); have n1_ := YK (hbox); have n2_ := YK ((by rw [hg]; exact (YE (by repeat (first | (with_reducible first | exact HB.out | apply YA | apply YB | apply YC) | exact HB.out))) : w.heap.size ≤ gb330)); have n3_ := YK ((by rw [hg]; exact (YE (by repeat (first | (with_reducible first | exact HB.out | apply YA | apply YB | apply YC) | exact HB.out))) : w.heap.size ≤ gb330)); clear HB; have HB := n0_; have BK330 := n1_; have GW330 := n2_; have GE330 := n3_; clear n0_ n1_ n2_ n3_; clear hb hbox hg))
  (try simp only [Act.put, YL, YM, YN])
  go_cut [23] (fun v23 wc => ∃ (kq : Nat) (x23_4 : Bool), v23 = .bool x23_4 ∧ Aside0 (thalweglaw25_GraphMore.j0 kq a0 l1 a3 x23_4 a2_0 a2_1 = some r) ∧ Aside0 (kq ≤ k) ∧ Aside0 (wc.heap[gb330]? = some (.cells #[.int .i64 a2_0, .int .i64 a2_1] 36 (0, 0))) ∧ Aside0 (Below w.heap.size w wc))
  case first =>
    have H := HC5.out
    clear HC5
    by_cases c7 : a0 > 20
    · rw [if_pos c7] at H
      have c7b0 : decide (20 < a0) = true := decide_eq_true c7; clear c7
      (first | rw [c7b0] | (simp only [i64_w, i32_w]; rw [c7b0]) | rw [c7b1] | skip)
      have H' := YK H
      clear H
      go_wp2
      go_meet
      case rel => exact ⟨_, (true), (by first | rfl | (simp; done) | (simp [*]; done)), H', ⟨by first | omega | exact Nat.le_refl _⟩, ⟨by (with_reducible repeat (first | refine YF ?_ _ | refine YG ?_ | refine YH ?_ _)); exact BK330.out⟩, ⟨by repeat (first | (with_reducible first | exact HB.out | apply YA | apply YB | apply YC | refine below_set ?_ GE330.out) | exact HB.out)⟩⟩
    rw [if_neg c7] at H; have c7b0 : decide (20 < a0) = false := decide_eq_false c7; clear c7
    (first | rw [c7b0] | (simp only [i64_w, i32_w]; rw [c7b0]) | rw [c7b1] | skip)
    have H' := YK H
    clear H
    go_wp2
    go_meet
    case rel => exact ⟨_, (decide ((l1.length : Int) > 40)), (by first | rfl | (simp; done) | (simp [*]; done)), H', ⟨by first | omega | exact Nat.le_refl _⟩, ⟨by (with_reducible repeat (first | refine YF ?_ _ | refine YG ?_ | refine YH ?_ _)); exact BK330.out⟩, ⟨by repeat (first | (with_reducible first | exact HB.out | apply YA | apply YB | apply YC | refine below_set ?_ GE330.out) | exact HB.out)⟩⟩
  case rest =>
    clear HC5
    try clear c1
    try clear p2
    try clear c6
    try clear c7
    try clear c7b0
    obtain ⟨kq, x23_4, rfl, HA, HJ4, BK330, HB⟩ := hcut
    cases kq with
    | zero => exact absurd HA.out (by simp [thalweglaw25_GraphMore.j0])
    | succ kj4 =>
      have H := HA.out
      clear HA
      simp only [thalweglaw25_GraphMore.j0] at H
      by_cases c8 : x23_4 = true
      · subst c8
        have H1 : (some true) = some r := by rw [if_pos rfl] at H; exact H
        clear H
        have H := H1
        clear H1
        obtain rfl := Option.some.inj H
        go_wp2
        go_ret
        exact ⟨by first | rfl | (simp [errW_none, errW_some] <;> rfl) | (simp [*, errW_none, errW_some] <;> rfl), by repeat (first | (with_reducible first | exact HB.out | apply YA | apply YB | apply YC | refine below_set ?_ GE330.out) | exact HB.out)⟩
      replace c8 := Bool.eq_false_iff.mpr c8
      subst c8
      have H1 : ((some (([] : List (S36)) : List (S36))).bind fun y331 => (if y331.length + l1.length < 8796093022208 then ((some (y331 ++ l1 : List (S36))).bind fun y334 => ((some (([(⟨a2_0, a2_1⟩ : S36)] : List (S36)) : List (S36))).bind fun y337 => (if y334.length + y337.length < 8796093022208 then ((graph_Steps.f kj4 a0 l1 a3).bind fun bt343 => ((graph_Steps.f kj4 a0 (y334 ++ y337) a3).bind fun bt347 => (if bt343.2 = 0 then (if bt347.2 = 0 then (if (bt343.1.length : Int) = a0 then (thalweglaw25_GraphMore.j1 kj4 a0 l1 bt343.1 bt347.1 ((bt347.1.length : Int) != a0) a2_0 a2_1) else (thalweglaw25_GraphMore.j1 kj4 a0 l1 bt343.1 bt347.1 true a2_0 a2_1)) else (thalweglaw25_GraphMore.j1 kj4 a0 l1 bt343.1 bt347.1 true a2_0 a2_1)) else ((thalweglaw25_awake.f kj4).bind fun t351 => (if t351 = true then (some (bt347.2 == bt343.2)) else (none)))))) else (none)))) else (none))) = some r := by rw [if_neg (show ¬ (false = true) by decide)] at H; exact H
      clear H
      have H := H1
      clear H1
      obtain ⟨y331, hy331⟩ : ∃ y_ : List (S36), y_ = (([] : List (S36))) := ⟨_, rfl⟩
      replace H : (if y331.length + l1.length < 8796093022208 then ((some (y331 ++ l1 : List (S36))).bind fun y334 => ((some (([(⟨a2_0, a2_1⟩ : S36)] : List (S36)) : List (S36))).bind fun y337 => (if y334.length + y337.length < 8796093022208 then ((graph_Steps.f kj4 a0 l1 a3).bind fun bt343 => ((graph_Steps.f kj4 a0 (y334 ++ y337) a3).bind fun bt347 => (if bt343.2 = 0 then (if bt347.2 = 0 then (if (bt343.1.length : Int) = a0 then (thalweglaw25_GraphMore.j1 kj4 a0 l1 bt343.1 bt347.1 ((bt347.1.length : Int) != a0) a2_0 a2_1) else (thalweglaw25_GraphMore.j1 kj4 a0 l1 bt343.1 bt347.1 true a2_0 a2_1)) else (thalweglaw25_GraphMore.j1 kj4 a0 l1 bt343.1 bt347.1 true a2_0 a2_1)) else ((thalweglaw25_awake.f kj4).bind fun t351 => (if t351 = true then (some (bt347.2 == bt343.2)) else (none)))))) else (none)))) else (none)) = some r := by first | (rw [hy331]; with_reducible exact H) | (have H2_ := (Option.bind_some _ _).symm.trans H; rw [hy331]; with_reducible exact H2_) | (have H2_ := (Option.bind_some _ _).symm.trans H; with_reducible exact H2_) | with_reducible exact H | (rw [hy331]; exact H) | exact H
      have Ny331 := YK hy331; clear hy331
      by_cases c9 : y331.length + l1.length < 8796093022208
      rotate_left
      · rw [if_neg c9] at H
        exact absurd H (by simp)
      rw [if_pos c9] at H; have LMc9 := YK c9; clear c9
      obtain ⟨y334, hy334⟩ : ∃ y_ : List (S36), y_ = (y331 ++ l1) := ⟨_, rfl⟩
      replace H : ((some (([(⟨a2_0, a2_1⟩ : S36)] : List (S36)) : List (S36))).bind fun y337 => (if y334.length + y337.length < 8796093022208 then ((graph_Steps.f kj4 a0 l1 a3).bind fun bt343 => ((graph_Steps.f kj4 a0 (y334 ++ y337) a3).bind fun bt347 => (if bt343.2 = 0 then (if bt347.2 = 0 then (if (bt343.1.length : Int) = a0 then (thalweglaw25_GraphMore.j1 kj4 a0 l1 bt343.1 bt347.1 ((bt347.1.length : Int) != a0) a2_0 a2_1) else (thalweglaw25_GraphMore.j1 kj4 a0 l1 bt343.1 bt347.1 true a2_0 a2_1)) else (thalweglaw25_GraphMore.j1 kj4 a0 l1 bt343.1 bt347.1 true a2_0 a2_1)) else ((thalweglaw25_awake.f kj4).bind fun t351 => (if t351 = true then (some (bt347.2 == bt343.2)) else (none)))))) else (none))) = some r := by first | (rw [hy334]; with_reducible exact H) | (have H2_ := (Option.bind_some _ _).symm.trans H; rw [hy334]; with_reducible exact H2_) | (have H2_ := (Option.bind_some _ _).symm.trans H; with_reducible exact H2_) | with_reducible exact H | (rw [hy334]; exact H) | exact H
      have Ny334 := YK hy334; clear hy334
      obtain ⟨y337, hy337⟩ : ∃ y_ : List (S36), y_ = (([(⟨a2_0, a2_1⟩ : S36)] : List (S36))) := ⟨_, rfl⟩
      replace H : (if y334.length + y337.length < 8796093022208 then ((graph_Steps.f kj4 a0 l1 a3).bind fun bt343 => ((graph_Steps.f kj4 a0 (y334 ++ y337) a3).bind fun bt347 => (if bt343.2 = 0 then (if bt347.2 = 0 then (if (bt343.1.length : Int) = a0 then (thalweglaw25_GraphMore.j1 kj4 a0 l1 bt343.1 bt347.1 ((bt347.1.length : Int) != a0) a2_0 a2_1) else (thalweglaw25_GraphMore.j1 kj4 a0 l1 bt343.1 bt347.1 true a2_0 a2_1)) else (thalweglaw25_GraphMore.j1 kj4 a0 l1 bt343.1 bt347.1 true a2_0 a2_1)) else ((thalweglaw25_awake.f kj4).bind fun t351 => (if t351 = true then (some (bt347.2 == bt343.2)) else (none)))))) else (none)) = some r := by first | (rw [hy337]; with_reducible exact H) | (have H2_ := (Option.bind_some _ _).symm.trans H; rw [hy337]; with_reducible exact H2_) | (have H2_ := (Option.bind_some _ _).symm.trans H; with_reducible exact H2_) | with_reducible exact H | (rw [hy337]; exact H) | exact H
      have Ny337 := YK hy337; clear hy337
      by_cases c10 : y334.length + y337.length < 8796093022208
      rotate_left
      · rw [if_neg c10] at H
        exact absurd H (by simp)
      rw [if_pos c10] at H; have LMc10 := YK c10; clear c10
      obtain ⟨y340, hy340⟩ : ∃ y_ : List (S36), y_ = (y334 ++ y337) := ⟨_, rfl⟩
      replace H : ((graph_Steps.f kj4 a0 l1 a3).bind fun bt343 => ((graph_Steps.f kj4 a0 y340 a3).bind fun bt347 => (if bt343.2 = 0 then (if bt347.2 = 0 then (if (bt343.1.length : Int) = a0 then (thalweglaw25_GraphMore.j1 kj4 a0 l1 bt343.1 bt347.1 ((bt347.1.length : Int) != a0) a2_0 a2_1) else (thalweglaw25_GraphMore.j1 kj4 a0 l1 bt343.1 bt347.1 true a2_0 a2_1)) else (thalweglaw25_GraphMore.j1 kj4 a0 l1 bt343.1 bt347.1 true a2_0 a2_1)) else ((thalweglaw25_awake.f kj4).bind fun t351 => (if t351 = true then (some (bt347.2 == bt343.2)) else (none)))))) = some r := by first | (rw [hy340]; with_reducible exact H) | (have H2_ := (Option.bind_some _ _).symm.trans H; rw [hy340]; with_reducible exact H2_) | (have H2_ := (Option.bind_some _ _).symm.trans H; with_reducible exact H2_) | with_reducible exact H | (rw [hy340]; exact H) | exact H
      have Ny340 := YK hy340; clear hy340; replace H := Option.bind_eq_some_iff.mp H
      obtain ⟨⟨t343, t344⟩, A110, H⟩ := H
      replace H : ((graph_Steps.f kj4 a0 y340 a3).bind fun bt347 => (if t344 = 0 then (if bt347.2 = 0 then (if (t343.length : Int) = a0 then (thalweglaw25_GraphMore.j1 kj4 a0 l1 t343 bt347.1 ((bt347.1.length : Int) != a0) a2_0 a2_1) else (thalweglaw25_GraphMore.j1 kj4 a0 l1 t343 bt347.1 true a2_0 a2_1)) else (thalweglaw25_GraphMore.j1 kj4 a0 l1 t343 bt347.1 true a2_0 a2_1)) else ((thalweglaw25_awake.f kj4).bind fun t351 => (if t351 = true then (some (bt347.2 == t344)) else (none))))) = some r := H
      have A11 := YK A110; clear A110; replace H := Option.bind_eq_some_iff.mp H
      obtain ⟨⟨t347, t348⟩, A120, H⟩ := H
      replace H : (if t344 = 0 then (if t348 = 0 then (if (t343.length : Int) = a0 then (thalweglaw25_GraphMore.j1 kj4 a0 l1 t343 t347 ((t347.length : Int) != a0) a2_0 a2_1) else (thalweglaw25_GraphMore.j1 kj4 a0 l1 t343 t347 true a2_0 a2_1)) else (thalweglaw25_GraphMore.j1 kj4 a0 l1 t343 t347 true a2_0 a2_1)) else ((thalweglaw25_awake.f kj4).bind fun t351 => (if t351 = true then (some (t348 == t344)) else (none)))) = some r := H
      have A12 := YK A120; clear A120
      by_cases c13 : t344 = 0
      · rw [if_pos c13] at H
        have c13b0 : (t344 == 0) = true := beq_iff_eq.mpr c13
        have c13b1 : (t344 != 0) = false := bne_eq_false_iff_eq.mpr c13
        clear c13; have HC14 := YK H; clear H
        try go_wp2
        have n0_ := YK (YG BK330.out)
        have n1_ := YK (YC HB.out)
        clear BK330; clear HB; have BK330 := n0_; have HB := n1_; clear n0_ n1_
        refine start_ (n := 7) (S := fun w' => w'.cell? ⟨gb330, 0, none⟩ = some (.int .i64 a2_0) ∧ w'.cell? ⟨gb330, 1, none⟩ = some (.int .i64 a2_1)) (ds := []) #[false, false, false, false, false, false, false] (by kernel_rfl) rfl rfl ⟨(YI BK330.out 0).trans rfl, (YI BK330.out 1).trans rfl⟩ (fun hHeld => ?_)
        generalize wc.drew = w15 at BK330 HB hHeld ⊢
        refine pure_ (i := 1) (N := some 25) (v := ?_) (a' := ?_) #[false, true, false, false, false, false, false] rfl rfl (by kernel_rfl) (fun _ _ _ h => h) (Or.inl ⟨by rfl, ?_⟩) ?_ ?_
        rotate_left
        · intro w'
          go_simp; with_reducible rfl
        rotate_left
        · simp only [Act.put, YL, YM, YN, i64_w, i32_w]
          rfl
        refine take_ (i := 3) (N := some 27) (v := ?_) (a' := ?_) #[false, true, false, true, false, false, false] rfl rfl (by kernel_rfl) (fun _ _ _ h => h) (Or.inl ⟨by rfl, ?_⟩) hHeld ?_ ?_
        rotate_left
        · rintro w' ⟨s0, s1⟩
          go_simp; with_reducible rfl
        rotate_left
        · simp only [Act.put, YL, YM, YN, i64_w, i32_w]
          rfl
        refine join_ (σ := Value × Value × Value) 2 #[true, true, true, true, true, false, false] (fun s_ => [(24, s_.1), (26, s_.2.1), (28, s_.2.2)]) (fun s_ w' => (w'.cell? ⟨gb330, 0, none⟩ = some (.int .i64 a2_0) ∧ w'.cell? ⟨gb330, 1, none⟩ = some (.int .i64 a2_1)) ∧ (Kd.R k36 36 w' w.heap.size (fun k_ => some k_ ≠ (s_.2.2 : Value).ownBlock ∧ k_ ≠ gb330) s_.2.1 y334) ∧ (Kd.R k36 36 w' w.heap.size (fun k_ => some k_ ≠ (s_.2.1 : Value).ownBlock ∧ k_ ≠ gb330) s_.2.2 y337) ∧ (w'.heap[gb330]? = some (.cells #[.int .i64 a2_0, .int .i64 a2_1] 36 (0, 0))) ∧ (Below w.heap.size w w')) ?_ ?_
        rotate_left
        · intro hCont
          refine two_ (i := 0) (j := 4) (Ni := some 24) (Nj := some 28) #[true, true, false, true, false, false, false] #[false, true, false, true, true, false, false] rfl rfl rfl rfl (by kernel_rfl) (by decide) (by decide) (fun K hK => ?_) (fun K hK => ?_)
          · skip
            refine Kd.R_lit_step k36 _ 36 ?hg (N := 24) ?hd (xs := ([] : List (S36))) (inner := []) (ok := fun _ => True) (okp := fun _ => True) ?hr ?hp (fun _ hk => hk) trivial (Below.refl _ _) (Nat.le_refl _) (by simp) ?_; (case hd => rfl); (case hg => rfl); (case hr => first | (go_simp; done) | (go_simp; rfl)); (case hp => exact (Reps.none _ _))
            intro v332 w16 ho17 hb hg_ hnew_
            clear hg_ hnew_
            (first | rw [← Ny331.out] at ho17 | (simp only [Int.reduceToNat] at ho17; rw [← Ny331.out] at ho17))
            have n0_ := YK (Kd.R_lower (Kd.R_newB ho17 (g := gb330) (o := .cells #[.int .i64 a2_0, .int .i64 a2_1] 36 (0, 0)) (by (with_reducible repeat (first | refine YF ?_ _ | refine YG ?_ | refine YH ?_ _)); exact BK330.out)) (YE (by repeat (first | (with_reducible first | exact HB.out | apply YA | apply YB | apply YC | refine below_set ?_ GE330.out) | exact HB.out))))
            have n1_ := YK (YJ (g := gb330) (o := .cells #[.int .i64 a2_0, .int .i64 a2_1] 36 (0, 0)) (by (with_reducible repeat (first | refine YF ?_ _ | refine YG ?_ | refine YH ?_ _)); exact BK330.out) hb)
            have n2_ := YK (YD (by repeat (first | (with_reducible first | exact HB.out | apply YA | apply YB | apply YC | refine below_set ?_ GE330.out) | exact HB.out)) hb)
            clear BK330; clear HB; have HO333 := n0_; have BK330 := n1_; have HB := n2_; clear n0_ n1_ n2_; clear hb ho17
            refine hK.out _ _ ⟨(YI BK330.out 0).trans rfl, (YI BK330.out 1).trans rfl⟩ (fun hHeld => ?_)
            clear hK K
            refine norm_ (a' := ?_) ?_ ?_
            rotate_left
            · show Act.put _ (some 24) _ = _
              simp only [Act.put, YL, YM, YN, i64_w, i32_w]
              rfl
            refine two_ (i := 2) (j := 4) (Ni := some 26) (Nj := some 28) #[true, true, true, true, false, false, false] #[true, true, false, true, true, false, false] rfl rfl rfl rfl (by kernel_rfl) (by decide) (by decide) (fun K hK => ?_) (fun K hK => ?_)
            · skip
              refine Kd.R_append_rows_step k36 (w0 := w) w.heap.size (by rfl) (.tmp 24) (.tmp 25) 28 36 (.agg #[(.int .i64 0), (.int .i64 0)]) 16 rfl Try.underlying28 info36 rfl (by decide) (by omega) v332 y331 l1 _ _ _ (fun k_ => k_ ≠ gb330) (fun _ => False) rfl rfl ?aO ?aR (fun _ _ h => h) (fun _ h => h.elim) ?aF ?aB ?aS ?aL ?_
              (case aR => repeat (first | exact (Kd.C_below HR1.out HB.out) | (with_reducible refine Kd.C_alloc ?_ _) | (with_reducible refine Kd.C_drewN ?_ _) | (with_reducible refine Kd.C_drew ?_)))
              (case aB => exact (by repeat (first | (with_reducible first | exact HB.out | apply YA | apply YB | apply YC | refine below_set ?_ GE330.out) | exact HB.out)))
              (case aF => exact (fun k_ hk => Kd.freshB (g := gb330) (o := .cells #[.int .i64 a2_0, .int .i64 a2_1] 36 (0, 0)) (by (with_reducible repeat (first | refine YF ?_ _ | refine YG ?_ | refine YH ?_ _)); exact BK330.out) k_ hk))
              (case aO => exact (by (with_reducible repeat (first | apply YR | apply YS | apply YT)); exact Kd.R_mono HO333.out (fun _ hk => by first | exact hk.2 | exact trivial | (simp [hk]; done) | simp_all)))
              (case aS => exact (YE (by repeat (first | (with_reducible first | exact HB.out | apply YA | apply YB | apply YC | refine below_set ?_ GE330.out) | exact HB.out))))
              (case aL => have := LMc9.out; omega)
              intro v335 w18 ho hb hg hat
              rw [← Ny334.out] at ho
              have n0_ := YK (blk_grown (g := gb330) (o := .cells #[.int .i64 a2_0, .int .i64 a2_1] 36 (0, 0)) (by (with_reducible repeat (first | refine YF ?_ _ | refine YG ?_ | refine YH ?_ _)); exact BK330.out) hg (Kd.R_away HO333.out (fun _ hk => hk.2)))
              have n1_ := YK (hb)
              have n2_ := YK (ho)
              clear BK330; clear HB; clear HO333; have BK330 := n0_; have HB := n1_; have HO336 := n2_; clear n0_ n1_ n2_; clear ho hb hg hat
              refine hK.out _ _ ⟨(YI BK330.out 0).trans rfl, (YI BK330.out 1).trans rfl⟩ (fun hHeld => ?_)
              clear hK K
              refine norm_ (a' := ?_) ?_ ?_
              rotate_left
              · show Act.put _ (some 26) _ = _
                simp only [Act.put, YL, YM, YN, i64_w, i32_w]
                rfl
              refine one_ (i := 4) (N := some 28) #[true, true, true, true, true, false, false] rfl rfl (by kernel_rfl) (by decide) (fun K hK => ?_)
              refine Kd.R_lit_step k36 _ 36 ?hg (N := 28) ?hd (xs := ([(⟨a2_0, a2_1⟩ : S36)] : List (S36))) (inner := [.int .i64 a2_0, .int .i64 a2_1]) (ok := fun _ => True) (okp := fun _ => True) ?hr ?hp (fun _ hk => hk) trivial (Below.refl _ _) (Nat.le_refl _) (by simp) ?_; (case hd => rfl); (case hg => rfl); (case hr => first | (go_simp; done) | (go_simp; rfl)); (case hp => exact (Reps.c2 (show Kd.M k36 _ _ _ (⟨a2_0, a2_1⟩ : S36) [.int .i64 a2_0, .int .i64 a2_1] from (k36_mkM _ _ _ (⟨a2_0, a2_1⟩ : S36) )) (Reps.none _ _)))
              intro v338 w19 ho20 hb hg_ hnew_
              clear hg_ hnew_
              (first | rw [← Ny337.out] at ho20 | (simp only [Int.reduceToNat] at ho20; rw [← Ny337.out] at ho20))
              have n0_ := YK (Kd.R_elder' (by (with_reducible repeat (first | apply YR | apply YS | apply YT)); exact HO336.out) (Kd.R_base ho20) hb)
              have n1_ := YK (Kd.R_lower (Kd.R_newB (Kd.R_new' ho20 (Kd.R_lt (by (with_reducible repeat (first | apply YR | apply YS | apply YT)); exact HO336.out))) (g := gb330) (o := .cells #[.int .i64 a2_0, .int .i64 a2_1] 36 (0, 0)) (by (with_reducible repeat (first | refine YF ?_ _ | refine YG ?_ | refine YH ?_ _)); exact BK330.out)) (YE (by repeat (first | (with_reducible first | exact HB.out | apply YA | apply YB | apply YC | refine below_set ?_ GE330.out) | exact HB.out))))
              have n2_ := YK (YJ (g := gb330) (o := .cells #[.int .i64 a2_0, .int .i64 a2_1] 36 (0, 0)) (by (with_reducible repeat (first | refine YF ?_ _ | refine YG ?_ | refine YH ?_ _)); exact BK330.out) hb)
              have n3_ := YK (YD (by repeat (first | (with_reducible first | exact HB.out | apply YA | apply YB | apply YC | refine below_set ?_ GE330.out) | exact HB.out)) hb)
              clear HO336; clear BK330; clear HB; have HO336 := n0_; have HO339 := n1_; have BK330 := n2_; have HB := n3_; clear n0_ n1_ n2_ n3_; clear hb ho20
              refine hK.out _ _ ⟨(YI BK330.out 0).trans rfl, (YI BK330.out 1).trans rfl⟩ (fun hHeld => ?_)
              clear hK K
              refine norm_ (a' := ?_) ?_ ?_
              rotate_left
              · show Act.put _ (some 28) _ = _
                simp only [Act.put, YL, YM, YN, i64_w, i32_w]
                rfl
              exact norm_ (by simp only [putAll, Act.put, YL, YM, YN]) (hCont (v332, v335, v338) _ ⟨hHeld, (by (with_reducible repeat (first | apply YR | apply YS | apply YT)); exact Kd.R_mono HO336.out (fun _ hk => by first | exact ⟨hk.2, hk.1⟩ | exact trivial | (simp [hk]; done) | simp_all)), (by (with_reducible repeat (first | apply YR | apply YS | apply YT)); exact Kd.R_mono HO339.out (fun _ hk => by first | exact ⟨hk.1.2, hk.2⟩ | exact trivial | (simp [hk]; done) | simp_all)), (by (with_reducible repeat (first | refine YF ?_ _ | refine YG ?_ | refine YH ?_ _)); exact BK330.out), (by repeat (first | (with_reducible first | exact HB.out | apply YA | apply YB | apply YC | refine below_set ?_ GE330.out) | exact HB.out))⟩)
            skip
            refine Kd.R_lit_step k36 _ 36 ?hg (N := 28) ?hd (xs := ([(⟨a2_0, a2_1⟩ : S36)] : List (S36))) (inner := [.int .i64 a2_0, .int .i64 a2_1]) (ok := fun _ => True) (okp := fun _ => True) ?hr ?hp (fun _ hk => hk) trivial (Below.refl _ _) (Nat.le_refl _) (by simp) ?_; (case hd => rfl); (case hg => rfl); (case hr => first | (go_simp; done) | (go_simp; rfl)); (case hp => exact (Reps.c2 (show Kd.M k36 _ _ _ (⟨a2_0, a2_1⟩ : S36) [.int .i64 a2_0, .int .i64 a2_1] from (k36_mkM _ _ _ (⟨a2_0, a2_1⟩ : S36) )) (Reps.none _ _)))
            intro v338 w18 ho19 hb hg_ hnew_
            clear hg_ hnew_
            (first | rw [← Ny337.out] at ho19 | (simp only [Int.reduceToNat] at ho19; rw [← Ny337.out] at ho19))
            have n0_ := YK (Kd.R_elder' (by (with_reducible repeat (first | apply YR | apply YS | apply YT)); exact HO333.out) (Kd.R_base ho19) hb)
            have n1_ := YK (Kd.R_lower (Kd.R_newB (Kd.R_new' ho19 (Kd.R_lt (by (with_reducible repeat (first | apply YR | apply YS | apply YT)); exact HO333.out))) (g := gb330) (o := .cells #[.int .i64 a2_0, .int .i64 a2_1] 36 (0, 0)) (by (with_reducible repeat (first | refine YF ?_ _ | refine YG ?_ | refine YH ?_ _)); exact BK330.out)) (YE (by repeat (first | (with_reducible first | exact HB.out | apply YA | apply YB | apply YC | refine below_set ?_ GE330.out) | exact HB.out))))
            have n2_ := YK (YJ (g := gb330) (o := .cells #[.int .i64 a2_0, .int .i64 a2_1] 36 (0, 0)) (by (with_reducible repeat (first | refine YF ?_ _ | refine YG ?_ | refine YH ?_ _)); exact BK330.out) hb)
            have n3_ := YK (YD (by repeat (first | (with_reducible first | exact HB.out | apply YA | apply YB | apply YC | refine below_set ?_ GE330.out) | exact HB.out)) hb)
            clear HO333; clear BK330; clear HB; have HO333 := n0_; have HO339 := n1_; have BK330 := n2_; have HB := n3_; clear n0_ n1_ n2_ n3_; clear hb ho19
            refine hK.out _ _ ⟨(YI BK330.out 0).trans rfl, (YI BK330.out 1).trans rfl⟩ (fun hHeld => ?_)
            clear hK K
            refine norm_ (a' := ?_) ?_ ?_
            rotate_left
            · show Act.put _ (some 28) _ = _
              simp only [Act.put, YL, YM, YN, i64_w, i32_w]
              rfl
            refine one_ (i := 2) (N := some 26) #[true, true, true, true, true, false, false] rfl rfl (by kernel_rfl) (by decide) (fun K hK => ?_)
            refine Kd.R_append_rows_step k36 (w0 := w) w.heap.size (by rfl) (.tmp 24) (.tmp 25) 28 36 (.agg #[(.int .i64 0), (.int .i64 0)]) 16 rfl Try.underlying28 info36 rfl (by decide) (by omega) v332 y331 l1 _ _ _ (fun k_ => some k_ ≠ (v338 : Value).ownBlock ∧ k_ ≠ gb330) (fun _ => False) rfl rfl ?aO ?aR (fun _ _ h => h) (fun _ h => h.elim) ?aF ?aB ?aS ?aL ?_
            (case aR => repeat (first | exact (Kd.C_below HR1.out HB.out) | (with_reducible refine Kd.C_alloc ?_ _) | (with_reducible refine Kd.C_drewN ?_ _) | (with_reducible refine Kd.C_drew ?_)))
            (case aB => exact (by repeat (first | (with_reducible first | exact HB.out | apply YA | apply YB | apply YC | refine below_set ?_ GE330.out) | exact HB.out)))
            (case aF => exact (fun k_ hk => ⟨Kd.fresh' (Kd.R_lt (by (with_reducible repeat (first | apply YR | apply YS | apply YT)); exact HO339.out)) k_ hk, Kd.freshB (g := gb330) (o := .cells #[.int .i64 a2_0, .int .i64 a2_1] 36 (0, 0)) (by (with_reducible repeat (first | refine YF ?_ _ | refine YG ?_ | refine YH ?_ _)); exact BK330.out) k_ hk⟩))
            (case aO => exact (by (with_reducible repeat (first | apply YR | apply YS | apply YT)); exact Kd.R_mono HO333.out (fun _ hk => by first | exact ⟨hk.2, hk.1.2⟩ | exact trivial | (simp [hk]; done) | simp_all)))
            (case aS => exact (YE (by repeat (first | (with_reducible first | exact HB.out | apply YA | apply YB | apply YC | refine below_set ?_ GE330.out) | exact HB.out))))
            (case aL => have := LMc9.out; omega)
            intro v335 w20 ho hb hg hat
            rw [← Ny334.out] at ho
            have n0_ := YK (blk_grown (g := gb330) (o := .cells #[.int .i64 a2_0, .int .i64 a2_1] 36 (0, 0)) (by (with_reducible repeat (first | refine YF ?_ _ | refine YG ?_ | refine YH ?_ _)); exact BK330.out) hg (Kd.R_away HO333.out (fun _ hk => hk.1.2)))
            have n1_ := YK (Kd.R_after (ok := (fun k_ => k_ ≠ gb330)) (by (with_reducible repeat (first | apply YR | apply YS | apply YT)); exact Kd.R_mono HO339.out (fun _ hk => by first | exact ⟨hk.2, hk.1.2⟩ | exact trivial | (simp [hk]; done) | simp_all)) hg hat)
            have n2_ := YK (hb)
            have n3_ := YK (ho)
            clear BK330; clear HO339; clear HB; clear HO333; have BK330 := n0_; have HO339 := n1_; have HB := n2_; have HO336 := n3_; clear n0_ n1_ n2_ n3_; clear ho hb hg hat
            refine hK.out _ _ ⟨(YI BK330.out 0).trans rfl, (YI BK330.out 1).trans rfl⟩ (fun hHeld => ?_)
            clear hK K
            refine norm_ (a' := ?_) ?_ ?_
            rotate_left
            · show Act.put _ (some 26) _ = _
              simp only [Act.put, YL, YM, YN, i64_w, i32_w]
              rfl
            exact norm_ (by simp only [putAll, Act.put, YL, YM, YN]) (hCont (v332, v335, v338) _ ⟨hHeld, (by (with_reducible repeat (first | apply YR | apply YS | apply YT)); exact HO336.out), (by (with_reducible repeat (first | apply YR | apply YS | apply YT)); exact Kd.R_mono HO339.out (fun _ hk => by first | exact ⟨hk.2, hk.1⟩ | exact trivial | (simp [hk]; done) | simp_all)), (by (with_reducible repeat (first | refine YF ?_ _ | refine YG ?_ | refine YH ?_ _)); exact BK330.out), (by repeat (first | (with_reducible first | exact HB.out | apply YA | apply YB | apply YC | refine below_set ?_ GE330.out) | exact HB.out))⟩)
          skip
          refine Kd.R_lit_step k36 _ 36 ?hg (N := 28) ?hd (xs := ([(⟨a2_0, a2_1⟩ : S36)] : List (S36))) (inner := [.int .i64 a2_0, .int .i64 a2_1]) (ok := fun _ => True) (okp := fun _ => True) ?hr ?hp (fun _ hk => hk) trivial (Below.refl _ _) (Nat.le_refl _) (by simp) ?_; (case hd => rfl); (case hg => rfl); (case hr => first | (go_simp; done) | (go_simp; rfl)); (case hp => exact (Reps.c2 (show Kd.M k36 _ _ _ (⟨a2_0, a2_1⟩ : S36) [.int .i64 a2_0, .int .i64 a2_1] from (k36_mkM _ _ _ (⟨a2_0, a2_1⟩ : S36) )) (Reps.none _ _)))
          intro v338 w16 ho17 hb hg_ hnew_
          clear hg_ hnew_
          (first | rw [← Ny337.out] at ho17 | (simp only [Int.reduceToNat] at ho17; rw [← Ny337.out] at ho17))
          have n0_ := YK (Kd.R_lower (Kd.R_newB ho17 (g := gb330) (o := .cells #[.int .i64 a2_0, .int .i64 a2_1] 36 (0, 0)) (by (with_reducible repeat (first | refine YF ?_ _ | refine YG ?_ | refine YH ?_ _)); exact BK330.out)) (YE (by repeat (first | (with_reducible first | exact HB.out | apply YA | apply YB | apply YC | refine below_set ?_ GE330.out) | exact HB.out))))
          have n1_ := YK (YJ (g := gb330) (o := .cells #[.int .i64 a2_0, .int .i64 a2_1] 36 (0, 0)) (by (with_reducible repeat (first | refine YF ?_ _ | refine YG ?_ | refine YH ?_ _)); exact BK330.out) hb)
          have n2_ := YK (YD (by repeat (first | (with_reducible first | exact HB.out | apply YA | apply YB | apply YC | refine below_set ?_ GE330.out) | exact HB.out)) hb)
          clear BK330; clear HB; have HO339 := n0_; have BK330 := n1_; have HB := n2_; clear n0_ n1_ n2_; clear hb ho17
          refine hK.out _ _ ⟨(YI BK330.out 0).trans rfl, (YI BK330.out 1).trans rfl⟩ (fun hHeld => ?_)
          clear hK K
          refine norm_ (a' := ?_) ?_ ?_
          rotate_left
          · show Act.put _ (some 28) _ = _
            simp only [Act.put, YL, YM, YN, i64_w, i32_w]
            rfl
          refine one_ (i := 0) (N := some 24) #[true, true, false, true, true, false, false] rfl rfl (by kernel_rfl) (by decide) (fun K hK => ?_)
          refine Kd.R_lit_step k36 _ 36 ?hg (N := 24) ?hd (xs := ([] : List (S36))) (inner := []) (ok := fun _ => True) (okp := fun _ => True) ?hr ?hp (fun _ hk => hk) trivial (Below.refl _ _) (Nat.le_refl _) (by simp) ?_; (case hd => rfl); (case hg => rfl); (case hr => first | (go_simp; done) | (go_simp; rfl)); (case hp => exact (Reps.none _ _))
          intro v332 w18 ho19 hb hg_ hnew_
          clear hg_ hnew_
          (first | rw [← Ny331.out] at ho19 | (simp only [Int.reduceToNat] at ho19; rw [← Ny331.out] at ho19))
          have n0_ := YK (Kd.R_elder' (by (with_reducible repeat (first | apply YR | apply YS | apply YT)); exact HO339.out) (Kd.R_base ho19) hb)
          have n1_ := YK (Kd.R_lower (Kd.R_newB (Kd.R_new' ho19 (Kd.R_lt (by (with_reducible repeat (first | apply YR | apply YS | apply YT)); exact HO339.out))) (g := gb330) (o := .cells #[.int .i64 a2_0, .int .i64 a2_1] 36 (0, 0)) (by (with_reducible repeat (first | refine YF ?_ _ | refine YG ?_ | refine YH ?_ _)); exact BK330.out)) (YE (by repeat (first | (with_reducible first | exact HB.out | apply YA | apply YB | apply YC | refine below_set ?_ GE330.out) | exact HB.out))))
          have n2_ := YK (YJ (g := gb330) (o := .cells #[.int .i64 a2_0, .int .i64 a2_1] 36 (0, 0)) (by (with_reducible repeat (first | refine YF ?_ _ | refine YG ?_ | refine YH ?_ _)); exact BK330.out) hb)
          have n3_ := YK (YD (by repeat (first | (with_reducible first | exact HB.out | apply YA | apply YB | apply YC | refine below_set ?_ GE330.out) | exact HB.out)) hb)
          clear HO339; clear BK330; clear HB; have HO339 := n0_; have HO333 := n1_; have BK330 := n2_; have HB := n3_; clear n0_ n1_ n2_ n3_; clear hb ho19
          refine hK.out _ _ ⟨(YI BK330.out 0).trans rfl, (YI BK330.out 1).trans rfl⟩ (fun hHeld => ?_)
          clear hK K
          refine norm_ (a' := ?_) ?_ ?_
          rotate_left
          · show Act.put _ (some 24) _ = _
            simp only [Act.put, YL, YM, YN, i64_w, i32_w]
            rfl
          refine one_ (i := 2) (N := some 26) #[true, true, true, true, true, false, false] rfl rfl (by kernel_rfl) (by decide) (fun K hK => ?_)
          refine Kd.R_append_rows_step k36 (w0 := w) w.heap.size (by rfl) (.tmp 24) (.tmp 25) 28 36 (.agg #[(.int .i64 0), (.int .i64 0)]) 16 rfl Try.underlying28 info36 rfl (by decide) (by omega) v332 y331 l1 _ _ _ (fun k_ => some k_ ≠ (v338 : Value).ownBlock ∧ k_ ≠ gb330) (fun _ => False) rfl rfl ?aO ?aR (fun _ _ h => h) (fun _ h => h.elim) ?aF ?aB ?aS ?aL ?_
          (case aR => repeat (first | exact (Kd.C_below HR1.out HB.out) | (with_reducible refine Kd.C_alloc ?_ _) | (with_reducible refine Kd.C_drewN ?_ _) | (with_reducible refine Kd.C_drew ?_)))
          (case aB => exact (by repeat (first | (with_reducible first | exact HB.out | apply YA | apply YB | apply YC | refine below_set ?_ GE330.out) | exact HB.out)))
          (case aF => exact (fun k_ hk => ⟨Kd.fresh' (Kd.R_lt (by (with_reducible repeat (first | apply YR | apply YS | apply YT)); exact HO339.out)) k_ hk, Kd.freshB (g := gb330) (o := .cells #[.int .i64 a2_0, .int .i64 a2_1] 36 (0, 0)) (by (with_reducible repeat (first | refine YF ?_ _ | refine YG ?_ | refine YH ?_ _)); exact BK330.out) k_ hk⟩))
          (case aO => exact (by (with_reducible repeat (first | apply YR | apply YS | apply YT)); exact Kd.R_mono HO333.out (fun _ hk => by first | exact ⟨hk.1.2, hk.2⟩ | exact trivial | (simp [hk]; done) | simp_all)))
          (case aS => exact (YE (by repeat (first | (with_reducible first | exact HB.out | apply YA | apply YB | apply YC | refine below_set ?_ GE330.out) | exact HB.out))))
          (case aL => have := LMc9.out; omega)
          intro v335 w20 ho hb hg hat
          rw [← Ny334.out] at ho
          have n0_ := YK (blk_grown (g := gb330) (o := .cells #[.int .i64 a2_0, .int .i64 a2_1] 36 (0, 0)) (by (with_reducible repeat (first | refine YF ?_ _ | refine YG ?_ | refine YH ?_ _)); exact BK330.out) hg (Kd.R_away HO333.out (fun _ hk => hk.2)))
          have n1_ := YK (Kd.R_after (ok := (fun k_ => k_ ≠ gb330)) (by (with_reducible repeat (first | apply YR | apply YS | apply YT)); exact Kd.R_mono HO339.out (fun _ hk => by first | exact ⟨hk.1.2, hk.2⟩ | exact trivial | (simp [hk]; done) | simp_all)) hg hat)
          have n2_ := YK (hb)
          have n3_ := YK (ho)
          clear BK330; clear HO339; clear HB; clear HO333; have BK330 := n0_; have HO339 := n1_; have HB := n2_; have HO336 := n3_; clear n0_ n1_ n2_ n3_; clear ho hb hg hat
          refine hK.out _ _ ⟨(YI BK330.out 0).trans rfl, (YI BK330.out 1).trans rfl⟩ (fun hHeld => ?_)
          clear hK K
          refine norm_ (a' := ?_) ?_ ?_
          rotate_left
          · show Act.put _ (some 26) _ = _
            simp only [Act.put, YL, YM, YN, i64_w, i32_w]
            rfl
          exact norm_ (by simp only [putAll, Act.put, YL, YM, YN]) (hCont (v332, v335, v338) _ ⟨hHeld, (by (with_reducible repeat (first | apply YR | apply YS | apply YT)); exact HO336.out), (by (with_reducible repeat (first | apply YR | apply YS | apply YT)); exact Kd.R_mono HO339.out (fun _ hk => by first | exact ⟨hk.2, hk.1⟩ | exact trivial | (simp [hk]; done) | simp_all)), (by (with_reducible repeat (first | refine YF ?_ _ | refine YG ?_ | refine YH ?_ _)); exact BK330.out), (by repeat (first | (with_reducible first | exact HB.out | apply YA | apply YB | apply YC | refine below_set ?_ GE330.out) | exact HB.out))⟩)
        rintro ⟨v332, v335, v338⟩ w21 ⟨hS_, h0_, h1_, h2_, h3_⟩
        have n0_ : Aside0 (Kd.R k36 36 w21 w.heap.size (fun k_ => some k_ ≠ (v338 : Value).ownBlock ∧ k_ ≠ gb330) v335 y334) := ⟨h0_⟩
        have n1_ : Aside0 (Kd.R k36 36 w21 w.heap.size (fun k_ => some k_ ≠ (v335 : Value).ownBlock ∧ k_ ≠ gb330) v338 y337) := ⟨h1_⟩
        have n2_ : Aside0 (w21.heap[gb330]? = some (.cells #[.int .i64 a2_0, .int .i64 a2_1] 36 (0, 0))) := ⟨h2_⟩
        have n3_ : Aside0 (Below w.heap.size w w21) := ⟨h3_⟩
        clear BK330; clear HB; clear h0_ h1_ h2_ h3_; have HO336 := n0_; have HO339 := n1_; have BK330 := n2_; have HB := n3_; clear n0_ n1_ n2_ n3_
        have hHeld : w21.cell? ⟨gb330, 0, none⟩ = some (.int .i64 a2_0) ∧ w21.cell? ⟨gb330, 1, none⟩ = some (.int .i64 a2_1) := hS_
        obtain ⟨Ao23, co23, eo23⟩ := Kd.R_slice HO339.out
        (first | subst eo23 | (injection eo23 with f1_ f2_ f3_; have f4_ := f1_.symm; have f5_ := f3_.symm; clear f1_ f2_ f3_; subst f4_; subst f5_))
        refine norm_ (a' := ?_) ?_ ?_
        rotate_left
        · simp only [putAll, Act.put, YL, YM, YN]
          rfl
        refine one_ (i := 5) (N := some 29) #[true, true, true, true, true, true, false] rfl rfl (by kernel_rfl) (by decide) (fun K hK => ?_)
        refine Kd.R_append_rows_step k36 (w0 := w) w.heap.size (by rfl) (.tmp 26) (.tmp 28) 28 36 (.agg #[(.int .i64 0), (.int .i64 0)]) 16 rfl Try.underlying28 info36 rfl (by decide) (by omega) v335 y334 y337 _ _ _ (fun k_ => some k_ ≠ (.slice Ao23 y337.length co23 : Value).ownBlock ∧ k_ ≠ gb330) (fun _ => False) rfl rfl ?aO ?aR (fun _ _ h => h) (fun _ h => h.elim) ?aF ?aB ?aS ?aL ?_
        (case aR => repeat (first | exact (Kd.R_reads' HO339.out).2.2 | (with_reducible refine Kd.C_alloc ?_ _) | (with_reducible refine Kd.C_drewN ?_ _) | (with_reducible refine Kd.C_drew ?_)))
        (case aB => exact (by repeat (first | (with_reducible first | exact HB.out | apply YA | apply YB | apply YC | refine below_set ?_ GE330.out) | exact HB.out)))
        (case aF => exact (fun k_ hk => ⟨Kd.fresh' (Kd.R_lt (by (with_reducible repeat (first | apply YR | apply YS | apply YT)); exact HO339.out)) k_ hk, Kd.freshB (g := gb330) (o := .cells #[.int .i64 a2_0, .int .i64 a2_1] 36 (0, 0)) (by (with_reducible repeat (first | refine YF ?_ _ | refine YG ?_ | refine YH ?_ _)); exact BK330.out) k_ hk⟩))
        (case aO => exact (by (with_reducible repeat (first | apply YR | apply YS | apply YT)); exact HO336.out))
        (case aS => exact (YE (by repeat (first | (with_reducible first | exact HB.out | apply YA | apply YB | apply YC | refine below_set ?_ GE330.out) | exact HB.out))))
        (case aL => have := LMc10.out; omega)
        intro v341 w22 ho hb hg hat
        rw [← Ny340.out] at ho
        have n0_ := YK (blk_grown (g := gb330) (o := .cells #[.int .i64 a2_0, .int .i64 a2_1] 36 (0, 0)) (by (with_reducible repeat (first | refine YF ?_ _ | refine YG ?_ | refine YH ?_ _)); exact BK330.out) hg (Kd.R_away HO336.out (fun _ hk => hk.2)))
        have n1_ := YK (Kd.R_after (ok := (fun k_ => k_ ≠ gb330)) (by (with_reducible repeat (first | apply YR | apply YS | apply YT)); exact Kd.R_mono HO339.out (fun _ hk => by first | exact ⟨hk.2, hk.1⟩ | exact trivial | (simp [hk]; done) | simp_all)) hg hat)
        have n2_ := YK (hb)
        have n3_ := YK (ho)
        clear BK330; clear HO339; clear HB; clear HO336; have BK330 := n0_; have HO339 := n1_; have HB := n2_; have HO342 := n3_; clear n0_ n1_ n2_ n3_; clear ho hb hg hat
        refine hK.out _ _ ⟨(YI BK330.out 0).trans rfl, (YI BK330.out 1).trans rfl⟩ (fun hHeld => ?_)
        clear hK K
        refine norm_ (a' := ?_) ?_ ?_
        rotate_left
        · show Act.put _ (some 29) _ = _
          simp only [Act.put, YL, YM, YN, i64_w, i32_w]
          rfl
        refine pure_ (i := 6) (N := some 9) (v := ?_) (a' := ?_) #[true, true, true, true, true, true, true] rfl rfl (by kernel_rfl) (fun _ _ _ h => h) (Or.inl ⟨by rfl, ?_⟩) ?_ ?_
        rotate_left
        · intro w'
          go_simp; with_reducible rfl
        rotate_left
        · simp only [Act.put, YL, YM, YN, i64_w, i32_w]
          rfl
        refine done_ (by kernel_rfl) ?_
        go_upto_region 8 with (first | ((with_reducible refine gate_callee (f := 13) rfl ?_); refine goesL_ (some 34) rfl rfl Try.func13 (by kernel_rfl) rfl #[.int .i64 a0, .slice A1 l1.length c1, .int .i64 a3] rfl (by (try simp only [YO, List.map_cons, List.map_nil]); first | done | rfl | (simp only [YQ, YP]; rfl)) ?_; (with_reducible refine (graph_Steps.calls kj4 a0 _ _ l1 a3 t343 t344 _ ?side1 ?side2 A11.out).mono ?_); (case side1 => repeat (first | exact (Kd.C_below HR1.out HB.out) | (with_reducible refine Kd.C_alloc ?_ _) | (with_reducible refine Kd.C_drewN ?_ _) | (with_reducible refine Kd.C_drew ?_))); (case side2 => exact HC1.out); rintro e w24 ⟨v345, rfl, ho0, hb⟩; refine ⟨_, rfl, ?_⟩; have n0_ := YK (YU (by (with_reducible repeat (first | apply YR | apply YS | apply YT)); exact HO339.out) hb); have n1_ := YK (YU (by (with_reducible repeat (first | apply YR | apply YS | apply YT)); exact HO342.out) hb); have n2_ := YK (Kd.R_lower ho0 (YE (by repeat (first | (with_reducible first | exact HB.out | apply YA | apply YB | apply YC | refine below_set ?_ GE330.out) | exact HB.out)))); have n3_ := YK (YJ (g := gb330) (o := .cells #[.int .i64 a2_0, .int .i64 a2_1] 36 (0, 0)) (by (with_reducible repeat (first | refine YF ?_ _ | refine YG ?_ | refine YH ?_ _)); exact BK330.out) hb); have n4_ := YK (YD (by repeat (first | (with_reducible first | exact HB.out | apply YA | apply YB | apply YC | refine below_set ?_ GE330.out) | exact HB.out)) hb); clear HO339; clear HO342; clear BK330; clear HB; have HO339 := n0_; have HO342 := n1_; have HO346 := n2_; have BK330 := n3_; have HB := n4_; clear n0_ n1_ n2_ n3_ n4_; (try clear hb); (try clear hb2); (try clear hk); (try clear hi); (try clear ho0); obtain ⟨Ao25, co25, eo25⟩ := Kd.R_slice HO342.out; subst eo25) | ((with_reducible refine gate_callee (f := 13) rfl ?_); refine goesL_ (some 41) rfl rfl Try.func13 (by kernel_rfl) rfl #[.int .i64 a0, .slice Ao25 y340.length co25, .int .i64 a3] rfl (by (try simp only [YO, List.map_cons, List.map_nil]); first | done | rfl | (simp only [YQ, YP]; rfl)) ?_; (with_reducible refine (graph_Steps.calls kj4 a0 _ _ y340 a3 t347 t348 _ ?side1 ?side2 A12.out).mono ?_); (case side1 => repeat (first | exact (Kd.R_reads' HO342.out).2.2 | (with_reducible refine Kd.C_alloc ?_ _) | (with_reducible refine Kd.C_drewN ?_ _) | (with_reducible refine Kd.C_drew ?_))); (case side2 => exact (Kd.R_reads' HO342.out).2.1); rintro e w26 ⟨v349, rfl, ho0, hb⟩; refine ⟨_, rfl, ?_⟩; have n0_ := YK (YU (by (with_reducible repeat (first | apply YR | apply YS | apply YT)); exact HO339.out) hb); have n1_ := YK (YU (by (with_reducible repeat (first | apply YR | apply YS | apply YT)); exact HO342.out) hb); have n2_ := YK (Kd.R_elder' (by (with_reducible repeat (first | apply YR | apply YS | apply YT)); exact HO346.out) (Kd.R_base ho0) hb); have n3_ := YK (Kd.R_lower (Kd.R_new' ho0 (Kd.R_lt (by (with_reducible repeat (first | apply YR | apply YS | apply YT)); exact HO346.out))) (YE (by repeat (first | (with_reducible first | exact HB.out | apply YA | apply YB | apply YC | refine below_set ?_ GE330.out) | exact HB.out)))); have n4_ := YK (YJ (g := gb330) (o := .cells #[.int .i64 a2_0, .int .i64 a2_1] 36 (0, 0)) (by (with_reducible repeat (first | refine YF ?_ _ | refine YG ?_ | refine YH ?_ _)); exact BK330.out) hb); have n5_ := YK (YD (by repeat (first | (with_reducible first | exact HB.out | apply YA | apply YB | apply YC | refine below_set ?_ GE330.out) | exact HB.out)) hb); clear HO339; clear HO342; clear HO346; clear BK330; clear HB; have HO339 := n0_; have HO342 := n1_; have HO346 := n2_; have HO350 := n3_; have BK330 := n4_; have HB := n5_; clear n0_ n1_ n2_ n3_ n4_ n5_; (try clear hb); (try clear hb2); (try clear hk); (try clear hi); (try clear ho0)))
        (try simp only [Act.put, YL, YM, YN])
        go_cut [65] (fun v65 wc => ∃ (kq : Nat) (x65_13 : Bool), v65 = .bool x65_13 ∧ Aside0 (thalweglaw25_GraphMore.j1 kq a0 l1 t343 t347 x65_13 a2_0 a2_1 = some r) ∧ Aside0 (kq ≤ kj4) ∧ Aside0 (Kd.R (Kd.int .i64) 3 wc w.heap.size (fun k_ => some k_ ≠ (v349 : Value).ownBlock) v345 t343) ∧ Aside0 (Kd.R (Kd.int .i64) 3 wc w.heap.size (fun k_ => some k_ ≠ (v345 : Value).ownBlock) v349 t347) ∧ Aside0 (wc.heap[gb330]? = some (.cells #[.int .i64 a2_0, .int .i64 a2_1] 36 (0, 0))) ∧ Aside0 (Below w.heap.size w wc))
        case first =>
          have H := HC14.out
          clear HC14
          by_cases c27 : t348 = 0
          · rw [if_pos c27] at H
            have c27b0 : (t348 == 0) = true := beq_iff_eq.mpr c27
            have c27b1 : (t348 != 0) = false := bne_eq_false_iff_eq.mpr c27
            clear c27
            (first | rw [c27b0] | (simp only [i64_w, i32_w]; rw [c27b0]) | rw [c27b1] | skip)
            by_cases c28 : (t343.length : Int) = a0
            · rw [if_pos c28] at H
              have c28b0 : ((t343.length : Int) == a0) = true := beq_iff_eq.mpr c28
              have c28b1 : ((t343.length : Int) != a0) = false := bne_eq_false_iff_eq.mpr c28
              clear c28
              have H' := YK H
              clear H
              obtain ⟨Ao29, co29, eo29⟩ := Kd.R_slice HO346.out
              subst eo29
              obtain ⟨Ao30, co30, eo30⟩ := Kd.R_slice HO350.out
              subst eo30
              go_wp2
              go_meet
              case rel => exact ⟨_, (((t347.length : Int) != a0)), (by first | rfl | (simp; done) | (simp [*]; done)), H', ⟨by have := HJ4.out; first | omega | exact Nat.le_refl _⟩, ⟨by (with_reducible repeat (first | apply YR | apply YS | apply YT)); exact Kd.R_mono HO346.out (fun _ hk => by first | exact hk.2 | exact trivial | (simp [hk]; done) | simp_all)⟩, ⟨by (with_reducible repeat (first | apply YR | apply YS | apply YT)); exact Kd.R_mono HO350.out (fun _ hk => by first | exact hk.2 | exact trivial | (simp [hk]; done) | simp_all)⟩, ⟨by (with_reducible repeat (first | refine YF ?_ _ | refine YG ?_ | refine YH ?_ _)); exact BK330.out⟩, ⟨by repeat (first | (with_reducible first | exact HB.out | apply YA | apply YB | apply YC | refine below_set ?_ GE330.out) | exact HB.out)⟩⟩
            rw [if_neg c28] at H
            have c28b0 : ((t343.length : Int) == a0) = false := beq_eq_false_iff_ne.mpr c28
            have c28b1 : ((t343.length : Int) != a0) = true := bne_iff_ne.mpr c28
            have H' := YK H
            clear H
            obtain ⟨Ao31, co31, eo31⟩ := Kd.R_slice HO346.out
            subst eo31
            go_wp2
            go_meet
            case rel => exact ⟨_, (true), (by first | rfl | (simp; done) | (simp [*]; done)), H', ⟨by have := HJ4.out; first | omega | exact Nat.le_refl _⟩, ⟨by (with_reducible repeat (first | apply YR | apply YS | apply YT)); exact Kd.R_mono HO346.out (fun _ hk => by first | exact hk.2 | exact trivial | (simp [hk]; done) | simp_all)⟩, ⟨by (with_reducible repeat (first | apply YR | apply YS | apply YT)); exact Kd.R_mono HO350.out (fun _ hk => by first | exact hk.2 | exact trivial | (simp [hk]; done) | simp_all)⟩, ⟨by (with_reducible repeat (first | refine YF ?_ _ | refine YG ?_ | refine YH ?_ _)); exact BK330.out⟩, ⟨by repeat (first | (with_reducible first | exact HB.out | apply YA | apply YB | apply YC | refine below_set ?_ GE330.out) | exact HB.out)⟩⟩
          rw [if_neg c27] at H
          have c27b0 : (t348 == 0) = false := beq_eq_false_iff_ne.mpr c27
          have c27b1 : (t348 != 0) = true := bne_iff_ne.mpr c27
          (first | rw [c27b0] | (simp only [i64_w, i32_w]; rw [c27b0]) | rw [c27b1] | skip)
          have H' := YK H
          clear H
          go_wp2
          go_meet
          case rel => exact ⟨_, (true), (by first | rfl | (simp; done) | (simp [*]; done)), H', ⟨by have := HJ4.out; first | omega | exact Nat.le_refl _⟩, ⟨by (with_reducible repeat (first | apply YR | apply YS | apply YT)); exact Kd.R_mono HO346.out (fun _ hk => by first | exact hk.2 | exact trivial | (simp [hk]; done) | simp_all)⟩, ⟨by (with_reducible repeat (first | apply YR | apply YS | apply YT)); exact Kd.R_mono HO350.out (fun _ hk => by first | exact hk.2 | exact trivial | (simp [hk]; done) | simp_all)⟩, ⟨by (with_reducible repeat (first | refine YF ?_ _ | refine YG ?_ | refine YH ?_ _)); exact BK330.out⟩, ⟨by repeat (first | (with_reducible first | exact HB.out | apply YA | apply YB | apply YC | refine below_set ?_ GE330.out) | exact HB.out)⟩⟩
        case rest =>
          clear HC14
          try clear c1
          try clear c2
          try clear p2
          try clear c6
          try clear c7
          try clear c7b0
          try clear c8
          try clear c9
          try clear c10
          try clear c13
          try clear c13b0
          try clear c13b1
          try clear c27
          try clear c27b0
          try clear c27b1
          try clear c28
          try clear c28b0
          try clear c28b1
          try clear p2
          obtain ⟨kq, x65_13, rfl, HA, HJ13, HO_10, HO_12, BK330, HB⟩ := hcut
          cases kq with
          | zero => exact absurd HA.out (by simp [thalweglaw25_GraphMore.j1])
          | succ kj13 =>
            have H := HA.out
            clear HA
            simp only [thalweglaw25_GraphMore.j1] at H
            by_cases c32 : x65_13 = true
            · subst c32
              have H1 : (none) = some r := by rw [if_pos rfl] at H; exact H
              clear H
              have H := H1
              clear H1
              exact absurd H (by simp)
            replace c32 := Bool.eq_false_iff.mpr c32
            subst c32
            have H1 : (thalweglaw25_GraphMore.l0 kj13 a0 l1 t343 t347 false 0 a2_0 a2_1) = some r := by rw [if_neg (show ¬ (false = true) by decide)] at H; exact H
            clear H
            have H := H1
            clear H1
            have H' := YK H
            clear H
            go_wp2
            go_loopg [14, 15] kj13 (fun kq v14 v15 w' => ∃ (x14_3 : Bool) (x15_3 : Int), v14 = .bool x14_3 ∧ v15 = .int .i64 x15_3 ∧ Aside0 (thalweglaw25_GraphMore.l0 kq a0 l1 t343 t347 x14_3 x15_3 a2_0 a2_1 = some r) ∧ Aside0 (kq ≤ kj13) ∧ Aside0 (Kd.R (Kd.int .i64) 3 w' w.heap.size (fun k_ => some k_ ≠ (v349 : Value).ownBlock) v345 t343) ∧ Aside0 (Kd.R (Kd.int .i64) 3 w' w.heap.size (fun k_ => some k_ ≠ (v345 : Value).ownBlock) v349 t347) ∧ Aside0 (w'.heap[gb330]? = some (.cells #[.int .i64 a2_0, .int .i64 a2_1] 36 (0, 0))) ∧ Aside0 (Below w.heap.size w w'))
            case atStart => exact ⟨(false), (0), (by first | rfl | (simp; done) | (simp [*]; done)), (by first | rfl | (simp; done) | (simp [*]; done)), H', ⟨Nat.le_refl _⟩, ⟨by (with_reducible repeat (first | apply YR | apply YS | apply YT)); exact HO_10.out⟩, ⟨by (with_reducible repeat (first | apply YR | apply YS | apply YT)); exact HO_12.out⟩, ⟨by (with_reducible repeat (first | refine YF ?_ _ | refine YG ?_ | refine YH ?_ _)); exact BK330.out⟩, ⟨by repeat (first | (with_reducible first | exact HB.out | apply YA | apply YB | apply YC | refine below_set ?_ GE330.out) | exact HB.out)⟩⟩
            case round =>
              clear H'
              try clear c1
              try clear c2
              try clear p2
              try clear c3
              try clear c6
              try clear c7
              try clear c7b0
              try clear c8
              try clear c9
              try clear c10
              try clear c13
              try clear c13b0
              try clear c13b1
              try clear c27
              try clear c27b0
              try clear c27b1
              try clear c28
              try clear c28b0
              try clear c28b1
              try clear c32
              try clear p2
              obtain ⟨x14_3, x15_3, rfl, rfl, HA, HK3, HO_10, HO_12, BK330, HB⟩ := hrel
              cases gk with
              | zero => exact absurd HA.out (by simp [thalweglaw25_GraphMore.l0])
              | succ k3 =>
                have H := HA.out
                clear HA
                simp only [thalweglaw25_GraphMore.l0] at H
                by_cases c33 : x15_3 < (l1.length : Int)
                · rw [if_pos c33] at H
                  have c33b0 : decide (x15_3 < (l1.length : Int)) = true := decide_eq_true c33
                  clear c33
                  by_cases c34 : x14_3 = true
                  · subst c34
                    have H1 : (thalweglaw25_GraphMore.l0 k3 a0 l1 t343 t347 true (wrap64 (x15_3 + 1)) a2_0 a2_1) = some r := by rw [if_pos rfl] at H; exact H
                    clear H
                    have H := H1
                    clear H1
                    have H' := YK H
                    clear H
                    try go_wp2
                    have n0_ := YK (YT HO_10.out)
                    have n1_ := YK (YT HO_12.out)
                    have n2_ := YK (YG BK330.out)
                    have n3_ := YK (YC HB.out)
                    clear HO_10; clear HO_12; clear BK330; clear HB; have HO_10 := n0_; have HO_12 := n1_; have BK330 := n2_; have HB := n3_; clear n0_ n1_ n2_ n3_
                    refine start_ (n := 22) (S := fun w' => True) (ds := []) #[false, false, false, false, false, false, false, false, false, false, false, false, false, false, false, false, false, false, false, false, false, false] (by kernel_rfl) rfl rfl trivial (fun hHeld => ?_); refine with_tabW thalweglaw25_GraphMore.tab14 thalweglaw25_GraphMore.bits14 (fun HT_ HW_ => ?_)
                    generalize wr.drew = w35 at HO_10 HO_12 BK330 HB hHeld ⊢
                    refine pure_ (i := 0) (N := some 72) (v := ?_) (a' := ?_) #[true, false, false, false, false, false, false, false, false, false, false, false, false, false, false, false, false, false, false, false, false, false] rfl rfl (any_of HT_.out (by kernel_rfl)) (fun _ _ _ h => h) (Or.inl ⟨by rfl, ?_⟩) ?_ ?_
                    rotate_left
                    · intro w'
                      go_simp; with_reducible rfl
                    rotate_left
                    · simp only [Act.put, YL, YM, YN, i64_w, i32_w]
                      rfl
                    refine pure_ (i := 1) (N := some 73) (v := ?_) (a' := ?_) #[true, true, false, false, false, false, false, false, false, false, false, false, false, false, false, false, false, false, false, false, false, false] rfl rfl (any_of HT_.out (by kernel_rfl)) (fun _ _ _ h => h) (Or.inl ⟨by rfl, ?_⟩) ?_ ?_
                    rotate_left
                    · intro w'
                      go_simp; with_reducible rfl
                    rotate_left
                    · simp only [Act.put, YL, YM, YN, i64_w, i32_w]
                      rfl
                    refine pure_ (i := 2) (N := some 74) (v := undef) (a' := ?_) #[true, true, true, false, false, false, false, false, false, false, false, false, false, false, false, false, false, false, false, false, false, false] rfl rfl (any_of HT_.out (by kernel_rfl)) (fun _ _ _ h => h) (Or.inr ⟨by rfl, rfl⟩) ?_ ?_
                    rotate_left
                    · simp only [Act.put, YL, YM, YN, i64_w, i32_w]
                      rfl
                    refine pure_ (i := 3) (N := some 75) (v := undef) (a' := ?_) #[true, true, true, true, false, false, false, false, false, false, false, false, false, false, false, false, false, false, false, false, false, false] rfl rfl (any_of HT_.out (by kernel_rfl)) (fun _ _ _ h => h) (Or.inr ⟨by rfl, rfl⟩) ?_ ?_
                    rotate_left
                    · simp only [Act.put, YL, YM, YN, i64_w, i32_w]
                      rfl
                    refine pure_ (i := 4) (N := some 76) (v := undef) (a' := ?_) #[true, true, true, true, true, false, false, false, false, false, false, false, false, false, false, false, false, false, false, false, false, false] rfl rfl (any_of HT_.out (by kernel_rfl)) (fun _ _ _ h => h) (Or.inr ⟨by rfl, rfl⟩) ?_ ?_
                    rotate_left
                    · simp only [Act.put, YL, YM, YN, i64_w, i32_w]
                      rfl
                    refine pure_ (i := 5) (N := some 77) (v := undef) (a' := ?_) #[true, true, true, true, true, true, false, false, false, false, false, false, false, false, false, false, false, false, false, false, false, false] rfl rfl (any_of HT_.out (by kernel_rfl)) (fun _ _ _ h => h) (Or.inr ⟨by rfl, rfl⟩) ?_ ?_
                    rotate_left
                    · simp only [Act.put, YL, YM, YN, i64_w, i32_w]
                      rfl
                    refine pure_ (i := 6) (N := some 78) (v := undef) (a' := ?_) #[true, true, true, true, true, true, true, false, false, false, false, false, false, false, false, false, false, false, false, false, false, false] rfl rfl (any_of HT_.out (by kernel_rfl)) (fun _ _ _ h => h) (Or.inr ⟨by rfl, rfl⟩) ?_ ?_
                    rotate_left
                    · simp only [Act.put, YL, YM, YN, i64_w, i32_w]
                      rfl
                    refine pure_ (i := 7) (N := some 79) (v := undef) (a' := ?_) #[true, true, true, true, true, true, true, true, false, false, false, false, false, false, false, false, false, false, false, false, false, false] rfl rfl (any_of HT_.out (by kernel_rfl)) (fun _ _ _ h => h) (Or.inr ⟨by rfl, rfl⟩) ?_ ?_
                    rotate_left
                    · simp only [Act.put, YL, YM, YN, i64_w, i32_w]
                      rfl
                    refine pure_ (i := 8) (N := some 80) (v := ?_) (a' := ?_) #[true, true, true, true, true, true, true, true, true, false, false, false, false, false, false, false, false, false, false, false, false, false] rfl rfl (any_of HT_.out (by kernel_rfl)) (fun _ _ _ h => h) (Or.inl ⟨by rfl, ?_⟩) ?_ ?_
                    rotate_left
                    · intro w'
                      go_simp; with_reducible rfl
                    rotate_left
                    · simp only [Act.put, YL, YM, YN, i64_w, i32_w]
                      rfl
                    refine pure_ (i := 9) (N := some 81) (v := ?_) (a' := ?_) #[true, true, true, true, true, true, true, true, true, true, false, false, false, false, false, false, false, false, false, false, false, false] rfl rfl (any_of HT_.out (by kernel_rfl)) (fun _ _ _ h => h) (Or.inl ⟨by rfl, ?_⟩) ?_ ?_
                    rotate_left
                    · intro w'
                      go_simp; with_reducible rfl
                    rotate_left
                    · simp only [Act.put, YL, YM, YN, i64_w, i32_w]
                      rfl
                    refine pure_ (i := 10) (N := some 82) (v := undef) (a' := ?_) #[true, true, true, true, true, true, true, true, true, true, true, false, false, false, false, false, false, false, false, false, false, false] rfl rfl (any_of HT_.out (by kernel_rfl)) (fun _ _ _ h => h) (Or.inr ⟨by rfl, rfl⟩) ?_ ?_
                    rotate_left
                    · simp only [Act.put, YL, YM, YN, i64_w, i32_w]
                      rfl
                    refine pure_ (i := 11) (N := some 83) (v := undef) (a' := ?_) #[true, true, true, true, true, true, true, true, true, true, true, true, false, false, false, false, false, false, false, false, false, false] rfl rfl (any_of HT_.out (by kernel_rfl)) (fun _ _ _ h => h) (Or.inr ⟨by rfl, rfl⟩) ?_ ?_
                    rotate_left
                    · simp only [Act.put, YL, YM, YN, i64_w, i32_w]
                      rfl
                    refine pure_ (i := 12) (N := some 84) (v := undef) (a' := ?_) #[true, true, true, true, true, true, true, true, true, true, true, true, true, false, false, false, false, false, false, false, false, false] rfl rfl (any_of HT_.out (by kernel_rfl)) (fun _ _ _ h => h) (Or.inr ⟨by rfl, rfl⟩) ?_ ?_
                    rotate_left
                    · simp only [Act.put, YL, YM, YN, i64_w, i32_w]
                      rfl
                    refine pure_ (i := 13) (N := some 85) (v := undef) (a' := ?_) #[true, true, true, true, true, true, true, true, true, true, true, true, true, true, false, false, false, false, false, false, false, false] rfl rfl (any_of HT_.out (by kernel_rfl)) (fun _ _ _ h => h) (Or.inr ⟨by rfl, rfl⟩) ?_ ?_
                    rotate_left
                    · simp only [Act.put, YL, YM, YN, i64_w, i32_w]
                      rfl
                    refine pure_ (i := 14) (N := some 86) (v := undef) (a' := ?_) #[true, true, true, true, true, true, true, true, true, true, true, true, true, true, true, false, false, false, false, false, false, false] rfl rfl (any_of HT_.out (by kernel_rfl)) (fun _ _ _ h => h) (Or.inr ⟨by rfl, rfl⟩) ?_ ?_
                    rotate_left
                    · simp only [Act.put, YL, YM, YN, i64_w, i32_w]
                      rfl
                    refine pure_ (i := 15) (N := some 87) (v := undef) (a' := ?_) #[true, true, true, true, true, true, true, true, true, true, true, true, true, true, true, true, false, false, false, false, false, false] rfl rfl (any_of HT_.out (by kernel_rfl)) (fun _ _ _ h => h) (Or.inr ⟨by rfl, rfl⟩) ?_ ?_
                    rotate_left
                    · simp only [Act.put, YL, YM, YN, i64_w, i32_w]
                      rfl
                    refine pure_ (i := 16) (N := some 88) (v := undef) (a' := ?_) #[true, true, true, true, true, true, true, true, true, true, true, true, true, true, true, true, true, false, false, false, false, false] rfl rfl (any_of HT_.out (by kernel_rfl)) (fun _ _ _ h => h) (Or.inr ⟨by rfl, rfl⟩) ?_ ?_
                    rotate_left
                    · simp only [Act.put, YL, YM, YN, i64_w, i32_w]
                      rfl
                    refine pure_ (i := 17) (N := some 89) (v := undef) (a' := ?_) #[true, true, true, true, true, true, true, true, true, true, true, true, true, true, true, true, true, true, false, false, false, false] rfl rfl (any_of HT_.out (by kernel_rfl)) (fun _ _ _ h => h) (Or.inr ⟨by rfl, rfl⟩) ?_ ?_
                    rotate_left
                    · simp only [Act.put, YL, YM, YN, i64_w, i32_w]
                      rfl
                    refine pure_ (i := 18) (N := some 90) (v := undef) (a' := ?_) #[true, true, true, true, true, true, true, true, true, true, true, true, true, true, true, true, true, true, true, false, false, false] rfl rfl (any_of HT_.out (by kernel_rfl)) (fun _ _ _ h => h) (Or.inr ⟨by rfl, rfl⟩) ?_ ?_
                    rotate_left
                    · simp only [Act.put, YL, YM, YN, i64_w, i32_w]
                      rfl
                    refine pure_ (i := 19) (N := some 91) (v := undef) (a' := ?_) #[true, true, true, true, true, true, true, true, true, true, true, true, true, true, true, true, true, true, true, true, false, false] rfl rfl (any_of HT_.out (by kernel_rfl)) (fun _ _ _ h => h) (Or.inr ⟨by rfl, rfl⟩) ?_ ?_
                    rotate_left
                    · simp only [Act.put, YL, YM, YN, i64_w, i32_w]
                      rfl
                    refine pure_ (i := 20) (N := some 92) (v := ?_) (a' := ?_) #[true, true, true, true, true, true, true, true, true, true, true, true, true, true, true, true, true, true, true, true, true, false] rfl rfl (any_of HT_.out (by kernel_rfl)) (fun _ _ _ h => h) (Or.inl ⟨by rfl, ?_⟩) ?_ ?_
                    rotate_left
                    · intro w'
                      go_simp; with_reducible rfl
                    rotate_left
                    · simp only [Act.put, YL, YM, YN, i64_w, i32_w]
                      rfl
                    refine pure_ (i := 21) (N := some 14) (v := ?_) (a' := ?_) #[true, true, true, true, true, true, true, true, true, true, true, true, true, true, true, true, true, true, true, true, true, true] rfl rfl (any_of HT_.out (by kernel_rfl)) (fun _ _ _ h => h) (Or.inl ⟨by rfl, ?_⟩) ?_ ?_
                    rotate_left
                    · intro w'
                      go_simp; with_reducible rfl
                    rotate_left
                    · simp only [Act.put, YL, YM, YN, i64_w, i32_w]
                      rfl
                    refine done_ (done_of HT_.out (by kernel_rfl)) ?_
                    try go_wp2
                    go_roundg k3
                    case measure => have := HJ4.out; have := HJ13.out; have := HK3.out; omega
                    case rel => exact ⟨(true), (wrap64 (x15_3 + 1)), (by first | rfl | (simp; done) | (simp [*]; done)), (by first | rfl | (simp; done) | (simp [*]; done)), H', ⟨by have := HJ4.out; have := HJ13.out; have := HK3.out; omega⟩, ⟨by (with_reducible repeat (first | apply YR | apply YS | apply YT)); exact HO_10.out⟩, ⟨by (with_reducible repeat (first | apply YR | apply YS | apply YT)); exact HO_12.out⟩, ⟨by (with_reducible repeat (first | refine YF ?_ _ | refine YG ?_ | refine YH ?_ _)); exact BK330.out⟩, ⟨by repeat (first | (with_reducible first | exact HB.out | apply YA | apply YB | apply YC | refine below_set ?_ GE330.out) | exact HB.out)⟩⟩
                  replace c34 := Bool.eq_false_iff.mpr c34
                  subst c34
                  have H1 : (if 0 ≤ x15_3 then (if (((rd_T36 l1 x15_3).f0) == a2_0 && (((rd_T36 l1 x15_3).f1) == a2_1)) = true then (thalweglaw25_GraphMore.l0 k3 a0 l1 t343 t347 true (wrap64 (x15_3 + 1)) a2_0 a2_1) else (thalweglaw25_GraphMore.l0 k3 a0 l1 t343 t347 (((rd_T36 l1 x15_3).f0) == a2_1 && (((rd_T36 l1 x15_3).f1) == a2_0)) (wrap64 (x15_3 + 1)) a2_0 a2_1)) else (none)) = some r := by rw [if_neg (show ¬ (false = true) by decide)] at H; exact H
                  clear H
                  have H := H1
                  clear H1
                  by_cases c36 : 0 ≤ x15_3
                  rotate_left
                  · rw [if_neg c36] at H
                    exact absurd H (by simp)
                  rw [if_pos c36] at H; have c36b0 : decide (0 ≤ x15_3) = true := decide_eq_true c36; clear c36
                  by_cases c37 : (((rd_T36 l1 x15_3).f0) == a2_0 && (((rd_T36 l1 x15_3).f1) == a2_1)) = true
                  · rw [if_pos c37] at H
                    have c37b0 : (((rd_T36 l1 x15_3).f0) == a2_0 && (((rd_T36 l1 x15_3).f1) == a2_1)) = true := c37
                    (try (have c37b1 : decide (((rd_T36 l1 x15_3).f0) = a2_0 && (((rd_T36 l1 x15_3).f1) == a2_1)) = true := by simpa using c37))
                    (try (have c37b2 : (((rd_T36 l1 x15_3).f0) == a2_0 && (((rd_T36 l1 x15_3).f1) == a2_1)) = true := by simpa using c37))
                    clear c37
                    have H' := YK H
                    clear H
                    try go_wp2
                    have n0_ := YK (YT HO_10.out)
                    have n1_ := YK (YT HO_12.out)
                    have n2_ := YK (YG BK330.out)
                    have n3_ := YK (YC HB.out)
                    clear HO_10; clear HO_12; clear BK330; clear HB; have HO_10 := n0_; have HO_12 := n1_; have BK330 := n2_; have HB := n3_; clear n0_ n1_ n2_ n3_
                    have p352 : 0 ≤ (x15_3 : Int) := of_decide_eq_true (by first | (with_reducible assumption) | assumption)
                    have q352 : x15_3 < (l1.length : Int) := of_decide_eq_true (by first | (with_reducible assumption) | assumption)
                    obtain ⟨ad352, e352, hx352_0, hx352_1⟩ := at_T36 HR1.out x15_3 p352 q352
                    have hw352_1 := hx352_1
                    have hw352_0 := hx352_0
                    cases e352
                    replace hx352_0 := (HB.out.cell (World.block_lt_of_cell? w _ hx352_0)).trans hx352_0
                    replace hx352_1 := (HB.out.cell (World.block_lt_of_cell? w _ hx352_1)).trans hx352_1
                    replace p352 := eq_true p352
                    replace q352 := eq_true q352
                    refine start_ (n := 22) (S := fun w' => w'.cell? ⟨gb330, 0, none⟩ = some (.int .i64 a2_0) ∧ w'.cell? ⟨gb330, 1, none⟩ = some (.int .i64 a2_1) ∧ w'.cell? (ad352.add ((x15_3).toNat * 2)) = some (.int .i64 ((rd_T36 l1 x15_3).f0)) ∧ w'.cell? ⟨(ad352.add ((x15_3).toNat * 2)).block, (ad352.add ((x15_3).toNat * 2)).off + 1, none⟩ = some (.int .i64 ((rd_T36 l1 x15_3).f1))) (ds := []) #[false, false, false, false, false, false, false, false, false, false, false, false, false, false, false, false, false, false, false, false, false, false] (by kernel_rfl) rfl rfl ⟨(YI BK330.out 0).trans rfl, (YI BK330.out 1).trans rfl, ((HB.out.cell (World.block_lt_of_cell? w _ hw352_0)).trans hw352_0), ((HB.out.cell (World.block_lt_of_cell? w _ hw352_1)).trans hw352_1)⟩ (fun hHeld => ?_); refine with_tabW thalweglaw25_GraphMore.tab14 thalweglaw25_GraphMore.bits14 (fun HT_ HW_ => ?_)
                    generalize wr.drew = w38 at HO_10 HO_12 BK330 HB hx352_0 hx352_1 hHeld ⊢
                    refine pure_ (i := 0) (N := some 72) (v := ?_) (a' := ?_) #[true, false, false, false, false, false, false, false, false, false, false, false, false, false, false, false, false, false, false, false, false, false] rfl rfl (any_of HT_.out (by kernel_rfl)) (fun _ _ _ h => h) (Or.inl ⟨by rfl, ?_⟩) ?_ ?_
                    rotate_left
                    · intro w'
                      go_simp; with_reducible rfl
                    rotate_left
                    · simp only [Act.put, YL, YM, YN, i64_w, i32_w]
                      rfl
                    refine pure_ (i := 1) (N := some 73) (v := ?_) (a' := ?_) #[true, true, false, false, false, false, false, false, false, false, false, false, false, false, false, false, false, false, false, false, false, false] rfl rfl (any_of HT_.out (by kernel_rfl)) (fun _ _ _ h => h) (Or.inl ⟨by rfl, ?_⟩) ?_ ?_
                    rotate_left
                    · intro w'
                      go_simp; with_reducible rfl
                    rotate_left
                    · simp only [Act.put, YL, YM, YN, i64_w, i32_w]
                      rfl
                    refine pure_ (i := 2) (N := some 74) (v := ?_) (a' := ?_) #[true, true, true, false, false, false, false, false, false, false, false, false, false, false, false, false, false, false, false, false, false, false] rfl rfl (any_of HT_.out (by kernel_rfl)) (fun _ _ _ h => h) (Or.inl ⟨by rfl, ?_⟩) ?_ ?_
                    rotate_left
                    · intro w'
                      go_simp; with_reducible rfl
                    rotate_left
                    · simp only [Act.put, YL, YM, YN, i64_w, i32_w]
                      rfl
                    refine pure_ (i := 3) (N := some 75) (v := ?_) (a' := ?_) #[true, true, true, true, false, false, false, false, false, false, false, false, false, false, false, false, false, false, false, false, false, false] rfl rfl (any_of HT_.out (by kernel_rfl)) (fun _ _ _ h => h) (Or.inl ⟨by rfl, ?_⟩) ?_ ?_
                    rotate_left
                    · intro w'
                      go_simp; with_reducible rfl
                    rotate_left
                    · simp only [Act.put, YL, YM, YN, i64_w, i32_w]
                      rfl
                    refine pure_ (i := 4) (N := some 76) (v := ?_) (a' := ?_) #[true, true, true, true, true, false, false, false, false, false, false, false, false, false, false, false, false, false, false, false, false, false] rfl rfl (any_of HT_.out (by kernel_rfl)) (fun _ _ _ h => h) (Or.inl ⟨by rfl, ?_⟩) ?_ ?_
                    rotate_left
                    · intro w'
                      go_simp; with_reducible rfl
                    rotate_left
                    · simp only [Act.put, YL, YM, YN, i64_w, i32_w]
                      rfl
                    refine take_ (i := 5) (N := some 77) (v := ?_) (a' := ?_) #[true, true, true, true, true, true, false, false, false, false, false, false, false, false, false, false, false, false, false, false, false, false] rfl rfl (take_ofW HT_.out HW_.out (by kernel_rfl)) (fun _ _ _ h => h) (Or.inl ⟨by rfl, ?_⟩) hHeld ?_ ?_
                    rotate_left
                    · rintro w' ⟨s0, s1, s2, s3⟩
                      go_simp; with_reducible rfl
                    rotate_left
                    · simp only [Act.put, YL, YM, YN, i64_w, i32_w]
                      rfl
                    refine take_ (i := 6) (N := some 78) (v := ?_) (a' := ?_) #[true, true, true, true, true, true, true, false, false, false, false, false, false, false, false, false, false, false, false, false, false, false] rfl rfl (take_ofW HT_.out HW_.out (by kernel_rfl)) (fun _ _ _ h => h) (Or.inl ⟨by rfl, ?_⟩) hHeld ?_ ?_
                    rotate_left
                    · rintro w' ⟨s0, s1, s2, s3⟩
                      go_simp; with_reducible rfl
                    rotate_left
                    · simp only [Act.put, YL, YM, YN, i64_w, i32_w]
                      rfl
                    refine pure_ (i := 7) (N := some 79) (v := ?_) (a' := ?_) #[true, true, true, true, true, true, true, true, false, false, false, false, false, false, false, false, false, false, false, false, false, false] rfl rfl (any_of HT_.out (by kernel_rfl)) (fun _ _ _ h => h) (Or.inl ⟨by rfl, ?_⟩) ?_ ?_
                    rotate_left
                    · intro w'
                      go_simp; with_reducible rfl
                    rotate_left
                    · simp only [Act.put, YL, YM, YN, i64_w, i32_w]
                      rfl
                    refine pure_ (i := 8) (N := some 80) (v := ?_) (a' := ?_) #[true, true, true, true, true, true, true, true, true, false, false, false, false, false, false, false, false, false, false, false, false, false] rfl rfl (any_of HT_.out (by kernel_rfl)) (fun _ _ _ h => h) (Or.inl ⟨by rfl, ?_⟩) ?_ ?_
                    rotate_left
                    · intro w'
                      go_simp; with_reducible rfl
                    rotate_left
                    · simp only [Act.put, YL, YM, YN, i64_w, i32_w]
                      rfl
                    refine pure_ (i := 9) (N := some 81) (v := ?_) (a' := ?_) #[true, true, true, true, true, true, true, true, true, true, false, false, false, false, false, false, false, false, false, false, false, false] rfl rfl (any_of HT_.out (by kernel_rfl)) (fun _ _ _ h => h) (Or.inl ⟨by rfl, ?_⟩) ?_ ?_
                    rotate_left
                    · intro w'
                      go_simp; with_reducible rfl
                    rotate_left
                    · simp only [Act.put, YL, YM, YN, i64_w, i32_w]
                      rfl
                    refine pure_ (i := 10) (N := some 82) (v := undef) (a' := ?_) #[true, true, true, true, true, true, true, true, true, true, true, false, false, false, false, false, false, false, false, false, false, false] rfl rfl (any_of HT_.out (by kernel_rfl)) (fun _ _ _ h => h) (Or.inr ⟨by rfl, rfl⟩) ?_ ?_
                    rotate_left
                    · simp only [Act.put, YL, YM, YN, i64_w, i32_w]
                      rfl
                    refine pure_ (i := 11) (N := some 83) (v := undef) (a' := ?_) #[true, true, true, true, true, true, true, true, true, true, true, true, false, false, false, false, false, false, false, false, false, false] rfl rfl (any_of HT_.out (by kernel_rfl)) (fun _ _ _ h => h) (Or.inr ⟨by rfl, rfl⟩) ?_ ?_
                    rotate_left
                    · simp only [Act.put, YL, YM, YN, i64_w, i32_w]
                      rfl
                    refine pure_ (i := 12) (N := some 84) (v := undef) (a' := ?_) #[true, true, true, true, true, true, true, true, true, true, true, true, true, false, false, false, false, false, false, false, false, false] rfl rfl (any_of HT_.out (by kernel_rfl)) (fun _ _ _ h => h) (Or.inr ⟨by rfl, rfl⟩) ?_ ?_
                    rotate_left
                    · simp only [Act.put, YL, YM, YN, i64_w, i32_w]
                      rfl
                    refine pure_ (i := 13) (N := some 85) (v := undef) (a' := ?_) #[true, true, true, true, true, true, true, true, true, true, true, true, true, true, false, false, false, false, false, false, false, false] rfl rfl (any_of HT_.out (by kernel_rfl)) (fun _ _ _ h => h) (Or.inr ⟨by rfl, rfl⟩) ?_ ?_
                    rotate_left
                    · simp only [Act.put, YL, YM, YN, i64_w, i32_w]
                      rfl
                    refine pure_ (i := 14) (N := some 86) (v := undef) (a' := ?_) #[true, true, true, true, true, true, true, true, true, true, true, true, true, true, true, false, false, false, false, false, false, false] rfl rfl (any_of HT_.out (by kernel_rfl)) (fun _ _ _ h => h) (Or.inr ⟨by rfl, rfl⟩) ?_ ?_
                    rotate_left
                    · simp only [Act.put, YL, YM, YN, i64_w, i32_w]
                      rfl
                    refine pure_ (i := 15) (N := some 87) (v := undef) (a' := ?_) #[true, true, true, true, true, true, true, true, true, true, true, true, true, true, true, true, false, false, false, false, false, false] rfl rfl (any_of HT_.out (by kernel_rfl)) (fun _ _ _ h => h) (Or.inr ⟨by rfl, rfl⟩) ?_ ?_
                    rotate_left
                    · simp only [Act.put, YL, YM, YN, i64_w, i32_w]
                      rfl
                    refine pure_ (i := 16) (N := some 88) (v := undef) (a' := ?_) #[true, true, true, true, true, true, true, true, true, true, true, true, true, true, true, true, true, false, false, false, false, false] rfl rfl (any_of HT_.out (by kernel_rfl)) (fun _ _ _ h => h) (Or.inr ⟨by rfl, rfl⟩) ?_ ?_
                    rotate_left
                    · simp only [Act.put, YL, YM, YN, i64_w, i32_w]
                      rfl
                    refine pure_ (i := 17) (N := some 89) (v := undef) (a' := ?_) #[true, true, true, true, true, true, true, true, true, true, true, true, true, true, true, true, true, true, false, false, false, false] rfl rfl (any_of HT_.out (by kernel_rfl)) (fun _ _ _ h => h) (Or.inr ⟨by rfl, rfl⟩) ?_ ?_
                    rotate_left
                    · simp only [Act.put, YL, YM, YN, i64_w, i32_w]
                      rfl
                    refine pure_ (i := 18) (N := some 90) (v := undef) (a' := ?_) #[true, true, true, true, true, true, true, true, true, true, true, true, true, true, true, true, true, true, true, false, false, false] rfl rfl (any_of HT_.out (by kernel_rfl)) (fun _ _ _ h => h) (Or.inr ⟨by rfl, rfl⟩) ?_ ?_
                    rotate_left
                    · simp only [Act.put, YL, YM, YN, i64_w, i32_w]
                      rfl
                    refine pure_ (i := 19) (N := some 91) (v := undef) (a' := ?_) #[true, true, true, true, true, true, true, true, true, true, true, true, true, true, true, true, true, true, true, true, false, false] rfl rfl (any_of HT_.out (by kernel_rfl)) (fun _ _ _ h => h) (Or.inr ⟨by rfl, rfl⟩) ?_ ?_
                    rotate_left
                    · simp only [Act.put, YL, YM, YN, i64_w, i32_w]
                      rfl
                    refine pure_ (i := 20) (N := some 92) (v := ?_) (a' := ?_) #[true, true, true, true, true, true, true, true, true, true, true, true, true, true, true, true, true, true, true, true, true, false] rfl rfl (any_of HT_.out (by kernel_rfl)) (fun _ _ _ h => h) (Or.inl ⟨by rfl, ?_⟩) ?_ ?_
                    rotate_left
                    · intro w'
                      go_simp; with_reducible rfl
                    rotate_left
                    · simp only [Act.put, YL, YM, YN, i64_w, i32_w]
                      rfl
                    refine pure_ (i := 21) (N := some 14) (v := ?_) (a' := ?_) #[true, true, true, true, true, true, true, true, true, true, true, true, true, true, true, true, true, true, true, true, true, true] rfl rfl (any_of HT_.out (by kernel_rfl)) (fun _ _ _ h => h) (Or.inl ⟨by rfl, ?_⟩) ?_ ?_
                    rotate_left
                    · intro w'
                      go_simp; with_reducible rfl
                    rotate_left
                    · simp only [Act.put, YL, YM, YN, i64_w, i32_w]
                      rfl
                    refine done_ (done_of HT_.out (by kernel_rfl)) ?_
                    try go_wp2
                    go_roundg k3
                    case measure => have := HJ4.out; have := HJ13.out; have := HK3.out; omega
                    case rel => exact ⟨(true), (wrap64 (x15_3 + 1)), (by first | rfl | (simp; done) | (simp [*]; done)), (by first | rfl | (simp; done) | (simp [*]; done)), H', ⟨by have := HJ4.out; have := HJ13.out; have := HK3.out; omega⟩, ⟨by (with_reducible repeat (first | apply YR | apply YS | apply YT)); exact HO_10.out⟩, ⟨by (with_reducible repeat (first | apply YR | apply YS | apply YT)); exact HO_12.out⟩, ⟨by (with_reducible repeat (first | refine YF ?_ _ | refine YG ?_ | refine YH ?_ _)); exact BK330.out⟩, ⟨by repeat (first | (with_reducible first | exact HB.out | apply YA | apply YB | apply YC | refine below_set ?_ GE330.out) | exact HB.out)⟩⟩
                  rw [if_neg c37] at H
                  have c37b0 : (((rd_T36 l1 x15_3).f0) == a2_0 && (((rd_T36 l1 x15_3).f1) == a2_1)) = false := by simpa using c37
                  (try (have c37b1 : decide (((rd_T36 l1 x15_3).f0) = a2_0 && (((rd_T36 l1 x15_3).f1) == a2_1)) = false := by simpa using c37))
                  (try (have c37b2 : (((rd_T36 l1 x15_3).f0) == a2_0 && (((rd_T36 l1 x15_3).f1) == a2_1)) = false := by simpa using c37))
                  (try (have c37b3 : ¬ (((rd_T36 l1 x15_3).f0) = a2_0 && (((rd_T36 l1 x15_3).f1) == a2_1)) := by simpa using c37))
                  clear c37
                  have H' := YK H
                  clear H
                  try go_wp2
                  have n0_ := YK (YT HO_10.out)
                  have n1_ := YK (YT HO_12.out)
                  have n2_ := YK (YG BK330.out)
                  have n3_ := YK (YC HB.out)
                  clear HO_10; clear HO_12; clear BK330; clear HB; have HO_10 := n0_; have HO_12 := n1_; have BK330 := n2_; have HB := n3_; clear n0_ n1_ n2_ n3_
                  have p352 : 0 ≤ (x15_3 : Int) := of_decide_eq_true (by first | (with_reducible assumption) | assumption)
                  have q352 : x15_3 < (l1.length : Int) := of_decide_eq_true (by first | (with_reducible assumption) | assumption)
                  obtain ⟨ad352, e352, hx352_0, hx352_1⟩ := at_T36 HR1.out x15_3 p352 q352
                  have hw352_1 := hx352_1
                  have hw352_0 := hx352_0
                  cases e352
                  replace hx352_0 := (HB.out.cell (World.block_lt_of_cell? w _ hx352_0)).trans hx352_0
                  replace hx352_1 := (HB.out.cell (World.block_lt_of_cell? w _ hx352_1)).trans hx352_1
                  replace p352 := eq_true p352
                  replace q352 := eq_true q352
                  have p353 : 0 ≤ (x15_3 : Int) := of_decide_eq_true (by first | (with_reducible assumption) | assumption)
                  have q353 : x15_3 < (l1.length : Int) := of_decide_eq_true (by first | (with_reducible assumption) | assumption)
                  obtain ⟨ad353, e353, hx353_0, hx353_1⟩ := at_T36 HR1.out x15_3 p353 q353
                  have hw353_1 := hx353_1
                  have hw353_0 := hx353_0
                  obtain rfl : ad352 = ad353 := (by injection e353)
                  replace hx353_0 := (HB.out.cell (World.block_lt_of_cell? w _ hx353_0)).trans hx353_0
                  replace hx353_1 := (HB.out.cell (World.block_lt_of_cell? w _ hx353_1)).trans hx353_1
                  replace p353 := eq_true p353
                  replace q353 := eq_true q353
                  refine start_ (n := 22) (S := fun w' => w'.cell? ⟨gb330, 0, none⟩ = some (.int .i64 a2_0) ∧ w'.cell? ⟨gb330, 1, none⟩ = some (.int .i64 a2_1) ∧ w'.cell? (ad352.add ((x15_3).toNat * 2)) = some (.int .i64 ((rd_T36 l1 x15_3).f0)) ∧ w'.cell? ⟨(ad352.add ((x15_3).toNat * 2)).block, (ad352.add ((x15_3).toNat * 2)).off + 1, none⟩ = some (.int .i64 ((rd_T36 l1 x15_3).f1)) ∧ w'.cell? (ad352.add ((x15_3).toNat * 2)) = some (.int .i64 ((rd_T36 l1 x15_3).f0)) ∧ w'.cell? ⟨(ad352.add ((x15_3).toNat * 2)).block, (ad352.add ((x15_3).toNat * 2)).off + 1, none⟩ = some (.int .i64 ((rd_T36 l1 x15_3).f1))) (ds := []) #[false, false, false, false, false, false, false, false, false, false, false, false, false, false, false, false, false, false, false, false, false, false] (by kernel_rfl) rfl rfl ⟨(YI BK330.out 0).trans rfl, (YI BK330.out 1).trans rfl, ((HB.out.cell (World.block_lt_of_cell? w _ hw352_0)).trans hw352_0), ((HB.out.cell (World.block_lt_of_cell? w _ hw352_1)).trans hw352_1), ((HB.out.cell (World.block_lt_of_cell? w _ hw353_0)).trans hw353_0), ((HB.out.cell (World.block_lt_of_cell? w _ hw353_1)).trans hw353_1)⟩ (fun hHeld => ?_); refine with_tabW thalweglaw25_GraphMore.tab14 thalweglaw25_GraphMore.bits14 (fun HT_ HW_ => ?_)
                  generalize wr.drew = w39 at HO_10 HO_12 BK330 HB hx352_0 hx352_1 hx353_0 hx353_1 hHeld ⊢
                  refine pure_ (i := 0) (N := some 72) (v := ?_) (a' := ?_) #[true, false, false, false, false, false, false, false, false, false, false, false, false, false, false, false, false, false, false, false, false, false] rfl rfl (any_of HT_.out (by kernel_rfl)) (fun _ _ _ h => h) (Or.inl ⟨by rfl, ?_⟩) ?_ ?_
                  rotate_left
                  · intro w'
                    go_simp; with_reducible rfl
                  rotate_left
                  · simp only [Act.put, YL, YM, YN, i64_w, i32_w]
                    rfl
                  refine pure_ (i := 1) (N := some 73) (v := ?_) (a' := ?_) #[true, true, false, false, false, false, false, false, false, false, false, false, false, false, false, false, false, false, false, false, false, false] rfl rfl (any_of HT_.out (by kernel_rfl)) (fun _ _ _ h => h) (Or.inl ⟨by rfl, ?_⟩) ?_ ?_
                  rotate_left
                  · intro w'
                    go_simp; with_reducible rfl
                  rotate_left
                  · simp only [Act.put, YL, YM, YN, i64_w, i32_w]
                    rfl
                  refine pure_ (i := 2) (N := some 74) (v := ?_) (a' := ?_) #[true, true, true, false, false, false, false, false, false, false, false, false, false, false, false, false, false, false, false, false, false, false] rfl rfl (any_of HT_.out (by kernel_rfl)) (fun _ _ _ h => h) (Or.inl ⟨by rfl, ?_⟩) ?_ ?_
                  rotate_left
                  · intro w'
                    go_simp; with_reducible rfl
                  rotate_left
                  · simp only [Act.put, YL, YM, YN, i64_w, i32_w]
                    rfl
                  refine pure_ (i := 3) (N := some 75) (v := ?_) (a' := ?_) #[true, true, true, true, false, false, false, false, false, false, false, false, false, false, false, false, false, false, false, false, false, false] rfl rfl (any_of HT_.out (by kernel_rfl)) (fun _ _ _ h => h) (Or.inl ⟨by rfl, ?_⟩) ?_ ?_
                  rotate_left
                  · intro w'
                    go_simp; with_reducible rfl
                  rotate_left
                  · simp only [Act.put, YL, YM, YN, i64_w, i32_w]
                    rfl
                  refine pure_ (i := 4) (N := some 76) (v := ?_) (a' := ?_) #[true, true, true, true, true, false, false, false, false, false, false, false, false, false, false, false, false, false, false, false, false, false] rfl rfl (any_of HT_.out (by kernel_rfl)) (fun _ _ _ h => h) (Or.inl ⟨by rfl, ?_⟩) ?_ ?_
                  rotate_left
                  · intro w'
                    go_simp; with_reducible rfl
                  rotate_left
                  · simp only [Act.put, YL, YM, YN, i64_w, i32_w]
                    rfl
                  refine take_ (i := 5) (N := some 77) (v := ?_) (a' := ?_) #[true, true, true, true, true, true, false, false, false, false, false, false, false, false, false, false, false, false, false, false, false, false] rfl rfl (take_ofW HT_.out HW_.out (by kernel_rfl)) (fun _ _ _ h => h) (Or.inl ⟨by rfl, ?_⟩) hHeld ?_ ?_
                  rotate_left
                  · rintro w' ⟨s0, s1, s2, s3, s4, s5⟩
                    go_simp; with_reducible rfl
                  rotate_left
                  · simp only [Act.put, YL, YM, YN, i64_w, i32_w]
                    rfl
                  refine take_ (i := 6) (N := some 78) (v := ?_) (a' := ?_) #[true, true, true, true, true, true, true, false, false, false, false, false, false, false, false, false, false, false, false, false, false, false] rfl rfl (take_ofW HT_.out HW_.out (by kernel_rfl)) (fun _ _ _ h => h) (Or.inl ⟨by rfl, ?_⟩) hHeld ?_ ?_
                  rotate_left
                  · rintro w' ⟨s0, s1, s2, s3, s4, s5⟩
                    go_simp; with_reducible rfl
                  rotate_left
                  · simp only [Act.put, YL, YM, YN, i64_w, i32_w]
                    rfl
                  refine pure_ (i := 7) (N := some 79) (v := ?_) (a' := ?_) #[true, true, true, true, true, true, true, true, false, false, false, false, false, false, false, false, false, false, false, false, false, false] rfl rfl (any_of HT_.out (by kernel_rfl)) (fun _ _ _ h => h) (Or.inl ⟨by rfl, ?_⟩) ?_ ?_
                  rotate_left
                  · intro w'
                    go_simp; with_reducible rfl
                  rotate_left
                  · simp only [Act.put, YL, YM, YN, i64_w, i32_w]
                    rfl
                  refine pure_ (i := 8) (N := some 80) (v := ?_) (a' := ?_) #[true, true, true, true, true, true, true, true, true, false, false, false, false, false, false, false, false, false, false, false, false, false] rfl rfl (any_of HT_.out (by kernel_rfl)) (fun _ _ _ h => h) (Or.inl ⟨by rfl, ?_⟩) ?_ ?_
                  rotate_left
                  · intro w'
                    go_simp; with_reducible rfl
                  rotate_left
                  · simp only [Act.put, YL, YM, YN, i64_w, i32_w]
                    rfl
                  refine pure_ (i := 9) (N := some 81) (v := ?_) (a' := ?_) #[true, true, true, true, true, true, true, true, true, true, false, false, false, false, false, false, false, false, false, false, false, false] rfl rfl (any_of HT_.out (by kernel_rfl)) (fun _ _ _ h => h) (Or.inl ⟨by rfl, ?_⟩) ?_ ?_
                  rotate_left
                  · intro w'
                    go_simp; with_reducible rfl
                  rotate_left
                  · simp only [Act.put, YL, YM, YN, i64_w, i32_w]
                    rfl
                  refine pure_ (i := 10) (N := some 82) (v := ?_) (a' := ?_) #[true, true, true, true, true, true, true, true, true, true, true, false, false, false, false, false, false, false, false, false, false, false] rfl rfl (any_of HT_.out (by kernel_rfl)) (fun _ _ _ h => h) (Or.inl ⟨by rfl, ?_⟩) ?_ ?_
                  rotate_left
                  · intro w'
                    go_simp; with_reducible rfl
                  rotate_left
                  · simp only [Act.put, YL, YM, YN, i64_w, i32_w]
                    rfl
                  refine pure_ (i := 11) (N := some 83) (v := ?_) (a' := ?_) #[true, true, true, true, true, true, true, true, true, true, true, true, false, false, false, false, false, false, false, false, false, false] rfl rfl (any_of HT_.out (by kernel_rfl)) (fun _ _ _ h => h) (Or.inl ⟨by rfl, ?_⟩) ?_ ?_
                  rotate_left
                  · intro w'
                    go_simp; with_reducible rfl
                  rotate_left
                  · simp only [Act.put, YL, YM, YN, i64_w, i32_w]
                    rfl
                  refine pure_ (i := 12) (N := some 84) (v := ?_) (a' := ?_) #[true, true, true, true, true, true, true, true, true, true, true, true, true, false, false, false, false, false, false, false, false, false] rfl rfl (any_of HT_.out (by kernel_rfl)) (fun _ _ _ h => h) (Or.inl ⟨by rfl, ?_⟩) ?_ ?_
                  rotate_left
                  · intro w'
                    go_simp; with_reducible rfl
                  rotate_left
                  · simp only [Act.put, YL, YM, YN, i64_w, i32_w]
                    rfl
                  refine pure_ (i := 14) (N := some 86) (v := ?_) (a' := ?_) #[true, true, true, true, true, true, true, true, true, true, true, true, true, false, true, false, false, false, false, false, false, false] rfl rfl (any_of HT_.out (by kernel_rfl)) (fun _ _ _ h => h) (Or.inl ⟨by rfl, ?_⟩) ?_ ?_
                  rotate_left
                  · intro w'
                    go_simp; with_reducible rfl
                  rotate_left
                  · simp only [Act.put, YL, YM, YN, i64_w, i32_w]
                    rfl
                  refine pure_ (i := 16) (N := some 88) (v := ?_) (a' := ?_) #[true, true, true, true, true, true, true, true, true, true, true, true, true, false, true, false, true, false, false, false, false, false] rfl rfl (any_of HT_.out (by kernel_rfl)) (fun _ _ _ h => h) (Or.inl ⟨by rfl, ?_⟩) ?_ ?_
                  rotate_left
                  · intro w'
                    go_simp; with_reducible rfl
                  rotate_left
                  · simp only [Act.put, YL, YM, YN, i64_w, i32_w]
                    rfl
                  refine take_ (i := 13) (N := some 85) (v := ?_) (a' := ?_) #[true, true, true, true, true, true, true, true, true, true, true, true, true, true, true, false, true, false, false, false, false, false] rfl rfl (take_ofW HT_.out HW_.out (by kernel_rfl)) (fun _ _ _ h => h) (Or.inl ⟨by rfl, ?_⟩) hHeld ?_ ?_
                  rotate_left
                  · rintro w' ⟨s0, s1, s2, s3, s4, s5⟩
                    go_simp; with_reducible rfl
                  rotate_left
                  · simp only [Act.put, YL, YM, YN, i64_w, i32_w]
                    rfl
                  refine take_ (i := 15) (N := some 87) (v := ?_) (a' := ?_) #[true, true, true, true, true, true, true, true, true, true, true, true, true, true, true, true, true, false, false, false, false, false] rfl rfl (take_ofW HT_.out HW_.out (by kernel_rfl)) (fun _ _ _ h => h) (Or.inl ⟨by rfl, ?_⟩) hHeld ?_ ?_
                  rotate_left
                  · rintro w' ⟨s0, s1, s2, s3, s4, s5⟩
                    go_simp; with_reducible rfl
                  rotate_left
                  · simp only [Act.put, YL, YM, YN, i64_w, i32_w]
                    rfl
                  refine take_ (i := 17) (N := some 89) (v := ?_) (a' := ?_) #[true, true, true, true, true, true, true, true, true, true, true, true, true, true, true, true, true, true, false, false, false, false] rfl rfl (take_ofW HT_.out HW_.out (by kernel_rfl)) (fun _ _ _ h => h) (Or.inl ⟨by rfl, ?_⟩) hHeld ?_ ?_
                  rotate_left
                  · rintro w' ⟨s0, s1, s2, s3, s4, s5⟩
                    go_simp; with_reducible rfl
                  rotate_left
                  · simp only [Act.put, YL, YM, YN, i64_w, i32_w]
                    rfl
                  refine pure_ (i := 18) (N := some 90) (v := ?_) (a' := ?_) #[true, true, true, true, true, true, true, true, true, true, true, true, true, true, true, true, true, true, true, false, false, false] rfl rfl (any_of HT_.out (by kernel_rfl)) (fun _ _ _ h => h) (Or.inl ⟨by rfl, ?_⟩) ?_ ?_
                  rotate_left
                  · intro w'
                    go_simp; with_reducible rfl
                  rotate_left
                  · simp only [Act.put, YL, YM, YN, i64_w, i32_w]
                    rfl
                  refine pure_ (i := 19) (N := some 91) (v := ?_) (a' := ?_) #[true, true, true, true, true, true, true, true, true, true, true, true, true, true, true, true, true, true, true, true, false, false] rfl rfl (any_of HT_.out (by kernel_rfl)) (fun _ _ _ h => h) (Or.inl ⟨by rfl, ?_⟩) ?_ ?_
                  rotate_left
                  · intro w'
                    go_simp; with_reducible rfl
                  rotate_left
                  · simp only [Act.put, YL, YM, YN, i64_w, i32_w]
                    rfl
                  refine pure_ (i := 20) (N := some 92) (v := ?_) (a' := ?_) #[true, true, true, true, true, true, true, true, true, true, true, true, true, true, true, true, true, true, true, true, true, false] rfl rfl (any_of HT_.out (by kernel_rfl)) (fun _ _ _ h => h) (Or.inl ⟨by rfl, ?_⟩) ?_ ?_
                  rotate_left
                  · intro w'
                    go_simp; with_reducible rfl
                  rotate_left
                  · simp only [Act.put, YL, YM, YN, i64_w, i32_w]
                    rfl
                  refine pure_ (i := 21) (N := some 14) (v := ?_) (a' := ?_) #[true, true, true, true, true, true, true, true, true, true, true, true, true, true, true, true, true, true, true, true, true, true] rfl rfl (any_of HT_.out (by kernel_rfl)) (fun _ _ _ h => h) (Or.inl ⟨by rfl, ?_⟩) ?_ ?_
                  rotate_left
                  · intro w'
                    go_simp; with_reducible rfl
                  rotate_left
                  · simp only [Act.put, YL, YM, YN, i64_w, i32_w]
                    rfl
                  refine done_ (done_of HT_.out (by kernel_rfl)) ?_
                  try go_wp2
                  go_roundg k3
                  case measure => have := HJ4.out; have := HJ13.out; have := HK3.out; omega
                  case rel => exact ⟨((((rd_T36 l1 x15_3).f0) == a2_1 && (((rd_T36 l1 x15_3).f1) == a2_0))), (wrap64 (x15_3 + 1)), (by first | rfl | (simp; done) | (simp [*]; done)), (by first | rfl | (simp; done) | (simp [*]; done)), H', ⟨by have := HJ4.out; have := HJ13.out; have := HK3.out; omega⟩, ⟨by (with_reducible repeat (first | apply YR | apply YS | apply YT)); exact HO_10.out⟩, ⟨by (with_reducible repeat (first | apply YR | apply YS | apply YT)); exact HO_12.out⟩, ⟨by (with_reducible repeat (first | refine YF ?_ _ | refine YG ?_ | refine YH ?_ _)); exact BK330.out⟩, ⟨by repeat (first | (with_reducible first | exact HB.out | apply YA | apply YB | apply YC | refine below_set ?_ GE330.out) | exact HB.out)⟩⟩
                rw [if_neg c33] at H
                have c33b0 : decide (x15_3 < (l1.length : Int)) = false := decide_eq_false c33
                clear c33
                have H' := YK H
                clear H
                go_wp2
                go_loopg [16] k3 (fun kq v16 w' => ∃ (x16_4 : Int), v16 = .int .i64 x16_4 ∧ Aside0 (thalweglaw25_GraphMore.l1 kq a0 t343 t347 x14_3 x16_4 = some r) ∧ Aside0 (kq ≤ k3) ∧ Aside0 (Kd.R (Kd.int .i64) 3 w' w.heap.size (fun k_ => some k_ ≠ (v349 : Value).ownBlock) v345 t343) ∧ Aside0 (Kd.R (Kd.int .i64) 3 w' w.heap.size (fun k_ => some k_ ≠ (v345 : Value).ownBlock) v349 t347) ∧ Aside0 (w'.heap[gb330]? = some (.cells #[.int .i64 a2_0, .int .i64 a2_1] 36 (0, 0))) ∧ Aside0 (Below w.heap.size w w'))
                case atStart => exact ⟨(0), (by first | rfl | (simp; done) | (simp [*]; done)), H', ⟨Nat.le_refl _⟩, ⟨by (with_reducible repeat (first | apply YR | apply YS | apply YT)); exact HO_10.out⟩, ⟨by (with_reducible repeat (first | apply YR | apply YS | apply YT)); exact HO_12.out⟩, ⟨by (with_reducible repeat (first | refine YF ?_ _ | refine YG ?_ | refine YH ?_ _)); exact BK330.out⟩, ⟨by repeat (first | (with_reducible first | exact HB.out | apply YA | apply YB | apply YC | refine below_set ?_ GE330.out) | exact HB.out)⟩⟩
                case round =>
                  clear H'
                  try clear c1
                  try clear c2
                  try clear p2
                  try clear c3
                  try clear p3
                  try clear q3
                  try clear hx3
                  try clear c6
                  try clear p6
                  try clear c7
                  try clear c7b0
                  try clear c8
                  try clear c9
                  try clear c10
                  try clear c13
                  try clear c13b0
                  try clear c13b1
                  try clear c27
                  try clear c27b0
                  try clear c27b1
                  try clear c28
                  try clear c28b0
                  try clear c28b1
                  try clear c32
                  try clear c33
                  try clear c33b0
                  try clear c34
                  try clear p35
                  try clear q35
                  try clear hx35
                  try clear c36
                  try clear c36b0
                  try clear c37
                  try clear c37b0
                  try clear c37b1
                  try clear c37b2
                  try clear hx352_0
                  try clear hx352_1
                  try clear hx353_0
                  try clear hx353_1
                  try clear p2
                  try clear p352
                  try clear p353
                  try clear q352
                  try clear q353
                  obtain ⟨x16_4, rfl, HA, HK4, HO_10, HO_12, BK330, HB⟩ := hrel
                  cases gk with
                  | zero => exact absurd HA.out (by simp [thalweglaw25_GraphMore.l1])
                  | succ k4 =>
                    have H := HA.out
                    clear HA
                    simp only [thalweglaw25_GraphMore.l1] at H
                    by_cases c40 : x16_4 < a0
                    · rw [if_pos c40] at H
                      have c40b0 : decide (x16_4 < a0) = true := decide_eq_true c40; clear c40
                      by_cases c41 : 0 ≤ x16_4
                      rotate_left
                      · rw [if_neg c41] at H
                        exact absurd H (by simp)
                      rw [if_pos c41] at H; have c41b0 : decide (0 ≤ x16_4) = true := decide_eq_true c41; clear c41
                      by_cases c42 : x16_4 < (t343.length : Int)
                      rotate_left
                      · rw [if_neg c42] at H
                        exact absurd H (by simp)
                      rw [if_pos c42] at H
                      have c42b0 : decide (x16_4 < (t343.length : Int)) = true := decide_eq_true c42
                      clear c42
                      by_cases c43 : (rd t343 x16_4) ≥ 0
                      · rw [if_pos c43] at H
                        have c43b0 : decide (0 ≤ (rd t343 x16_4)) = true := decide_eq_true c43; clear c43
                        by_cases c44 : x16_4 < (t347.length : Int)
                        rotate_left
                        · rw [if_neg c44] at H
                          exact absurd H (by simp)
                        rw [if_pos c44] at H
                        have c44b0 : decide (x16_4 < (t347.length : Int)) = true := decide_eq_true c44
                        clear c44
                        by_cases c45 : (rd t347 x16_4) < 0
                        · rw [if_pos c45] at H
                          exact absurd H (by simp)
                        rw [if_neg c45] at H; have c45b0 : decide ((rd t347 x16_4) < 0) = false := decide_eq_false c45; clear c45
                        by_cases c46 : (rd t347 x16_4) > (rd t343 x16_4)
                        · rw [if_pos c46] at H
                          exact absurd H (by simp)
                        rw [if_neg c46] at H; have c46b0 : decide ((rd t343 x16_4) < (rd t347 x16_4)) = false := decide_eq_false c46; clear c46
                        by_cases c47 : x14_3 = true
                        · subst c47
                          have H1 : (if (rd t343 x16_4) = (rd t347 x16_4) then (thalweglaw25_GraphMore.l1 k4 a0 t343 t347 true (wrap64 (x16_4 + 1))) else (none)) = some r := by rw [if_pos rfl] at H; exact H
                          clear H
                          have H := H1
                          clear H1
                          by_cases c48 : (rd t343 x16_4) = (rd t347 x16_4)
                          rotate_left
                          · rw [if_neg c48] at H
                            exact absurd H (by simp)
                          rw [if_pos c48] at H
                          have c48b0 : ((rd t343 x16_4) == (rd t347 x16_4)) = true := beq_iff_eq.mpr c48
                          have c48b1 : ((rd t343 x16_4) != (rd t347 x16_4)) = false := bne_eq_false_iff_eq.mpr c48
                          clear c48
                          have H' := YK H
                          clear H
                          try go_wp2
                          have n0_ := YK (YT HO_10.out)
                          have n1_ := YK (YT HO_12.out)
                          have n2_ := YK (YG BK330.out)
                          have n3_ := YK (YC HB.out)
                          clear HO_10; clear HO_12; clear BK330; clear HB; have HO_10 := n0_; have HO_12 := n1_; have BK330 := n2_; have HB := n3_; clear n0_ n1_ n2_ n3_
                          obtain ⟨Ao50, co50, eo50⟩ := Kd.R_slice HO_10.out
                          (first | subst eo50 | (injection eo50 with f1_ f2_ f3_; have f4_ := f1_.symm; have f5_ := f3_.symm; clear f1_ f2_ f3_; subst f4_; subst f5_))
                          have p354 : 0 ≤ (x16_4 : Int) := of_decide_eq_true (by first | (with_reducible assumption) | assumption)
                          have q354 : x16_4 < (t343.length : Int) := of_decide_eq_true (by first | (with_reducible assumption) | assumption)
                          obtain ⟨ad354, e354, hx354_0⟩ := Kd.at_int (Kd.R_reads' HO_10.out).2.2 x16_4 p354 q354
                          cases e354
                          replace p354 := eq_true p354
                          replace q354 := eq_true q354
                          obtain ⟨Ao51, co51, eo51⟩ := Kd.R_slice HO_12.out
                          (first | subst eo51 | (injection eo51 with f1_ f2_ f3_; have f4_ := f1_.symm; have f5_ := f3_.symm; clear f1_ f2_ f3_; subst f4_; subst f5_))
                          have p355 : 0 ≤ (x16_4 : Int) := of_decide_eq_true (by first | (with_reducible assumption) | assumption)
                          have q355 : x16_4 < (t347.length : Int) := of_decide_eq_true (by first | (with_reducible assumption) | assumption)
                          obtain ⟨ad355, e355, hx355_0⟩ := Kd.at_int (Kd.R_reads' HO_12.out).2.2 x16_4 p355 q355
                          cases e355
                          replace p355 := eq_true p355
                          replace q355 := eq_true q355
                          have p356 : 0 ≤ (x16_4 : Int) := of_decide_eq_true (by first | (with_reducible assumption) | assumption)
                          have q356 : x16_4 < (t347.length : Int) := of_decide_eq_true (by first | (with_reducible assumption) | assumption)
                          obtain ⟨ad356, e356, hx356_0⟩ := Kd.at_int (Kd.R_reads' HO_12.out).2.2 x16_4 p356 q356
                          obtain rfl : ad355 = ad356 := (by injection e356)
                          replace p356 := eq_true p356
                          replace q356 := eq_true q356
                          have p357 : 0 ≤ (x16_4 : Int) := of_decide_eq_true (by first | (with_reducible assumption) | assumption)
                          have q357 : x16_4 < (t343.length : Int) := of_decide_eq_true (by first | (with_reducible assumption) | assumption)
                          obtain ⟨ad357, e357, hx357_0⟩ := Kd.at_int (Kd.R_reads' HO_10.out).2.2 x16_4 p357 q357
                          obtain rfl : ad354 = ad357 := (by injection e357)
                          replace p357 := eq_true p357
                          replace q357 := eq_true q357
                          have p358 : 0 ≤ (x16_4 : Int) := of_decide_eq_true (by first | (with_reducible assumption) | assumption)
                          have q358 : x16_4 < (t343.length : Int) := of_decide_eq_true (by first | (with_reducible assumption) | assumption)
                          obtain ⟨ad358, e358, hx358_0⟩ := Kd.at_int (Kd.R_reads' HO_10.out).2.2 x16_4 p358 q358
                          obtain rfl : ad354 = ad358 := (by injection e358)
                          replace p358 := eq_true p358
                          replace q358 := eq_true q358
                          have p359 : 0 ≤ (x16_4 : Int) := of_decide_eq_true (by first | (with_reducible assumption) | assumption)
                          have q359 : x16_4 < (t347.length : Int) := of_decide_eq_true (by first | (with_reducible assumption) | assumption)
                          obtain ⟨ad359, e359, hx359_0⟩ := Kd.at_int (Kd.R_reads' HO_12.out).2.2 x16_4 p359 q359
                          obtain rfl : ad355 = ad359 := (by injection e359)
                          replace p359 := eq_true p359
                          replace q359 := eq_true q359
                          refine start_ (n := 37) (S := fun w' => w'.cell? (ad354.add (x16_4).toNat) = some (.int .i64 (rd t343 x16_4)) ∧ w'.cell? (ad355.add (x16_4).toNat) = some (.int .i64 (rd t347 x16_4)) ∧ w'.cell? (ad355.add (x16_4).toNat) = some (.int .i64 (rd t347 x16_4)) ∧ w'.cell? (ad354.add (x16_4).toNat) = some (.int .i64 (rd t343 x16_4)) ∧ w'.cell? (ad354.add (x16_4).toNat) = some (.int .i64 (rd t343 x16_4)) ∧ w'.cell? (ad355.add (x16_4).toNat) = some (.int .i64 (rd t347 x16_4))) (ds := []) #[false, false, false, false, false, false, false, false, false, false, false, false, false, false, false, false, false, false, false, false, false, false, false, false, false, false, false, false, false, false, false, false, false, false, false, false, false] (by kernel_rfl) rfl rfl ⟨hx354_0, hx355_0, hx356_0, hx357_0, hx358_0, hx359_0⟩ (fun hHeld => ?_); refine with_tabW thalweglaw25_GraphMore.tab18 thalweglaw25_GraphMore.bits18 (fun HT_ HW_ => ?_)
                          generalize wr.drew = w49 at HO_10 HO_12 BK330 HB hx354_0 hx355_0 hx356_0 hx357_0 hx358_0 hx359_0 hHeld ⊢
                          refine pure_ (i := 0) (N := some 98) (v := ?_) (a' := ?_) #[true, false, false, false, false, false, false, false, false, false, false, false, false, false, false, false, false, false, false, false, false, false, false, false, false, false, false, false, false, false, false, false, false, false, false, false, false] rfl rfl (any_of HT_.out (by kernel_rfl)) (fun _ _ _ h => h) (Or.inl ⟨by rfl, ?_⟩) ?_ ?_
                          rotate_left
                          · intro w'
                            go_simp; with_reducible rfl
                          rotate_left
                          · simp only [Act.put, YL, YM, YN, i64_w, i32_w]
                            rfl
                          refine pure_ (i := 1) (N := some 99) (v := ?_) (a' := ?_) #[true, true, false, false, false, false, false, false, false, false, false, false, false, false, false, false, false, false, false, false, false, false, false, false, false, false, false, false, false, false, false, false, false, false, false, false, false] rfl rfl (any_of HT_.out (by kernel_rfl)) (fun _ _ _ h => h) (Or.inl ⟨by rfl, ?_⟩) ?_ ?_
                          rotate_left
                          · intro w'
                            go_simp; with_reducible rfl
                          rotate_left
                          · simp only [Act.put, YL, YM, YN, i64_w, i32_w]
                            rfl
                          refine pure_ (i := 2) (N := some 100) (v := ?_) (a' := ?_) #[true, true, true, false, false, false, false, false, false, false, false, false, false, false, false, false, false, false, false, false, false, false, false, false, false, false, false, false, false, false, false, false, false, false, false, false, false] rfl rfl (any_of HT_.out (by kernel_rfl)) (fun _ _ _ h => h) (Or.inl ⟨by rfl, ?_⟩) ?_ ?_
                          rotate_left
                          · intro w'
                            go_simp; with_reducible rfl
                          rotate_left
                          · simp only [Act.put, YL, YM, YN, i64_w, i32_w]
                            rfl
                          refine take_ (i := 3) (N := some 101) (v := ?_) (a' := ?_) #[true, true, true, true, false, false, false, false, false, false, false, false, false, false, false, false, false, false, false, false, false, false, false, false, false, false, false, false, false, false, false, false, false, false, false, false, false] rfl rfl (take_ofW HT_.out HW_.out (by kernel_rfl)) (fun _ _ _ h => h) (Or.inl ⟨by rfl, ?_⟩) hHeld ?_ ?_
                          rotate_left
                          · rintro w' ⟨s0, s1, s2, s3, s4, s5⟩
                            go_simp; with_reducible rfl
                          rotate_left
                          · simp only [Act.put, YL, YM, YN, i64_w, i32_w]
                            rfl
                          refine pure_ (i := 4) (N := some 102) (v := ?_) (a' := ?_) #[true, true, true, true, true, false, false, false, false, false, false, false, false, false, false, false, false, false, false, false, false, false, false, false, false, false, false, false, false, false, false, false, false, false, false, false, false] rfl rfl (any_of HT_.out (by kernel_rfl)) (fun _ _ _ h => h) (Or.inl ⟨by rfl, ?_⟩) ?_ ?_
                          rotate_left
                          · intro w'
                            go_simp; with_reducible rfl
                          rotate_left
                          · simp only [Act.put, YL, YM, YN, i64_w, i32_w]
                            rfl
                          refine pure_ (i := 5) (N := some 103) (v := ?_) (a' := ?_) #[true, true, true, true, true, true, false, false, false, false, false, false, false, false, false, false, false, false, false, false, false, false, false, false, false, false, false, false, false, false, false, false, false, false, false, false, false] rfl rfl (any_of HT_.out (by kernel_rfl)) (fun _ _ _ h => h) (Or.inl ⟨by rfl, ?_⟩) ?_ ?_
                          rotate_left
                          · intro w'
                            go_simp; with_reducible rfl
                          rotate_left
                          · simp only [Act.put, YL, YM, YN, i64_w, i32_w]
                            rfl
                          refine pure_ (i := 6) (N := some 104) (v := ?_) (a' := ?_) #[true, true, true, true, true, true, true, false, false, false, false, false, false, false, false, false, false, false, false, false, false, false, false, false, false, false, false, false, false, false, false, false, false, false, false, false, false] rfl rfl (any_of HT_.out (by kernel_rfl)) (fun _ _ _ h => h) (Or.inl ⟨by rfl, ?_⟩) ?_ ?_
                          rotate_left
                          · intro w'
                            go_simp; with_reducible rfl
                          rotate_left
                          · simp only [Act.put, YL, YM, YN, i64_w, i32_w]
                            rfl
                          refine pure_ (i := 7) (N := some 105) (v := ?_) (a' := ?_) #[true, true, true, true, true, true, true, true, false, false, false, false, false, false, false, false, false, false, false, false, false, false, false, false, false, false, false, false, false, false, false, false, false, false, false, false, false] rfl rfl (any_of HT_.out (by kernel_rfl)) (fun _ _ _ h => h) (Or.inl ⟨by rfl, ?_⟩) ?_ ?_
                          rotate_left
                          · intro w'
                            go_simp; with_reducible rfl
                          rotate_left
                          · simp only [Act.put, YL, YM, YN, i64_w, i32_w]
                            rfl
                          refine pure_ (i := 8) (N := some 106) (v := ?_) (a' := ?_) #[true, true, true, true, true, true, true, true, true, false, false, false, false, false, false, false, false, false, false, false, false, false, false, false, false, false, false, false, false, false, false, false, false, false, false, false, false] rfl rfl (any_of HT_.out (by kernel_rfl)) (fun _ _ _ h => h) (Or.inl ⟨by rfl, ?_⟩) ?_ ?_
                          rotate_left
                          · intro w'
                            go_simp; with_reducible rfl
                          rotate_left
                          · simp only [Act.put, YL, YM, YN, i64_w, i32_w]
                            rfl
                          refine take_ (i := 9) (N := some 107) (v := ?_) (a' := ?_) #[true, true, true, true, true, true, true, true, true, true, false, false, false, false, false, false, false, false, false, false, false, false, false, false, false, false, false, false, false, false, false, false, false, false, false, false, false] rfl rfl (take_ofW HT_.out HW_.out (by kernel_rfl)) (fun _ _ _ h => h) (Or.inl ⟨by rfl, ?_⟩) hHeld ?_ ?_
                          rotate_left
                          · rintro w' ⟨s0, s1, s2, s3, s4, s5⟩
                            go_simp; with_reducible rfl
                          rotate_left
                          · simp only [Act.put, YL, YM, YN, i64_w, i32_w]
                            rfl
                          refine pure_ (i := 10) (N := some 108) (v := ?_) (a' := ?_) #[true, true, true, true, true, true, true, true, true, true, true, false, false, false, false, false, false, false, false, false, false, false, false, false, false, false, false, false, false, false, false, false, false, false, false, false, false] rfl rfl (any_of HT_.out (by kernel_rfl)) (fun _ _ _ h => h) (Or.inl ⟨by rfl, ?_⟩) ?_ ?_
                          rotate_left
                          · intro w'
                            go_simp; with_reducible rfl
                          rotate_left
                          · simp only [Act.put, YL, YM, YN, i64_w, i32_w]
                            rfl
                          refine pure_ (i := 11) (N := some 109) (v := ?_) (a' := ?_) #[true, true, true, true, true, true, true, true, true, true, true, true, false, false, false, false, false, false, false, false, false, false, false, false, false, false, false, false, false, false, false, false, false, false, false, false, false] rfl rfl (any_of HT_.out (by kernel_rfl)) (fun _ _ _ h => h) (Or.inl ⟨by rfl, ?_⟩) ?_ ?_
                          rotate_left
                          · intro w'
                            go_simp; with_reducible rfl
                          rotate_left
                          · simp only [Act.put, YL, YM, YN, i64_w, i32_w]
                            rfl
                          refine pure_ (i := 12) (N := some 110) (v := ?_) (a' := ?_) #[true, true, true, true, true, true, true, true, true, true, true, true, true, false, false, false, false, false, false, false, false, false, false, false, false, false, false, false, false, false, false, false, false, false, false, false, false] rfl rfl (any_of HT_.out (by kernel_rfl)) (fun _ _ _ h => h) (Or.inl ⟨by rfl, ?_⟩) ?_ ?_
                          rotate_left
                          · intro w'
                            go_simp; with_reducible rfl
                          rotate_left
                          · simp only [Act.put, YL, YM, YN, i64_w, i32_w]
                            rfl
                          refine pure_ (i := 13) (N := some 111) (v := ?_) (a' := ?_) #[true, true, true, true, true, true, true, true, true, true, true, true, true, true, false, false, false, false, false, false, false, false, false, false, false, false, false, false, false, false, false, false, false, false, false, false, false] rfl rfl (any_of HT_.out (by kernel_rfl)) (fun _ _ _ h => h) (Or.inl ⟨by rfl, ?_⟩) ?_ ?_
                          rotate_left
                          · intro w'
                            go_simp; with_reducible rfl
                          rotate_left
                          · simp only [Act.put, YL, YM, YN, i64_w, i32_w]
                            rfl
                          refine pure_ (i := 14) (N := some 112) (v := ?_) (a' := ?_) #[true, true, true, true, true, true, true, true, true, true, true, true, true, true, true, false, false, false, false, false, false, false, false, false, false, false, false, false, false, false, false, false, false, false, false, false, false] rfl rfl (any_of HT_.out (by kernel_rfl)) (fun _ _ _ h => h) (Or.inl ⟨by rfl, ?_⟩) ?_ ?_
                          rotate_left
                          · intro w'
                            go_simp; with_reducible rfl
                          rotate_left
                          · simp only [Act.put, YL, YM, YN, i64_w, i32_w]
                            rfl
                          refine pure_ (i := 16) (N := some 114) (v := ?_) (a' := ?_) #[true, true, true, true, true, true, true, true, true, true, true, true, true, true, true, false, true, false, false, false, false, false, false, false, false, false, false, false, false, false, false, false, false, false, false, false, false] rfl rfl (any_of HT_.out (by kernel_rfl)) (fun _ _ _ h => h) (Or.inl ⟨by rfl, ?_⟩) ?_ ?_
                          rotate_left
                          · intro w'
                            go_simp; with_reducible rfl
                          rotate_left
                          · simp only [Act.put, YL, YM, YN, i64_w, i32_w]
                            rfl
                          refine pure_ (i := 17) (N := some 115) (v := ?_) (a' := ?_) #[true, true, true, true, true, true, true, true, true, true, true, true, true, true, true, false, true, true, false, false, false, false, false, false, false, false, false, false, false, false, false, false, false, false, false, false, false] rfl rfl (any_of HT_.out (by kernel_rfl)) (fun _ _ _ h => h) (Or.inl ⟨by rfl, ?_⟩) ?_ ?_
                          rotate_left
                          · intro w'
                            go_simp; with_reducible rfl
                          rotate_left
                          · simp only [Act.put, YL, YM, YN, i64_w, i32_w]
                            rfl
                          refine pure_ (i := 18) (N := some 116) (v := ?_) (a' := ?_) #[true, true, true, true, true, true, true, true, true, true, true, true, true, true, true, false, true, true, true, false, false, false, false, false, false, false, false, false, false, false, false, false, false, false, false, false, false] rfl rfl (any_of HT_.out (by kernel_rfl)) (fun _ _ _ h => h) (Or.inl ⟨by rfl, ?_⟩) ?_ ?_
                          rotate_left
                          · intro w'
                            go_simp; with_reducible rfl
                          rotate_left
                          · simp only [Act.put, YL, YM, YN, i64_w, i32_w]
                            rfl
                          refine take_ (i := 15) (N := some 113) (v := ?_) (a' := ?_) #[true, true, true, true, true, true, true, true, true, true, true, true, true, true, true, true, true, true, true, false, false, false, false, false, false, false, false, false, false, false, false, false, false, false, false, false, false] rfl rfl (take_ofW HT_.out HW_.out (by kernel_rfl)) (fun _ _ _ h => h) (Or.inl ⟨by rfl, ?_⟩) hHeld ?_ ?_
                          rotate_left
                          · rintro w' ⟨s0, s1, s2, s3, s4, s5⟩
                            go_simp; with_reducible rfl
                          rotate_left
                          · simp only [Act.put, YL, YM, YN, i64_w, i32_w]
                            rfl
                          refine take_ (i := 19) (N := some 117) (v := ?_) (a' := ?_) #[true, true, true, true, true, true, true, true, true, true, true, true, true, true, true, true, true, true, true, true, false, false, false, false, false, false, false, false, false, false, false, false, false, false, false, false, false] rfl rfl (take_ofW HT_.out HW_.out (by kernel_rfl)) (fun _ _ _ h => h) (Or.inl ⟨by rfl, ?_⟩) hHeld ?_ ?_
                          rotate_left
                          · rintro w' ⟨s0, s1, s2, s3, s4, s5⟩
                            go_simp; with_reducible rfl
                          rotate_left
                          · simp only [Act.put, YL, YM, YN, i64_w, i32_w]
                            rfl
                          refine pure_ (i := 20) (N := some 118) (v := ?_) (a' := ?_) #[true, true, true, true, true, true, true, true, true, true, true, true, true, true, true, true, true, true, true, true, true, false, false, false, false, false, false, false, false, false, false, false, false, false, false, false, false] rfl rfl (any_of HT_.out (by kernel_rfl)) (fun _ _ _ h => h) (Or.inl ⟨by rfl, ?_⟩) ?_ ?_
                          rotate_left
                          · intro w'
                            go_simp; with_reducible rfl
                          rotate_left
                          · simp only [Act.put, YL, YM, YN, i64_w, i32_w]
                            rfl
                          refine pure_ (i := 21) (N := some 119) (v := ?_) (a' := ?_) #[true, true, true, true, true, true, true, true, true, true, true, true, true, true, true, true, true, true, true, true, true, true, false, false, false, false, false, false, false, false, false, false, false, false, false, false, false] rfl rfl (any_of HT_.out (by kernel_rfl)) (fun _ _ _ h => h) (Or.inl ⟨by rfl, ?_⟩) ?_ ?_
                          rotate_left
                          · intro w'
                            go_simp; with_reducible rfl
                          rotate_left
                          · simp only [Act.put, YL, YM, YN, i64_w, i32_w]
                            rfl
                          refine pure_ (i := 22) (N := some 120) (v := ?_) (a' := ?_) #[true, true, true, true, true, true, true, true, true, true, true, true, true, true, true, true, true, true, true, true, true, true, true, false, false, false, false, false, false, false, false, false, false, false, false, false, false] rfl rfl (any_of HT_.out (by kernel_rfl)) (fun _ _ _ h => h) (Or.inl ⟨by rfl, ?_⟩) ?_ ?_
                          rotate_left
                          · intro w'
                            go_simp; with_reducible rfl
                          rotate_left
                          · simp only [Act.put, YL, YM, YN, i64_w, i32_w]
                            rfl
                          refine pure_ (i := 23) (N := some 121) (v := ?_) (a' := ?_) #[true, true, true, true, true, true, true, true, true, true, true, true, true, true, true, true, true, true, true, true, true, true, true, true, false, false, false, false, false, false, false, false, false, false, false, false, false] rfl rfl (any_of HT_.out (by kernel_rfl)) (fun _ _ _ h => h) (Or.inl ⟨by rfl, ?_⟩) ?_ ?_
                          rotate_left
                          · intro w'
                            go_simp; with_reducible rfl
                          rotate_left
                          · simp only [Act.put, YL, YM, YN, i64_w, i32_w]
                            rfl
                          refine pure_ (i := 24) (N := some 122) (v := ?_) (a' := ?_) #[true, true, true, true, true, true, true, true, true, true, true, true, true, true, true, true, true, true, true, true, true, true, true, true, true, false, false, false, false, false, false, false, false, false, false, false, false] rfl rfl (any_of HT_.out (by kernel_rfl)) (fun _ _ _ h => h) (Or.inl ⟨by rfl, ?_⟩) ?_ ?_
                          rotate_left
                          · intro w'
                            go_simp; with_reducible rfl
                          rotate_left
                          · simp only [Act.put, YL, YM, YN, i64_w, i32_w]
                            rfl
                          refine pure_ (i := 25) (N := some 123) (v := ?_) (a' := ?_) #[true, true, true, true, true, true, true, true, true, true, true, true, true, true, true, true, true, true, true, true, true, true, true, true, true, true, false, false, false, false, false, false, false, false, false, false, false] rfl rfl (any_of HT_.out (by kernel_rfl)) (fun _ _ _ h => h) (Or.inl ⟨by rfl, ?_⟩) ?_ ?_
                          rotate_left
                          · intro w'
                            go_simp; with_reducible rfl
                          rotate_left
                          · simp only [Act.put, YL, YM, YN, i64_w, i32_w]
                            rfl
                          refine pure_ (i := 26) (N := some 124) (v := ?_) (a' := ?_) #[true, true, true, true, true, true, true, true, true, true, true, true, true, true, true, true, true, true, true, true, true, true, true, true, true, true, true, false, false, false, false, false, false, false, false, false, false] rfl rfl (any_of HT_.out (by kernel_rfl)) (fun _ _ _ h => h) (Or.inl ⟨by rfl, ?_⟩) ?_ ?_
                          rotate_left
                          · intro w'
                            go_simp; with_reducible rfl
                          rotate_left
                          · simp only [Act.put, YL, YM, YN, i64_w, i32_w]
                            rfl
                          refine pure_ (i := 27) (N := some 125) (v := ?_) (a' := ?_) #[true, true, true, true, true, true, true, true, true, true, true, true, true, true, true, true, true, true, true, true, true, true, true, true, true, true, true, true, false, false, false, false, false, false, false, false, false] rfl rfl (any_of HT_.out (by kernel_rfl)) (fun _ _ _ h => h) (Or.inl ⟨by rfl, ?_⟩) ?_ ?_
                          rotate_left
                          · intro w'
                            go_simp; with_reducible rfl
                          rotate_left
                          · simp only [Act.put, YL, YM, YN, i64_w, i32_w]
                            rfl
                          refine pure_ (i := 28) (N := some 126) (v := ?_) (a' := ?_) #[true, true, true, true, true, true, true, true, true, true, true, true, true, true, true, true, true, true, true, true, true, true, true, true, true, true, true, true, true, false, false, false, false, false, false, false, false] rfl rfl (any_of HT_.out (by kernel_rfl)) (fun _ _ _ h => h) (Or.inl ⟨by rfl, ?_⟩) ?_ ?_
                          rotate_left
                          · intro w'
                            go_simp; with_reducible rfl
                          rotate_left
                          · simp only [Act.put, YL, YM, YN, i64_w, i32_w]
                            rfl
                          refine pure_ (i := 30) (N := some 128) (v := ?_) (a' := ?_) #[true, true, true, true, true, true, true, true, true, true, true, true, true, true, true, true, true, true, true, true, true, true, true, true, true, true, true, true, true, false, true, false, false, false, false, false, false] rfl rfl (any_of HT_.out (by kernel_rfl)) (fun _ _ _ h => h) (Or.inl ⟨by rfl, ?_⟩) ?_ ?_
                          rotate_left
                          · intro w'
                            go_simp; with_reducible rfl
                          rotate_left
                          · simp only [Act.put, YL, YM, YN, i64_w, i32_w]
                            rfl
                          refine pure_ (i := 31) (N := some 129) (v := ?_) (a' := ?_) #[true, true, true, true, true, true, true, true, true, true, true, true, true, true, true, true, true, true, true, true, true, true, true, true, true, true, true, true, true, false, true, true, false, false, false, false, false] rfl rfl (any_of HT_.out (by kernel_rfl)) (fun _ _ _ h => h) (Or.inl ⟨by rfl, ?_⟩) ?_ ?_
                          rotate_left
                          · intro w'
                            go_simp; with_reducible rfl
                          rotate_left
                          · simp only [Act.put, YL, YM, YN, i64_w, i32_w]
                            rfl
                          refine pure_ (i := 32) (N := some 130) (v := ?_) (a' := ?_) #[true, true, true, true, true, true, true, true, true, true, true, true, true, true, true, true, true, true, true, true, true, true, true, true, true, true, true, true, true, false, true, true, true, false, false, false, false] rfl rfl (any_of HT_.out (by kernel_rfl)) (fun _ _ _ h => h) (Or.inl ⟨by rfl, ?_⟩) ?_ ?_
                          rotate_left
                          · intro w'
                            go_simp; with_reducible rfl
                          rotate_left
                          · simp only [Act.put, YL, YM, YN, i64_w, i32_w]
                            rfl
                          refine take_ (i := 29) (N := some 127) (v := ?_) (a' := ?_) #[true, true, true, true, true, true, true, true, true, true, true, true, true, true, true, true, true, true, true, true, true, true, true, true, true, true, true, true, true, true, true, true, true, false, false, false, false] rfl rfl (take_ofW HT_.out HW_.out (by kernel_rfl)) (fun _ _ _ h => h) (Or.inl ⟨by rfl, ?_⟩) hHeld ?_ ?_
                          rotate_left
                          · rintro w' ⟨s0, s1, s2, s3, s4, s5⟩
                            go_simp; with_reducible rfl
                          rotate_left
                          · simp only [Act.put, YL, YM, YN, i64_w, i32_w]
                            rfl
                          refine take_ (i := 33) (N := some 131) (v := ?_) (a' := ?_) #[true, true, true, true, true, true, true, true, true, true, true, true, true, true, true, true, true, true, true, true, true, true, true, true, true, true, true, true, true, true, true, true, true, true, false, false, false] rfl rfl (take_ofW HT_.out HW_.out (by kernel_rfl)) (fun _ _ _ h => h) (Or.inl ⟨by rfl, ?_⟩) hHeld ?_ ?_
                          rotate_left
                          · rintro w' ⟨s0, s1, s2, s3, s4, s5⟩
                            go_simp; with_reducible rfl
                          rotate_left
                          · simp only [Act.put, YL, YM, YN, i64_w, i32_w]
                            rfl
                          refine pure_ (i := 34) (N := some 132) (v := ?_) (a' := ?_) #[true, true, true, true, true, true, true, true, true, true, true, true, true, true, true, true, true, true, true, true, true, true, true, true, true, true, true, true, true, true, true, true, true, true, true, false, false] rfl rfl (any_of HT_.out (by kernel_rfl)) (fun _ _ _ h => h) (Or.inl ⟨by rfl, ?_⟩) ?_ ?_
                          rotate_left
                          · intro w'
                            go_simp; with_reducible rfl
                          rotate_left
                          · simp only [Act.put, YL, YM, YN, i64_w, i32_w]
                            rfl
                          refine pure_ (i := 35) (N := some 133) (v := ?_) (a' := ?_) #[true, true, true, true, true, true, true, true, true, true, true, true, true, true, true, true, true, true, true, true, true, true, true, true, true, true, true, true, true, true, true, true, true, true, true, true, false] rfl rfl (any_of HT_.out (by kernel_rfl)) (fun _ _ _ h => h) (Or.inl ⟨by rfl, ?_⟩) ?_ ?_
                          rotate_left
                          · intro w'
                            go_simp; with_reducible rfl
                          rotate_left
                          · simp only [Act.put, YL, YM, YN, i64_w, i32_w]
                            rfl
                          refine pure_ (i := 36) (N := some 134) (v := ?_) (a' := ?_) #[true, true, true, true, true, true, true, true, true, true, true, true, true, true, true, true, true, true, true, true, true, true, true, true, true, true, true, true, true, true, true, true, true, true, true, true, true] rfl rfl (any_of HT_.out (by kernel_rfl)) (fun _ _ _ h => h) (Or.inl ⟨by rfl, ?_⟩) ?_ ?_
                          rotate_left
                          · intro w'
                            go_simp; with_reducible rfl
                          rotate_left
                          · simp only [Act.put, YL, YM, YN, i64_w, i32_w]
                            rfl
                          refine done_ (done_of HT_.out (by kernel_rfl)) ?_
                          try go_wp2
                          go_roundg k4
                          case measure => have := HJ4.out; have := HJ13.out; have := HK3.out; have := HK4.out; omega
                          case rel => exact ⟨(wrap64 (x16_4 + 1)), (by first | rfl | (simp; done) | (simp [*]; done)), H', ⟨by have := HJ4.out; have := HJ13.out; have := HK3.out; have := HK4.out; omega⟩, ⟨by (with_reducible repeat (first | apply YR | apply YS | apply YT)); exact HO_10.out⟩, ⟨by (with_reducible repeat (first | apply YR | apply YS | apply YT)); exact HO_12.out⟩, ⟨by (with_reducible repeat (first | refine YF ?_ _ | refine YG ?_ | refine YH ?_ _)); exact BK330.out⟩, ⟨by repeat (first | (with_reducible first | exact HB.out | apply YA | apply YB | apply YC | refine below_set ?_ GE330.out) | exact HB.out)⟩⟩
                        replace c47 := Bool.eq_false_iff.mpr c47
                        subst c47
                        have H1 : (thalweglaw25_GraphMore.l1 k4 a0 t343 t347 false (wrap64 (x16_4 + 1))) = some r := by rw [if_neg (show ¬ (false = true) by decide)] at H; exact H
                        clear H
                        have H := H1
                        clear H1
                        have H' := YK H
                        clear H
                        try go_wp2
                        have n0_ := YK (YT HO_10.out)
                        have n1_ := YK (YT HO_12.out)
                        have n2_ := YK (YG BK330.out)
                        have n3_ := YK (YC HB.out)
                        clear HO_10; clear HO_12; clear BK330; clear HB; have HO_10 := n0_; have HO_12 := n1_; have BK330 := n2_; have HB := n3_; clear n0_ n1_ n2_ n3_
                        obtain ⟨Ao53, co53, eo53⟩ := Kd.R_slice HO_10.out
                        (first | subst eo53 | (injection eo53 with f1_ f2_ f3_; have f4_ := f1_.symm; have f5_ := f3_.symm; clear f1_ f2_ f3_; subst f4_; subst f5_))
                        have p354 : 0 ≤ (x16_4 : Int) := of_decide_eq_true (by first | (with_reducible assumption) | assumption)
                        have q354 : x16_4 < (t343.length : Int) := of_decide_eq_true (by first | (with_reducible assumption) | assumption)
                        obtain ⟨ad354, e354, hx354_0⟩ := Kd.at_int (Kd.R_reads' HO_10.out).2.2 x16_4 p354 q354
                        cases e354
                        replace p354 := eq_true p354
                        replace q354 := eq_true q354
                        obtain ⟨Ao54, co54, eo54⟩ := Kd.R_slice HO_12.out
                        (first | subst eo54 | (injection eo54 with f1_ f2_ f3_; have f4_ := f1_.symm; have f5_ := f3_.symm; clear f1_ f2_ f3_; subst f4_; subst f5_))
                        have p355 : 0 ≤ (x16_4 : Int) := of_decide_eq_true (by first | (with_reducible assumption) | assumption)
                        have q355 : x16_4 < (t347.length : Int) := of_decide_eq_true (by first | (with_reducible assumption) | assumption)
                        obtain ⟨ad355, e355, hx355_0⟩ := Kd.at_int (Kd.R_reads' HO_12.out).2.2 x16_4 p355 q355
                        cases e355
                        replace p355 := eq_true p355
                        replace q355 := eq_true q355
                        have p356 : 0 ≤ (x16_4 : Int) := of_decide_eq_true (by first | (with_reducible assumption) | assumption)
                        have q356 : x16_4 < (t347.length : Int) := of_decide_eq_true (by first | (with_reducible assumption) | assumption)
                        obtain ⟨ad356, e356, hx356_0⟩ := Kd.at_int (Kd.R_reads' HO_12.out).2.2 x16_4 p356 q356
                        obtain rfl : ad355 = ad356 := (by injection e356)
                        replace p356 := eq_true p356
                        replace q356 := eq_true q356
                        have p357 : 0 ≤ (x16_4 : Int) := of_decide_eq_true (by first | (with_reducible assumption) | assumption)
                        have q357 : x16_4 < (t343.length : Int) := of_decide_eq_true (by first | (with_reducible assumption) | assumption)
                        obtain ⟨ad357, e357, hx357_0⟩ := Kd.at_int (Kd.R_reads' HO_10.out).2.2 x16_4 p357 q357
                        obtain rfl : ad354 = ad357 := (by injection e357)
                        replace p357 := eq_true p357
                        replace q357 := eq_true q357
                        refine start_ (n := 37) (S := fun w' => w'.cell? (ad354.add (x16_4).toNat) = some (.int .i64 (rd t343 x16_4)) ∧ w'.cell? (ad355.add (x16_4).toNat) = some (.int .i64 (rd t347 x16_4)) ∧ w'.cell? (ad355.add (x16_4).toNat) = some (.int .i64 (rd t347 x16_4)) ∧ w'.cell? (ad354.add (x16_4).toNat) = some (.int .i64 (rd t343 x16_4))) (ds := []) #[false, false, false, false, false, false, false, false, false, false, false, false, false, false, false, false, false, false, false, false, false, false, false, false, false, false, false, false, false, false, false, false, false, false, false, false, false] (by kernel_rfl) rfl rfl ⟨hx354_0, hx355_0, hx356_0, hx357_0⟩ (fun hHeld => ?_); refine with_tabW thalweglaw25_GraphMore.tab18 thalweglaw25_GraphMore.bits18 (fun HT_ HW_ => ?_)
                        generalize wr.drew = w52 at HO_10 HO_12 BK330 HB hx354_0 hx355_0 hx356_0 hx357_0 hHeld ⊢
                        refine pure_ (i := 0) (N := some 98) (v := ?_) (a' := ?_) #[true, false, false, false, false, false, false, false, false, false, false, false, false, false, false, false, false, false, false, false, false, false, false, false, false, false, false, false, false, false, false, false, false, false, false, false, false] rfl rfl (any_of HT_.out (by kernel_rfl)) (fun _ _ _ h => h) (Or.inl ⟨by rfl, ?_⟩) ?_ ?_
                        rotate_left
                        · intro w'
                          go_simp; with_reducible rfl
                        rotate_left
                        · simp only [Act.put, YL, YM, YN, i64_w, i32_w]
                          rfl
                        refine pure_ (i := 1) (N := some 99) (v := ?_) (a' := ?_) #[true, true, false, false, false, false, false, false, false, false, false, false, false, false, false, false, false, false, false, false, false, false, false, false, false, false, false, false, false, false, false, false, false, false, false, false, false] rfl rfl (any_of HT_.out (by kernel_rfl)) (fun _ _ _ h => h) (Or.inl ⟨by rfl, ?_⟩) ?_ ?_
                        rotate_left
                        · intro w'
                          go_simp; with_reducible rfl
                        rotate_left
                        · simp only [Act.put, YL, YM, YN, i64_w, i32_w]
                          rfl
                        refine pure_ (i := 2) (N := some 100) (v := ?_) (a' := ?_) #[true, true, true, false, false, false, false, false, false, false, false, false, false, false, false, false, false, false, false, false, false, false, false, false, false, false, false, false, false, false, false, false, false, false, false, false, false] rfl rfl (any_of HT_.out (by kernel_rfl)) (fun _ _ _ h => h) (Or.inl ⟨by rfl, ?_⟩) ?_ ?_
                        rotate_left
                        · intro w'
                          go_simp; with_reducible rfl
                        rotate_left
                        · simp only [Act.put, YL, YM, YN, i64_w, i32_w]
                          rfl
                        refine take_ (i := 3) (N := some 101) (v := ?_) (a' := ?_) #[true, true, true, true, false, false, false, false, false, false, false, false, false, false, false, false, false, false, false, false, false, false, false, false, false, false, false, false, false, false, false, false, false, false, false, false, false] rfl rfl (take_ofW HT_.out HW_.out (by kernel_rfl)) (fun _ _ _ h => h) (Or.inl ⟨by rfl, ?_⟩) hHeld ?_ ?_
                        rotate_left
                        · rintro w' ⟨s0, s1, s2, s3⟩
                          go_simp; with_reducible rfl
                        rotate_left
                        · simp only [Act.put, YL, YM, YN, i64_w, i32_w]
                          rfl
                        refine pure_ (i := 4) (N := some 102) (v := ?_) (a' := ?_) #[true, true, true, true, true, false, false, false, false, false, false, false, false, false, false, false, false, false, false, false, false, false, false, false, false, false, false, false, false, false, false, false, false, false, false, false, false] rfl rfl (any_of HT_.out (by kernel_rfl)) (fun _ _ _ h => h) (Or.inl ⟨by rfl, ?_⟩) ?_ ?_
                        rotate_left
                        · intro w'
                          go_simp; with_reducible rfl
                        rotate_left
                        · simp only [Act.put, YL, YM, YN, i64_w, i32_w]
                          rfl
                        refine pure_ (i := 5) (N := some 103) (v := ?_) (a' := ?_) #[true, true, true, true, true, true, false, false, false, false, false, false, false, false, false, false, false, false, false, false, false, false, false, false, false, false, false, false, false, false, false, false, false, false, false, false, false] rfl rfl (any_of HT_.out (by kernel_rfl)) (fun _ _ _ h => h) (Or.inl ⟨by rfl, ?_⟩) ?_ ?_
                        rotate_left
                        · intro w'
                          go_simp; with_reducible rfl
                        rotate_left
                        · simp only [Act.put, YL, YM, YN, i64_w, i32_w]
                          rfl
                        refine pure_ (i := 6) (N := some 104) (v := ?_) (a' := ?_) #[true, true, true, true, true, true, true, false, false, false, false, false, false, false, false, false, false, false, false, false, false, false, false, false, false, false, false, false, false, false, false, false, false, false, false, false, false] rfl rfl (any_of HT_.out (by kernel_rfl)) (fun _ _ _ h => h) (Or.inl ⟨by rfl, ?_⟩) ?_ ?_
                        rotate_left
                        · intro w'
                          go_simp; with_reducible rfl
                        rotate_left
                        · simp only [Act.put, YL, YM, YN, i64_w, i32_w]
                          rfl
                        refine pure_ (i := 7) (N := some 105) (v := ?_) (a' := ?_) #[true, true, true, true, true, true, true, true, false, false, false, false, false, false, false, false, false, false, false, false, false, false, false, false, false, false, false, false, false, false, false, false, false, false, false, false, false] rfl rfl (any_of HT_.out (by kernel_rfl)) (fun _ _ _ h => h) (Or.inl ⟨by rfl, ?_⟩) ?_ ?_
                        rotate_left
                        · intro w'
                          go_simp; with_reducible rfl
                        rotate_left
                        · simp only [Act.put, YL, YM, YN, i64_w, i32_w]
                          rfl
                        refine pure_ (i := 8) (N := some 106) (v := ?_) (a' := ?_) #[true, true, true, true, true, true, true, true, true, false, false, false, false, false, false, false, false, false, false, false, false, false, false, false, false, false, false, false, false, false, false, false, false, false, false, false, false] rfl rfl (any_of HT_.out (by kernel_rfl)) (fun _ _ _ h => h) (Or.inl ⟨by rfl, ?_⟩) ?_ ?_
                        rotate_left
                        · intro w'
                          go_simp; with_reducible rfl
                        rotate_left
                        · simp only [Act.put, YL, YM, YN, i64_w, i32_w]
                          rfl
                        refine take_ (i := 9) (N := some 107) (v := ?_) (a' := ?_) #[true, true, true, true, true, true, true, true, true, true, false, false, false, false, false, false, false, false, false, false, false, false, false, false, false, false, false, false, false, false, false, false, false, false, false, false, false] rfl rfl (take_ofW HT_.out HW_.out (by kernel_rfl)) (fun _ _ _ h => h) (Or.inl ⟨by rfl, ?_⟩) hHeld ?_ ?_
                        rotate_left
                        · rintro w' ⟨s0, s1, s2, s3⟩
                          go_simp; with_reducible rfl
                        rotate_left
                        · simp only [Act.put, YL, YM, YN, i64_w, i32_w]
                          rfl
                        refine pure_ (i := 10) (N := some 108) (v := ?_) (a' := ?_) #[true, true, true, true, true, true, true, true, true, true, true, false, false, false, false, false, false, false, false, false, false, false, false, false, false, false, false, false, false, false, false, false, false, false, false, false, false] rfl rfl (any_of HT_.out (by kernel_rfl)) (fun _ _ _ h => h) (Or.inl ⟨by rfl, ?_⟩) ?_ ?_
                        rotate_left
                        · intro w'
                          go_simp; with_reducible rfl
                        rotate_left
                        · simp only [Act.put, YL, YM, YN, i64_w, i32_w]
                          rfl
                        refine pure_ (i := 11) (N := some 109) (v := ?_) (a' := ?_) #[true, true, true, true, true, true, true, true, true, true, true, true, false, false, false, false, false, false, false, false, false, false, false, false, false, false, false, false, false, false, false, false, false, false, false, false, false] rfl rfl (any_of HT_.out (by kernel_rfl)) (fun _ _ _ h => h) (Or.inl ⟨by rfl, ?_⟩) ?_ ?_
                        rotate_left
                        · intro w'
                          go_simp; with_reducible rfl
                        rotate_left
                        · simp only [Act.put, YL, YM, YN, i64_w, i32_w]
                          rfl
                        refine pure_ (i := 12) (N := some 110) (v := ?_) (a' := ?_) #[true, true, true, true, true, true, true, true, true, true, true, true, true, false, false, false, false, false, false, false, false, false, false, false, false, false, false, false, false, false, false, false, false, false, false, false, false] rfl rfl (any_of HT_.out (by kernel_rfl)) (fun _ _ _ h => h) (Or.inl ⟨by rfl, ?_⟩) ?_ ?_
                        rotate_left
                        · intro w'
                          go_simp; with_reducible rfl
                        rotate_left
                        · simp only [Act.put, YL, YM, YN, i64_w, i32_w]
                          rfl
                        refine pure_ (i := 13) (N := some 111) (v := ?_) (a' := ?_) #[true, true, true, true, true, true, true, true, true, true, true, true, true, true, false, false, false, false, false, false, false, false, false, false, false, false, false, false, false, false, false, false, false, false, false, false, false] rfl rfl (any_of HT_.out (by kernel_rfl)) (fun _ _ _ h => h) (Or.inl ⟨by rfl, ?_⟩) ?_ ?_
                        rotate_left
                        · intro w'
                          go_simp; with_reducible rfl
                        rotate_left
                        · simp only [Act.put, YL, YM, YN, i64_w, i32_w]
                          rfl
                        refine pure_ (i := 14) (N := some 112) (v := ?_) (a' := ?_) #[true, true, true, true, true, true, true, true, true, true, true, true, true, true, true, false, false, false, false, false, false, false, false, false, false, false, false, false, false, false, false, false, false, false, false, false, false] rfl rfl (any_of HT_.out (by kernel_rfl)) (fun _ _ _ h => h) (Or.inl ⟨by rfl, ?_⟩) ?_ ?_
                        rotate_left
                        · intro w'
                          go_simp; with_reducible rfl
                        rotate_left
                        · simp only [Act.put, YL, YM, YN, i64_w, i32_w]
                          rfl
                        refine pure_ (i := 16) (N := some 114) (v := ?_) (a' := ?_) #[true, true, true, true, true, true, true, true, true, true, true, true, true, true, true, false, true, false, false, false, false, false, false, false, false, false, false, false, false, false, false, false, false, false, false, false, false] rfl rfl (any_of HT_.out (by kernel_rfl)) (fun _ _ _ h => h) (Or.inl ⟨by rfl, ?_⟩) ?_ ?_
                        rotate_left
                        · intro w'
                          go_simp; with_reducible rfl
                        rotate_left
                        · simp only [Act.put, YL, YM, YN, i64_w, i32_w]
                          rfl
                        refine pure_ (i := 17) (N := some 115) (v := ?_) (a' := ?_) #[true, true, true, true, true, true, true, true, true, true, true, true, true, true, true, false, true, true, false, false, false, false, false, false, false, false, false, false, false, false, false, false, false, false, false, false, false] rfl rfl (any_of HT_.out (by kernel_rfl)) (fun _ _ _ h => h) (Or.inl ⟨by rfl, ?_⟩) ?_ ?_
                        rotate_left
                        · intro w'
                          go_simp; with_reducible rfl
                        rotate_left
                        · simp only [Act.put, YL, YM, YN, i64_w, i32_w]
                          rfl
                        refine pure_ (i := 18) (N := some 116) (v := ?_) (a' := ?_) #[true, true, true, true, true, true, true, true, true, true, true, true, true, true, true, false, true, true, true, false, false, false, false, false, false, false, false, false, false, false, false, false, false, false, false, false, false] rfl rfl (any_of HT_.out (by kernel_rfl)) (fun _ _ _ h => h) (Or.inl ⟨by rfl, ?_⟩) ?_ ?_
                        rotate_left
                        · intro w'
                          go_simp; with_reducible rfl
                        rotate_left
                        · simp only [Act.put, YL, YM, YN, i64_w, i32_w]
                          rfl
                        refine take_ (i := 15) (N := some 113) (v := ?_) (a' := ?_) #[true, true, true, true, true, true, true, true, true, true, true, true, true, true, true, true, true, true, true, false, false, false, false, false, false, false, false, false, false, false, false, false, false, false, false, false, false] rfl rfl (take_ofW HT_.out HW_.out (by kernel_rfl)) (fun _ _ _ h => h) (Or.inl ⟨by rfl, ?_⟩) hHeld ?_ ?_
                        rotate_left
                        · rintro w' ⟨s0, s1, s2, s3⟩
                          go_simp; with_reducible rfl
                        rotate_left
                        · simp only [Act.put, YL, YM, YN, i64_w, i32_w]
                          rfl
                        refine take_ (i := 19) (N := some 117) (v := ?_) (a' := ?_) #[true, true, true, true, true, true, true, true, true, true, true, true, true, true, true, true, true, true, true, true, false, false, false, false, false, false, false, false, false, false, false, false, false, false, false, false, false] rfl rfl (take_ofW HT_.out HW_.out (by kernel_rfl)) (fun _ _ _ h => h) (Or.inl ⟨by rfl, ?_⟩) hHeld ?_ ?_
                        rotate_left
                        · rintro w' ⟨s0, s1, s2, s3⟩
                          go_simp; with_reducible rfl
                        rotate_left
                        · simp only [Act.put, YL, YM, YN, i64_w, i32_w]
                          rfl
                        refine pure_ (i := 20) (N := some 118) (v := ?_) (a' := ?_) #[true, true, true, true, true, true, true, true, true, true, true, true, true, true, true, true, true, true, true, true, true, false, false, false, false, false, false, false, false, false, false, false, false, false, false, false, false] rfl rfl (any_of HT_.out (by kernel_rfl)) (fun _ _ _ h => h) (Or.inl ⟨by rfl, ?_⟩) ?_ ?_
                        rotate_left
                        · intro w'
                          go_simp; with_reducible rfl
                        rotate_left
                        · simp only [Act.put, YL, YM, YN, i64_w, i32_w]
                          rfl
                        refine pure_ (i := 21) (N := some 119) (v := ?_) (a' := ?_) #[true, true, true, true, true, true, true, true, true, true, true, true, true, true, true, true, true, true, true, true, true, true, false, false, false, false, false, false, false, false, false, false, false, false, false, false, false] rfl rfl (any_of HT_.out (by kernel_rfl)) (fun _ _ _ h => h) (Or.inl ⟨by rfl, ?_⟩) ?_ ?_
                        rotate_left
                        · intro w'
                          go_simp; with_reducible rfl
                        rotate_left
                        · simp only [Act.put, YL, YM, YN, i64_w, i32_w]
                          rfl
                        refine pure_ (i := 22) (N := some 120) (v := ?_) (a' := ?_) #[true, true, true, true, true, true, true, true, true, true, true, true, true, true, true, true, true, true, true, true, true, true, true, false, false, false, false, false, false, false, false, false, false, false, false, false, false] rfl rfl (any_of HT_.out (by kernel_rfl)) (fun _ _ _ h => h) (Or.inl ⟨by rfl, ?_⟩) ?_ ?_
                        rotate_left
                        · intro w'
                          go_simp; with_reducible rfl
                        rotate_left
                        · simp only [Act.put, YL, YM, YN, i64_w, i32_w]
                          rfl
                        refine pure_ (i := 23) (N := some 121) (v := ?_) (a' := ?_) #[true, true, true, true, true, true, true, true, true, true, true, true, true, true, true, true, true, true, true, true, true, true, true, true, false, false, false, false, false, false, false, false, false, false, false, false, false] rfl rfl (any_of HT_.out (by kernel_rfl)) (fun _ _ _ h => h) (Or.inl ⟨by rfl, ?_⟩) ?_ ?_
                        rotate_left
                        · intro w'
                          go_simp; with_reducible rfl
                        rotate_left
                        · simp only [Act.put, YL, YM, YN, i64_w, i32_w]
                          rfl
                        refine pure_ (i := 24) (N := some 122) (v := ?_) (a' := ?_) #[true, true, true, true, true, true, true, true, true, true, true, true, true, true, true, true, true, true, true, true, true, true, true, true, true, false, false, false, false, false, false, false, false, false, false, false, false] rfl rfl (any_of HT_.out (by kernel_rfl)) (fun _ _ _ h => h) (Or.inl ⟨by rfl, ?_⟩) ?_ ?_
                        rotate_left
                        · intro w'
                          go_simp; with_reducible rfl
                        rotate_left
                        · simp only [Act.put, YL, YM, YN, i64_w, i32_w]
                          rfl
                        refine pure_ (i := 25) (N := some 123) (v := ?_) (a' := ?_) #[true, true, true, true, true, true, true, true, true, true, true, true, true, true, true, true, true, true, true, true, true, true, true, true, true, true, false, false, false, false, false, false, false, false, false, false, false] rfl rfl (any_of HT_.out (by kernel_rfl)) (fun _ _ _ h => h) (Or.inl ⟨by rfl, ?_⟩) ?_ ?_
                        rotate_left
                        · intro w'
                          go_simp; with_reducible rfl
                        rotate_left
                        · simp only [Act.put, YL, YM, YN, i64_w, i32_w]
                          rfl
                        refine pure_ (i := 26) (N := some 124) (v := undef) (a' := ?_) #[true, true, true, true, true, true, true, true, true, true, true, true, true, true, true, true, true, true, true, true, true, true, true, true, true, true, true, false, false, false, false, false, false, false, false, false, false] rfl rfl (any_of HT_.out (by kernel_rfl)) (fun _ _ _ h => h) (Or.inr ⟨by rfl, rfl⟩) ?_ ?_
                        rotate_left
                        · simp only [Act.put, YL, YM, YN, i64_w, i32_w]
                          rfl
                        refine pure_ (i := 27) (N := some 125) (v := undef) (a' := ?_) #[true, true, true, true, true, true, true, true, true, true, true, true, true, true, true, true, true, true, true, true, true, true, true, true, true, true, true, true, false, false, false, false, false, false, false, false, false] rfl rfl (any_of HT_.out (by kernel_rfl)) (fun _ _ _ h => h) (Or.inr ⟨by rfl, rfl⟩) ?_ ?_
                        rotate_left
                        · simp only [Act.put, YL, YM, YN, i64_w, i32_w]
                          rfl
                        refine pure_ (i := 28) (N := some 126) (v := undef) (a' := ?_) #[true, true, true, true, true, true, true, true, true, true, true, true, true, true, true, true, true, true, true, true, true, true, true, true, true, true, true, true, true, false, false, false, false, false, false, false, false] rfl rfl (any_of HT_.out (by kernel_rfl)) (fun _ _ _ h => h) (Or.inr ⟨by rfl, rfl⟩) ?_ ?_
                        rotate_left
                        · simp only [Act.put, YL, YM, YN, i64_w, i32_w]
                          rfl
                        refine pure_ (i := 29) (N := some 127) (v := undef) (a' := ?_) #[true, true, true, true, true, true, true, true, true, true, true, true, true, true, true, true, true, true, true, true, true, true, true, true, true, true, true, true, true, true, false, false, false, false, false, false, false] rfl rfl (any_of HT_.out (by kernel_rfl)) (fun _ _ _ h => h) (Or.inr ⟨by rfl, rfl⟩) ?_ ?_
                        rotate_left
                        · simp only [Act.put, YL, YM, YN, i64_w, i32_w]
                          rfl
                        refine pure_ (i := 30) (N := some 128) (v := undef) (a' := ?_) #[true, true, true, true, true, true, true, true, true, true, true, true, true, true, true, true, true, true, true, true, true, true, true, true, true, true, true, true, true, true, true, false, false, false, false, false, false] rfl rfl (any_of HT_.out (by kernel_rfl)) (fun _ _ _ h => h) (Or.inr ⟨by rfl, rfl⟩) ?_ ?_
                        rotate_left
                        · simp only [Act.put, YL, YM, YN, i64_w, i32_w]
                          rfl
                        refine pure_ (i := 31) (N := some 129) (v := undef) (a' := ?_) #[true, true, true, true, true, true, true, true, true, true, true, true, true, true, true, true, true, true, true, true, true, true, true, true, true, true, true, true, true, true, true, true, false, false, false, false, false] rfl rfl (any_of HT_.out (by kernel_rfl)) (fun _ _ _ h => h) (Or.inr ⟨by rfl, rfl⟩) ?_ ?_
                        rotate_left
                        · simp only [Act.put, YL, YM, YN, i64_w, i32_w]
                          rfl
                        refine pure_ (i := 32) (N := some 130) (v := undef) (a' := ?_) #[true, true, true, true, true, true, true, true, true, true, true, true, true, true, true, true, true, true, true, true, true, true, true, true, true, true, true, true, true, true, true, true, true, false, false, false, false] rfl rfl (any_of HT_.out (by kernel_rfl)) (fun _ _ _ h => h) (Or.inr ⟨by rfl, rfl⟩) ?_ ?_
                        rotate_left
                        · simp only [Act.put, YL, YM, YN, i64_w, i32_w]
                          rfl
                        refine pure_ (i := 33) (N := some 131) (v := undef) (a' := ?_) #[true, true, true, true, true, true, true, true, true, true, true, true, true, true, true, true, true, true, true, true, true, true, true, true, true, true, true, true, true, true, true, true, true, true, false, false, false] rfl rfl (any_of HT_.out (by kernel_rfl)) (fun _ _ _ h => h) (Or.inr ⟨by rfl, rfl⟩) ?_ ?_
                        rotate_left
                        · simp only [Act.put, YL, YM, YN, i64_w, i32_w]
                          rfl
                        refine pure_ (i := 34) (N := some 132) (v := undef) (a' := ?_) #[true, true, true, true, true, true, true, true, true, true, true, true, true, true, true, true, true, true, true, true, true, true, true, true, true, true, true, true, true, true, true, true, true, true, true, false, false] rfl rfl (any_of HT_.out (by kernel_rfl)) (fun _ _ _ h => h) (Or.inr ⟨by rfl, rfl⟩) ?_ ?_
                        rotate_left
                        · simp only [Act.put, YL, YM, YN, i64_w, i32_w]
                          rfl
                        refine pure_ (i := 35) (N := some 133) (v := ?_) (a' := ?_) #[true, true, true, true, true, true, true, true, true, true, true, true, true, true, true, true, true, true, true, true, true, true, true, true, true, true, true, true, true, true, true, true, true, true, true, true, false] rfl rfl (any_of HT_.out (by kernel_rfl)) (fun _ _ _ h => h) (Or.inl ⟨by rfl, ?_⟩) ?_ ?_
                        rotate_left
                        · intro w'
                          go_simp; with_reducible rfl
                        rotate_left
                        · simp only [Act.put, YL, YM, YN, i64_w, i32_w]
                          rfl
                        refine pure_ (i := 36) (N := some 134) (v := ?_) (a' := ?_) #[true, true, true, true, true, true, true, true, true, true, true, true, true, true, true, true, true, true, true, true, true, true, true, true, true, true, true, true, true, true, true, true, true, true, true, true, true] rfl rfl (any_of HT_.out (by kernel_rfl)) (fun _ _ _ h => h) (Or.inl ⟨by rfl, ?_⟩) ?_ ?_
                        rotate_left
                        · intro w'
                          go_simp; with_reducible rfl
                        rotate_left
                        · simp only [Act.put, YL, YM, YN, i64_w, i32_w]
                          rfl
                        refine done_ (done_of HT_.out (by kernel_rfl)) ?_
                        try go_wp2
                        go_roundg k4
                        case measure => have := HJ4.out; have := HJ13.out; have := HK3.out; have := HK4.out; omega
                        case rel => exact ⟨(wrap64 (x16_4 + 1)), (by first | rfl | (simp; done) | (simp [*]; done)), H', ⟨by have := HJ4.out; have := HJ13.out; have := HK3.out; have := HK4.out; omega⟩, ⟨by (with_reducible repeat (first | apply YR | apply YS | apply YT)); exact HO_10.out⟩, ⟨by (with_reducible repeat (first | apply YR | apply YS | apply YT)); exact HO_12.out⟩, ⟨by (with_reducible repeat (first | refine YF ?_ _ | refine YG ?_ | refine YH ?_ _)); exact BK330.out⟩, ⟨by repeat (first | (with_reducible first | exact HB.out | apply YA | apply YB | apply YC | refine below_set ?_ GE330.out) | exact HB.out)⟩⟩
                      rw [if_neg c43] at H; have c43b0 : decide (0 ≤ (rd t343 x16_4)) = false := decide_eq_false c43; clear c43
                      by_cases c55 : x14_3 = true
                      · subst c55
                        have H1 : (if x16_4 < (t347.length : Int) then (if (rd t343 x16_4) = (rd t347 x16_4) then (thalweglaw25_GraphMore.l1 k4 a0 t343 t347 true (wrap64 (x16_4 + 1))) else (none)) else (none)) = some r := by rw [if_pos rfl] at H; exact H
                        clear H
                        have H := H1
                        clear H1
                        by_cases c56 : x16_4 < (t347.length : Int)
                        rotate_left
                        · rw [if_neg c56] at H
                          exact absurd H (by simp)
                        rw [if_pos c56] at H
                        have c56b0 : decide (x16_4 < (t347.length : Int)) = true := decide_eq_true c56
                        clear c56
                        by_cases c57 : (rd t343 x16_4) = (rd t347 x16_4)
                        rotate_left
                        · rw [if_neg c57] at H
                          exact absurd H (by simp)
                        rw [if_pos c57] at H
                        have c57b0 : ((rd t343 x16_4) == (rd t347 x16_4)) = true := beq_iff_eq.mpr c57
                        have c57b1 : ((rd t343 x16_4) != (rd t347 x16_4)) = false := bne_eq_false_iff_eq.mpr c57
                        clear c57
                        have H' := YK H
                        clear H
                        try go_wp2
                        have n0_ := YK (YT HO_10.out)
                        have n1_ := YK (YT HO_12.out)
                        have n2_ := YK (YG BK330.out)
                        have n3_ := YK (YC HB.out)
                        clear HO_10; clear HO_12; clear BK330; clear HB; have HO_10 := n0_; have HO_12 := n1_; have BK330 := n2_; have HB := n3_; clear n0_ n1_ n2_ n3_
                        obtain ⟨Ao59, co59, eo59⟩ := Kd.R_slice HO_10.out
                        (first | subst eo59 | (injection eo59 with f1_ f2_ f3_; have f4_ := f1_.symm; have f5_ := f3_.symm; clear f1_ f2_ f3_; subst f4_; subst f5_))
                        have p354 : 0 ≤ (x16_4 : Int) := of_decide_eq_true (by first | (with_reducible assumption) | assumption)
                        have q354 : x16_4 < (t343.length : Int) := of_decide_eq_true (by first | (with_reducible assumption) | assumption)
                        obtain ⟨ad354, e354, hx354_0⟩ := Kd.at_int (Kd.R_reads' HO_10.out).2.2 x16_4 p354 q354
                        cases e354
                        replace p354 := eq_true p354
                        replace q354 := eq_true q354
                        have p360 : 0 ≤ (x16_4 : Int) := of_decide_eq_true (by first | (with_reducible assumption) | assumption)
                        have q360 : x16_4 < (t343.length : Int) := of_decide_eq_true (by first | (with_reducible assumption) | assumption)
                        obtain ⟨ad360, e360, hx360_0⟩ := Kd.at_int (Kd.R_reads' HO_10.out).2.2 x16_4 p360 q360
                        obtain rfl : ad354 = ad360 := (by injection e360)
                        replace p360 := eq_true p360
                        replace q360 := eq_true q360
                        obtain ⟨Ao60, co60, eo60⟩ := Kd.R_slice HO_12.out
                        (first | subst eo60 | (injection eo60 with f1_ f2_ f3_; have f4_ := f1_.symm; have f5_ := f3_.symm; clear f1_ f2_ f3_; subst f4_; subst f5_))
                        have p361 : 0 ≤ (x16_4 : Int) := of_decide_eq_true (by first | (with_reducible assumption) | assumption)
                        have q361 : x16_4 < (t347.length : Int) := of_decide_eq_true (by first | (with_reducible assumption) | assumption)
                        obtain ⟨ad361, e361, hx361_0⟩ := Kd.at_int (Kd.R_reads' HO_12.out).2.2 x16_4 p361 q361
                        cases e361
                        replace p361 := eq_true p361
                        replace q361 := eq_true q361
                        refine start_ (n := 37) (S := fun w' => w'.cell? (ad354.add (x16_4).toNat) = some (.int .i64 (rd t343 x16_4)) ∧ w'.cell? (ad354.add (x16_4).toNat) = some (.int .i64 (rd t343 x16_4)) ∧ w'.cell? (ad361.add (x16_4).toNat) = some (.int .i64 (rd t347 x16_4))) (ds := []) #[false, false, false, false, false, false, false, false, false, false, false, false, false, false, false, false, false, false, false, false, false, false, false, false, false, false, false, false, false, false, false, false, false, false, false, false, false] (by kernel_rfl) rfl rfl ⟨hx354_0, hx360_0, hx361_0⟩ (fun hHeld => ?_); refine with_tabW thalweglaw25_GraphMore.tab18 thalweglaw25_GraphMore.bits18 (fun HT_ HW_ => ?_)
                        generalize wr.drew = w58 at HO_10 HO_12 BK330 HB hx354_0 hx360_0 hx361_0 hHeld ⊢
                        refine pure_ (i := 0) (N := some 98) (v := ?_) (a' := ?_) #[true, false, false, false, false, false, false, false, false, false, false, false, false, false, false, false, false, false, false, false, false, false, false, false, false, false, false, false, false, false, false, false, false, false, false, false, false] rfl rfl (any_of HT_.out (by kernel_rfl)) (fun _ _ _ h => h) (Or.inl ⟨by rfl, ?_⟩) ?_ ?_
                        rotate_left
                        · intro w'
                          go_simp; with_reducible rfl
                        rotate_left
                        · simp only [Act.put, YL, YM, YN, i64_w, i32_w]
                          rfl
                        refine pure_ (i := 1) (N := some 99) (v := ?_) (a' := ?_) #[true, true, false, false, false, false, false, false, false, false, false, false, false, false, false, false, false, false, false, false, false, false, false, false, false, false, false, false, false, false, false, false, false, false, false, false, false] rfl rfl (any_of HT_.out (by kernel_rfl)) (fun _ _ _ h => h) (Or.inl ⟨by rfl, ?_⟩) ?_ ?_
                        rotate_left
                        · intro w'
                          go_simp; with_reducible rfl
                        rotate_left
                        · simp only [Act.put, YL, YM, YN, i64_w, i32_w]
                          rfl
                        refine pure_ (i := 2) (N := some 100) (v := ?_) (a' := ?_) #[true, true, true, false, false, false, false, false, false, false, false, false, false, false, false, false, false, false, false, false, false, false, false, false, false, false, false, false, false, false, false, false, false, false, false, false, false] rfl rfl (any_of HT_.out (by kernel_rfl)) (fun _ _ _ h => h) (Or.inl ⟨by rfl, ?_⟩) ?_ ?_
                        rotate_left
                        · intro w'
                          go_simp; with_reducible rfl
                        rotate_left
                        · simp only [Act.put, YL, YM, YN, i64_w, i32_w]
                          rfl
                        refine take_ (i := 3) (N := some 101) (v := ?_) (a' := ?_) #[true, true, true, true, false, false, false, false, false, false, false, false, false, false, false, false, false, false, false, false, false, false, false, false, false, false, false, false, false, false, false, false, false, false, false, false, false] rfl rfl (take_ofW HT_.out HW_.out (by kernel_rfl)) (fun _ _ _ h => h) (Or.inl ⟨by rfl, ?_⟩) hHeld ?_ ?_
                        rotate_left
                        · rintro w' ⟨s0, s1, s2⟩
                          go_simp; with_reducible rfl
                        rotate_left
                        · simp only [Act.put, YL, YM, YN, i64_w, i32_w]
                          rfl
                        refine pure_ (i := 4) (N := some 102) (v := ?_) (a' := ?_) #[true, true, true, true, true, false, false, false, false, false, false, false, false, false, false, false, false, false, false, false, false, false, false, false, false, false, false, false, false, false, false, false, false, false, false, false, false] rfl rfl (any_of HT_.out (by kernel_rfl)) (fun _ _ _ h => h) (Or.inl ⟨by rfl, ?_⟩) ?_ ?_
                        rotate_left
                        · intro w'
                          go_simp; with_reducible rfl
                        rotate_left
                        · simp only [Act.put, YL, YM, YN, i64_w, i32_w]
                          rfl
                        refine pure_ (i := 5) (N := some 103) (v := ?_) (a' := ?_) #[true, true, true, true, true, true, false, false, false, false, false, false, false, false, false, false, false, false, false, false, false, false, false, false, false, false, false, false, false, false, false, false, false, false, false, false, false] rfl rfl (any_of HT_.out (by kernel_rfl)) (fun _ _ _ h => h) (Or.inl ⟨by rfl, ?_⟩) ?_ ?_
                        rotate_left
                        · intro w'
                          go_simp; with_reducible rfl
                        rotate_left
                        · simp only [Act.put, YL, YM, YN, i64_w, i32_w]
                          rfl
                        refine pure_ (i := 6) (N := some 104) (v := undef) (a' := ?_) #[true, true, true, true, true, true, true, false, false, false, false, false, false, false, false, false, false, false, false, false, false, false, false, false, false, false, false, false, false, false, false, false, false, false, false, false, false] rfl rfl (any_of HT_.out (by kernel_rfl)) (fun _ _ _ h => h) (Or.inr ⟨by rfl, rfl⟩) ?_ ?_
                        rotate_left
                        · simp only [Act.put, YL, YM, YN, i64_w, i32_w]
                          rfl
                        refine pure_ (i := 7) (N := some 105) (v := undef) (a' := ?_) #[true, true, true, true, true, true, true, true, false, false, false, false, false, false, false, false, false, false, false, false, false, false, false, false, false, false, false, false, false, false, false, false, false, false, false, false, false] rfl rfl (any_of HT_.out (by kernel_rfl)) (fun _ _ _ h => h) (Or.inr ⟨by rfl, rfl⟩) ?_ ?_
                        rotate_left
                        · simp only [Act.put, YL, YM, YN, i64_w, i32_w]
                          rfl
                        refine pure_ (i := 8) (N := some 106) (v := undef) (a' := ?_) #[true, true, true, true, true, true, true, true, true, false, false, false, false, false, false, false, false, false, false, false, false, false, false, false, false, false, false, false, false, false, false, false, false, false, false, false, false] rfl rfl (any_of HT_.out (by kernel_rfl)) (fun _ _ _ h => h) (Or.inr ⟨by rfl, rfl⟩) ?_ ?_
                        rotate_left
                        · simp only [Act.put, YL, YM, YN, i64_w, i32_w]
                          rfl
                        refine pure_ (i := 9) (N := some 107) (v := undef) (a' := ?_) #[true, true, true, true, true, true, true, true, true, true, false, false, false, false, false, false, false, false, false, false, false, false, false, false, false, false, false, false, false, false, false, false, false, false, false, false, false] rfl rfl (any_of HT_.out (by kernel_rfl)) (fun _ _ _ h => h) (Or.inr ⟨by rfl, rfl⟩) ?_ ?_
                        rotate_left
                        · simp only [Act.put, YL, YM, YN, i64_w, i32_w]
                          rfl
                        refine pure_ (i := 10) (N := some 108) (v := undef) (a' := ?_) #[true, true, true, true, true, true, true, true, true, true, true, false, false, false, false, false, false, false, false, false, false, false, false, false, false, false, false, false, false, false, false, false, false, false, false, false, false] rfl rfl (any_of HT_.out (by kernel_rfl)) (fun _ _ _ h => h) (Or.inr ⟨by rfl, rfl⟩) ?_ ?_
                        rotate_left
                        · simp only [Act.put, YL, YM, YN, i64_w, i32_w]
                          rfl
                        refine pure_ (i := 11) (N := some 109) (v := undef) (a' := ?_) #[true, true, true, true, true, true, true, true, true, true, true, true, false, false, false, false, false, false, false, false, false, false, false, false, false, false, false, false, false, false, false, false, false, false, false, false, false] rfl rfl (any_of HT_.out (by kernel_rfl)) (fun _ _ _ h => h) (Or.inr ⟨by rfl, rfl⟩) ?_ ?_
                        rotate_left
                        · simp only [Act.put, YL, YM, YN, i64_w, i32_w]
                          rfl
                        refine pure_ (i := 12) (N := some 110) (v := undef) (a' := ?_) #[true, true, true, true, true, true, true, true, true, true, true, true, true, false, false, false, false, false, false, false, false, false, false, false, false, false, false, false, false, false, false, false, false, false, false, false, false] rfl rfl (any_of HT_.out (by kernel_rfl)) (fun _ _ _ h => h) (Or.inr ⟨by rfl, rfl⟩) ?_ ?_
                        rotate_left
                        · simp only [Act.put, YL, YM, YN, i64_w, i32_w]
                          rfl
                        refine pure_ (i := 13) (N := some 111) (v := undef) (a' := ?_) #[true, true, true, true, true, true, true, true, true, true, true, true, true, true, false, false, false, false, false, false, false, false, false, false, false, false, false, false, false, false, false, false, false, false, false, false, false] rfl rfl (any_of HT_.out (by kernel_rfl)) (fun _ _ _ h => h) (Or.inr ⟨by rfl, rfl⟩) ?_ ?_
                        rotate_left
                        · simp only [Act.put, YL, YM, YN, i64_w, i32_w]
                          rfl
                        refine pure_ (i := 14) (N := some 112) (v := undef) (a' := ?_) #[true, true, true, true, true, true, true, true, true, true, true, true, true, true, true, false, false, false, false, false, false, false, false, false, false, false, false, false, false, false, false, false, false, false, false, false, false] rfl rfl (any_of HT_.out (by kernel_rfl)) (fun _ _ _ h => h) (Or.inr ⟨by rfl, rfl⟩) ?_ ?_
                        rotate_left
                        · simp only [Act.put, YL, YM, YN, i64_w, i32_w]
                          rfl
                        refine pure_ (i := 15) (N := some 113) (v := undef) (a' := ?_) #[true, true, true, true, true, true, true, true, true, true, true, true, true, true, true, true, false, false, false, false, false, false, false, false, false, false, false, false, false, false, false, false, false, false, false, false, false] rfl rfl (any_of HT_.out (by kernel_rfl)) (fun _ _ _ h => h) (Or.inr ⟨by rfl, rfl⟩) ?_ ?_
                        rotate_left
                        · simp only [Act.put, YL, YM, YN, i64_w, i32_w]
                          rfl
                        refine pure_ (i := 16) (N := some 114) (v := undef) (a' := ?_) #[true, true, true, true, true, true, true, true, true, true, true, true, true, true, true, true, true, false, false, false, false, false, false, false, false, false, false, false, false, false, false, false, false, false, false, false, false] rfl rfl (any_of HT_.out (by kernel_rfl)) (fun _ _ _ h => h) (Or.inr ⟨by rfl, rfl⟩) ?_ ?_
                        rotate_left
                        · simp only [Act.put, YL, YM, YN, i64_w, i32_w]
                          rfl
                        refine pure_ (i := 17) (N := some 115) (v := undef) (a' := ?_) #[true, true, true, true, true, true, true, true, true, true, true, true, true, true, true, true, true, true, false, false, false, false, false, false, false, false, false, false, false, false, false, false, false, false, false, false, false] rfl rfl (any_of HT_.out (by kernel_rfl)) (fun _ _ _ h => h) (Or.inr ⟨by rfl, rfl⟩) ?_ ?_
                        rotate_left
                        · simp only [Act.put, YL, YM, YN, i64_w, i32_w]
                          rfl
                        refine pure_ (i := 18) (N := some 116) (v := undef) (a' := ?_) #[true, true, true, true, true, true, true, true, true, true, true, true, true, true, true, true, true, true, true, false, false, false, false, false, false, false, false, false, false, false, false, false, false, false, false, false, false] rfl rfl (any_of HT_.out (by kernel_rfl)) (fun _ _ _ h => h) (Or.inr ⟨by rfl, rfl⟩) ?_ ?_
                        rotate_left
                        · simp only [Act.put, YL, YM, YN, i64_w, i32_w]
                          rfl
                        refine pure_ (i := 19) (N := some 117) (v := undef) (a' := ?_) #[true, true, true, true, true, true, true, true, true, true, true, true, true, true, true, true, true, true, true, true, false, false, false, false, false, false, false, false, false, false, false, false, false, false, false, false, false] rfl rfl (any_of HT_.out (by kernel_rfl)) (fun _ _ _ h => h) (Or.inr ⟨by rfl, rfl⟩) ?_ ?_
                        rotate_left
                        · simp only [Act.put, YL, YM, YN, i64_w, i32_w]
                          rfl
                        refine pure_ (i := 20) (N := some 118) (v := undef) (a' := ?_) #[true, true, true, true, true, true, true, true, true, true, true, true, true, true, true, true, true, true, true, true, true, false, false, false, false, false, false, false, false, false, false, false, false, false, false, false, false] rfl rfl (any_of HT_.out (by kernel_rfl)) (fun _ _ _ h => h) (Or.inr ⟨by rfl, rfl⟩) ?_ ?_
                        rotate_left
                        · simp only [Act.put, YL, YM, YN, i64_w, i32_w]
                          rfl
                        refine pure_ (i := 21) (N := some 119) (v := undef) (a' := ?_) #[true, true, true, true, true, true, true, true, true, true, true, true, true, true, true, true, true, true, true, true, true, true, false, false, false, false, false, false, false, false, false, false, false, false, false, false, false] rfl rfl (any_of HT_.out (by kernel_rfl)) (fun _ _ _ h => h) (Or.inr ⟨by rfl, rfl⟩) ?_ ?_
                        rotate_left
                        · simp only [Act.put, YL, YM, YN, i64_w, i32_w]
                          rfl
                        refine pure_ (i := 22) (N := some 120) (v := ?_) (a' := ?_) #[true, true, true, true, true, true, true, true, true, true, true, true, true, true, true, true, true, true, true, true, true, true, true, false, false, false, false, false, false, false, false, false, false, false, false, false, false] rfl rfl (any_of HT_.out (by kernel_rfl)) (fun _ _ _ h => h) (Or.inl ⟨by rfl, ?_⟩) ?_ ?_
                        rotate_left
                        · intro w'
                          go_simp; with_reducible rfl
                        rotate_left
                        · simp only [Act.put, YL, YM, YN, i64_w, i32_w]
                          rfl
                        refine pure_ (i := 23) (N := some 121) (v := ?_) (a' := ?_) #[true, true, true, true, true, true, true, true, true, true, true, true, true, true, true, true, true, true, true, true, true, true, true, true, false, false, false, false, false, false, false, false, false, false, false, false, false] rfl rfl (any_of HT_.out (by kernel_rfl)) (fun _ _ _ h => h) (Or.inl ⟨by rfl, ?_⟩) ?_ ?_
                        rotate_left
                        · intro w'
                          go_simp; with_reducible rfl
                        rotate_left
                        · simp only [Act.put, YL, YM, YN, i64_w, i32_w]
                          rfl
                        refine pure_ (i := 24) (N := some 122) (v := ?_) (a' := ?_) #[true, true, true, true, true, true, true, true, true, true, true, true, true, true, true, true, true, true, true, true, true, true, true, true, true, false, false, false, false, false, false, false, false, false, false, false, false] rfl rfl (any_of HT_.out (by kernel_rfl)) (fun _ _ _ h => h) (Or.inl ⟨by rfl, ?_⟩) ?_ ?_
                        rotate_left
                        · intro w'
                          go_simp; with_reducible rfl
                        rotate_left
                        · simp only [Act.put, YL, YM, YN, i64_w, i32_w]
                          rfl
                        refine pure_ (i := 25) (N := some 123) (v := ?_) (a' := ?_) #[true, true, true, true, true, true, true, true, true, true, true, true, true, true, true, true, true, true, true, true, true, true, true, true, true, true, false, false, false, false, false, false, false, false, false, false, false] rfl rfl (any_of HT_.out (by kernel_rfl)) (fun _ _ _ h => h) (Or.inl ⟨by rfl, ?_⟩) ?_ ?_
                        rotate_left
                        · intro w'
                          go_simp; with_reducible rfl
                        rotate_left
                        · simp only [Act.put, YL, YM, YN, i64_w, i32_w]
                          rfl
                        refine pure_ (i := 26) (N := some 124) (v := ?_) (a' := ?_) #[true, true, true, true, true, true, true, true, true, true, true, true, true, true, true, true, true, true, true, true, true, true, true, true, true, true, true, false, false, false, false, false, false, false, false, false, false] rfl rfl (any_of HT_.out (by kernel_rfl)) (fun _ _ _ h => h) (Or.inl ⟨by rfl, ?_⟩) ?_ ?_
                        rotate_left
                        · intro w'
                          go_simp; with_reducible rfl
                        rotate_left
                        · simp only [Act.put, YL, YM, YN, i64_w, i32_w]
                          rfl
                        refine pure_ (i := 27) (N := some 125) (v := ?_) (a' := ?_) #[true, true, true, true, true, true, true, true, true, true, true, true, true, true, true, true, true, true, true, true, true, true, true, true, true, true, true, true, false, false, false, false, false, false, false, false, false] rfl rfl (any_of HT_.out (by kernel_rfl)) (fun _ _ _ h => h) (Or.inl ⟨by rfl, ?_⟩) ?_ ?_
                        rotate_left
                        · intro w'
                          go_simp; with_reducible rfl
                        rotate_left
                        · simp only [Act.put, YL, YM, YN, i64_w, i32_w]
                          rfl
                        refine pure_ (i := 28) (N := some 126) (v := ?_) (a' := ?_) #[true, true, true, true, true, true, true, true, true, true, true, true, true, true, true, true, true, true, true, true, true, true, true, true, true, true, true, true, true, false, false, false, false, false, false, false, false] rfl rfl (any_of HT_.out (by kernel_rfl)) (fun _ _ _ h => h) (Or.inl ⟨by rfl, ?_⟩) ?_ ?_
                        rotate_left
                        · intro w'
                          go_simp; with_reducible rfl
                        rotate_left
                        · simp only [Act.put, YL, YM, YN, i64_w, i32_w]
                          rfl
                        refine pure_ (i := 30) (N := some 128) (v := ?_) (a' := ?_) #[true, true, true, true, true, true, true, true, true, true, true, true, true, true, true, true, true, true, true, true, true, true, true, true, true, true, true, true, true, false, true, false, false, false, false, false, false] rfl rfl (any_of HT_.out (by kernel_rfl)) (fun _ _ _ h => h) (Or.inl ⟨by rfl, ?_⟩) ?_ ?_
                        rotate_left
                        · intro w'
                          go_simp; with_reducible rfl
                        rotate_left
                        · simp only [Act.put, YL, YM, YN, i64_w, i32_w]
                          rfl
                        refine pure_ (i := 31) (N := some 129) (v := ?_) (a' := ?_) #[true, true, true, true, true, true, true, true, true, true, true, true, true, true, true, true, true, true, true, true, true, true, true, true, true, true, true, true, true, false, true, true, false, false, false, false, false] rfl rfl (any_of HT_.out (by kernel_rfl)) (fun _ _ _ h => h) (Or.inl ⟨by rfl, ?_⟩) ?_ ?_
                        rotate_left
                        · intro w'
                          go_simp; with_reducible rfl
                        rotate_left
                        · simp only [Act.put, YL, YM, YN, i64_w, i32_w]
                          rfl
                        refine pure_ (i := 32) (N := some 130) (v := ?_) (a' := ?_) #[true, true, true, true, true, true, true, true, true, true, true, true, true, true, true, true, true, true, true, true, true, true, true, true, true, true, true, true, true, false, true, true, true, false, false, false, false] rfl rfl (any_of HT_.out (by kernel_rfl)) (fun _ _ _ h => h) (Or.inl ⟨by rfl, ?_⟩) ?_ ?_
                        rotate_left
                        · intro w'
                          go_simp; with_reducible rfl
                        rotate_left
                        · simp only [Act.put, YL, YM, YN, i64_w, i32_w]
                          rfl
                        refine take_ (i := 29) (N := some 127) (v := ?_) (a' := ?_) #[true, true, true, true, true, true, true, true, true, true, true, true, true, true, true, true, true, true, true, true, true, true, true, true, true, true, true, true, true, true, true, true, true, false, false, false, false] rfl rfl (take_ofW HT_.out HW_.out (by kernel_rfl)) (fun _ _ _ h => h) (Or.inl ⟨by rfl, ?_⟩) hHeld ?_ ?_
                        rotate_left
                        · rintro w' ⟨s0, s1, s2⟩
                          go_simp; with_reducible rfl
                        rotate_left
                        · simp only [Act.put, YL, YM, YN, i64_w, i32_w]
                          rfl
                        refine take_ (i := 33) (N := some 131) (v := ?_) (a' := ?_) #[true, true, true, true, true, true, true, true, true, true, true, true, true, true, true, true, true, true, true, true, true, true, true, true, true, true, true, true, true, true, true, true, true, true, false, false, false] rfl rfl (take_ofW HT_.out HW_.out (by kernel_rfl)) (fun _ _ _ h => h) (Or.inl ⟨by rfl, ?_⟩) hHeld ?_ ?_
                        rotate_left
                        · rintro w' ⟨s0, s1, s2⟩
                          go_simp; with_reducible rfl
                        rotate_left
                        · simp only [Act.put, YL, YM, YN, i64_w, i32_w]
                          rfl
                        refine pure_ (i := 34) (N := some 132) (v := ?_) (a' := ?_) #[true, true, true, true, true, true, true, true, true, true, true, true, true, true, true, true, true, true, true, true, true, true, true, true, true, true, true, true, true, true, true, true, true, true, true, false, false] rfl rfl (any_of HT_.out (by kernel_rfl)) (fun _ _ _ h => h) (Or.inl ⟨by rfl, ?_⟩) ?_ ?_
                        rotate_left
                        · intro w'
                          go_simp; with_reducible rfl
                        rotate_left
                        · simp only [Act.put, YL, YM, YN, i64_w, i32_w]
                          rfl
                        refine pure_ (i := 35) (N := some 133) (v := ?_) (a' := ?_) #[true, true, true, true, true, true, true, true, true, true, true, true, true, true, true, true, true, true, true, true, true, true, true, true, true, true, true, true, true, true, true, true, true, true, true, true, false] rfl rfl (any_of HT_.out (by kernel_rfl)) (fun _ _ _ h => h) (Or.inl ⟨by rfl, ?_⟩) ?_ ?_
                        rotate_left
                        · intro w'
                          go_simp; with_reducible rfl
                        rotate_left
                        · simp only [Act.put, YL, YM, YN, i64_w, i32_w]
                          rfl
                        refine pure_ (i := 36) (N := some 134) (v := ?_) (a' := ?_) #[true, true, true, true, true, true, true, true, true, true, true, true, true, true, true, true, true, true, true, true, true, true, true, true, true, true, true, true, true, true, true, true, true, true, true, true, true] rfl rfl (any_of HT_.out (by kernel_rfl)) (fun _ _ _ h => h) (Or.inl ⟨by rfl, ?_⟩) ?_ ?_
                        rotate_left
                        · intro w'
                          go_simp; with_reducible rfl
                        rotate_left
                        · simp only [Act.put, YL, YM, YN, i64_w, i32_w]
                          rfl
                        refine done_ (done_of HT_.out (by kernel_rfl)) ?_
                        try go_wp2
                        go_roundg k4
                        case measure => have := HJ4.out; have := HJ13.out; have := HK3.out; have := HK4.out; omega
                        case rel => exact ⟨(wrap64 (x16_4 + 1)), (by first | rfl | (simp; done) | (simp [*]; done)), H', ⟨by have := HJ4.out; have := HJ13.out; have := HK3.out; have := HK4.out; omega⟩, ⟨by (with_reducible repeat (first | apply YR | apply YS | apply YT)); exact HO_10.out⟩, ⟨by (with_reducible repeat (first | apply YR | apply YS | apply YT)); exact HO_12.out⟩, ⟨by (with_reducible repeat (first | refine YF ?_ _ | refine YG ?_ | refine YH ?_ _)); exact BK330.out⟩, ⟨by repeat (first | (with_reducible first | exact HB.out | apply YA | apply YB | apply YC | refine below_set ?_ GE330.out) | exact HB.out)⟩⟩
                      replace c55 := Bool.eq_false_iff.mpr c55
                      subst c55
                      have H1 : (thalweglaw25_GraphMore.l1 k4 a0 t343 t347 false (wrap64 (x16_4 + 1))) = some r := by rw [if_neg (show ¬ (false = true) by decide)] at H; exact H
                      clear H
                      have H := H1
                      clear H1
                      have H' := YK H
                      clear H
                      try go_wp2
                      have n0_ := YK (YT HO_10.out)
                      have n1_ := YK (YT HO_12.out)
                      have n2_ := YK (YG BK330.out)
                      have n3_ := YK (YC HB.out)
                      clear HO_10; clear HO_12; clear BK330; clear HB; have HO_10 := n0_; have HO_12 := n1_; have BK330 := n2_; have HB := n3_; clear n0_ n1_ n2_ n3_
                      obtain ⟨Ao62, co62, eo62⟩ := Kd.R_slice HO_10.out
                      (first | subst eo62 | (injection eo62 with f1_ f2_ f3_; have f4_ := f1_.symm; have f5_ := f3_.symm; clear f1_ f2_ f3_; subst f4_; subst f5_))
                      have p354 : 0 ≤ (x16_4 : Int) := of_decide_eq_true (by first | (with_reducible assumption) | assumption)
                      have q354 : x16_4 < (t343.length : Int) := of_decide_eq_true (by first | (with_reducible assumption) | assumption)
                      obtain ⟨ad354, e354, hx354_0⟩ := Kd.at_int (Kd.R_reads' HO_10.out).2.2 x16_4 p354 q354
                      cases e354
                      replace p354 := eq_true p354
                      replace q354 := eq_true q354
                      refine start_ (n := 37) (S := fun w' => w'.cell? (ad354.add (x16_4).toNat) = some (.int .i64 (rd t343 x16_4))) (ds := []) #[false, false, false, false, false, false, false, false, false, false, false, false, false, false, false, false, false, false, false, false, false, false, false, false, false, false, false, false, false, false, false, false, false, false, false, false, false] (by kernel_rfl) rfl rfl (hx354_0) (fun hHeld => ?_); refine with_tabW thalweglaw25_GraphMore.tab18 thalweglaw25_GraphMore.bits18 (fun HT_ HW_ => ?_)
                      generalize wr.drew = w61 at HO_10 HO_12 BK330 HB hx354_0 hHeld ⊢
                      refine pure_ (i := 0) (N := some 98) (v := ?_) (a' := ?_) #[true, false, false, false, false, false, false, false, false, false, false, false, false, false, false, false, false, false, false, false, false, false, false, false, false, false, false, false, false, false, false, false, false, false, false, false, false] rfl rfl (any_of HT_.out (by kernel_rfl)) (fun _ _ _ h => h) (Or.inl ⟨by rfl, ?_⟩) ?_ ?_
                      rotate_left
                      · intro w'
                        go_simp; with_reducible rfl
                      rotate_left
                      · simp only [Act.put, YL, YM, YN, i64_w, i32_w]
                        rfl
                      refine pure_ (i := 1) (N := some 99) (v := ?_) (a' := ?_) #[true, true, false, false, false, false, false, false, false, false, false, false, false, false, false, false, false, false, false, false, false, false, false, false, false, false, false, false, false, false, false, false, false, false, false, false, false] rfl rfl (any_of HT_.out (by kernel_rfl)) (fun _ _ _ h => h) (Or.inl ⟨by rfl, ?_⟩) ?_ ?_
                      rotate_left
                      · intro w'
                        go_simp; with_reducible rfl
                      rotate_left
                      · simp only [Act.put, YL, YM, YN, i64_w, i32_w]
                        rfl
                      refine pure_ (i := 2) (N := some 100) (v := ?_) (a' := ?_) #[true, true, true, false, false, false, false, false, false, false, false, false, false, false, false, false, false, false, false, false, false, false, false, false, false, false, false, false, false, false, false, false, false, false, false, false, false] rfl rfl (any_of HT_.out (by kernel_rfl)) (fun _ _ _ h => h) (Or.inl ⟨by rfl, ?_⟩) ?_ ?_
                      rotate_left
                      · intro w'
                        go_simp; with_reducible rfl
                      rotate_left
                      · simp only [Act.put, YL, YM, YN, i64_w, i32_w]
                        rfl
                      refine take_ (i := 3) (N := some 101) (v := ?_) (a' := ?_) #[true, true, true, true, false, false, false, false, false, false, false, false, false, false, false, false, false, false, false, false, false, false, false, false, false, false, false, false, false, false, false, false, false, false, false, false, false] rfl rfl (take_ofW HT_.out HW_.out (by kernel_rfl)) (fun _ _ _ h => h) (Or.inl ⟨by rfl, ?_⟩) hHeld ?_ ?_
                      rotate_left
                      · intro w' s0
                        go_simp; with_reducible rfl
                      rotate_left
                      · simp only [Act.put, YL, YM, YN, i64_w, i32_w]
                        rfl
                      refine pure_ (i := 4) (N := some 102) (v := ?_) (a' := ?_) #[true, true, true, true, true, false, false, false, false, false, false, false, false, false, false, false, false, false, false, false, false, false, false, false, false, false, false, false, false, false, false, false, false, false, false, false, false] rfl rfl (any_of HT_.out (by kernel_rfl)) (fun _ _ _ h => h) (Or.inl ⟨by rfl, ?_⟩) ?_ ?_
                      rotate_left
                      · intro w'
                        go_simp; with_reducible rfl
                      rotate_left
                      · simp only [Act.put, YL, YM, YN, i64_w, i32_w]
                        rfl
                      refine pure_ (i := 5) (N := some 103) (v := ?_) (a' := ?_) #[true, true, true, true, true, true, false, false, false, false, false, false, false, false, false, false, false, false, false, false, false, false, false, false, false, false, false, false, false, false, false, false, false, false, false, false, false] rfl rfl (any_of HT_.out (by kernel_rfl)) (fun _ _ _ h => h) (Or.inl ⟨by rfl, ?_⟩) ?_ ?_
                      rotate_left
                      · intro w'
                        go_simp; with_reducible rfl
                      rotate_left
                      · simp only [Act.put, YL, YM, YN, i64_w, i32_w]
                        rfl
                      refine pure_ (i := 6) (N := some 104) (v := undef) (a' := ?_) #[true, true, true, true, true, true, true, false, false, false, false, false, false, false, false, false, false, false, false, false, false, false, false, false, false, false, false, false, false, false, false, false, false, false, false, false, false] rfl rfl (any_of HT_.out (by kernel_rfl)) (fun _ _ _ h => h) (Or.inr ⟨by rfl, rfl⟩) ?_ ?_
                      rotate_left
                      · simp only [Act.put, YL, YM, YN, i64_w, i32_w]
                        rfl
                      refine pure_ (i := 7) (N := some 105) (v := undef) (a' := ?_) #[true, true, true, true, true, true, true, true, false, false, false, false, false, false, false, false, false, false, false, false, false, false, false, false, false, false, false, false, false, false, false, false, false, false, false, false, false] rfl rfl (any_of HT_.out (by kernel_rfl)) (fun _ _ _ h => h) (Or.inr ⟨by rfl, rfl⟩) ?_ ?_
                      rotate_left
                      · simp only [Act.put, YL, YM, YN, i64_w, i32_w]
                        rfl
                      refine pure_ (i := 8) (N := some 106) (v := undef) (a' := ?_) #[true, true, true, true, true, true, true, true, true, false, false, false, false, false, false, false, false, false, false, false, false, false, false, false, false, false, false, false, false, false, false, false, false, false, false, false, false] rfl rfl (any_of HT_.out (by kernel_rfl)) (fun _ _ _ h => h) (Or.inr ⟨by rfl, rfl⟩) ?_ ?_
                      rotate_left
                      · simp only [Act.put, YL, YM, YN, i64_w, i32_w]
                        rfl
                      refine pure_ (i := 9) (N := some 107) (v := undef) (a' := ?_) #[true, true, true, true, true, true, true, true, true, true, false, false, false, false, false, false, false, false, false, false, false, false, false, false, false, false, false, false, false, false, false, false, false, false, false, false, false] rfl rfl (any_of HT_.out (by kernel_rfl)) (fun _ _ _ h => h) (Or.inr ⟨by rfl, rfl⟩) ?_ ?_
                      rotate_left
                      · simp only [Act.put, YL, YM, YN, i64_w, i32_w]
                        rfl
                      refine pure_ (i := 10) (N := some 108) (v := undef) (a' := ?_) #[true, true, true, true, true, true, true, true, true, true, true, false, false, false, false, false, false, false, false, false, false, false, false, false, false, false, false, false, false, false, false, false, false, false, false, false, false] rfl rfl (any_of HT_.out (by kernel_rfl)) (fun _ _ _ h => h) (Or.inr ⟨by rfl, rfl⟩) ?_ ?_
                      rotate_left
                      · simp only [Act.put, YL, YM, YN, i64_w, i32_w]
                        rfl
                      refine pure_ (i := 11) (N := some 109) (v := undef) (a' := ?_) #[true, true, true, true, true, true, true, true, true, true, true, true, false, false, false, false, false, false, false, false, false, false, false, false, false, false, false, false, false, false, false, false, false, false, false, false, false] rfl rfl (any_of HT_.out (by kernel_rfl)) (fun _ _ _ h => h) (Or.inr ⟨by rfl, rfl⟩) ?_ ?_
                      rotate_left
                      · simp only [Act.put, YL, YM, YN, i64_w, i32_w]
                        rfl
                      refine pure_ (i := 12) (N := some 110) (v := undef) (a' := ?_) #[true, true, true, true, true, true, true, true, true, true, true, true, true, false, false, false, false, false, false, false, false, false, false, false, false, false, false, false, false, false, false, false, false, false, false, false, false] rfl rfl (any_of HT_.out (by kernel_rfl)) (fun _ _ _ h => h) (Or.inr ⟨by rfl, rfl⟩) ?_ ?_
                      rotate_left
                      · simp only [Act.put, YL, YM, YN, i64_w, i32_w]
                        rfl
                      refine pure_ (i := 13) (N := some 111) (v := undef) (a' := ?_) #[true, true, true, true, true, true, true, true, true, true, true, true, true, true, false, false, false, false, false, false, false, false, false, false, false, false, false, false, false, false, false, false, false, false, false, false, false] rfl rfl (any_of HT_.out (by kernel_rfl)) (fun _ _ _ h => h) (Or.inr ⟨by rfl, rfl⟩) ?_ ?_
                      rotate_left
                      · simp only [Act.put, YL, YM, YN, i64_w, i32_w]
                        rfl
                      refine pure_ (i := 14) (N := some 112) (v := undef) (a' := ?_) #[true, true, true, true, true, true, true, true, true, true, true, true, true, true, true, false, false, false, false, false, false, false, false, false, false, false, false, false, false, false, false, false, false, false, false, false, false] rfl rfl (any_of HT_.out (by kernel_rfl)) (fun _ _ _ h => h) (Or.inr ⟨by rfl, rfl⟩) ?_ ?_
                      rotate_left
                      · simp only [Act.put, YL, YM, YN, i64_w, i32_w]
                        rfl
                      refine pure_ (i := 15) (N := some 113) (v := undef) (a' := ?_) #[true, true, true, true, true, true, true, true, true, true, true, true, true, true, true, true, false, false, false, false, false, false, false, false, false, false, false, false, false, false, false, false, false, false, false, false, false] rfl rfl (any_of HT_.out (by kernel_rfl)) (fun _ _ _ h => h) (Or.inr ⟨by rfl, rfl⟩) ?_ ?_
                      rotate_left
                      · simp only [Act.put, YL, YM, YN, i64_w, i32_w]
                        rfl
                      refine pure_ (i := 16) (N := some 114) (v := undef) (a' := ?_) #[true, true, true, true, true, true, true, true, true, true, true, true, true, true, true, true, true, false, false, false, false, false, false, false, false, false, false, false, false, false, false, false, false, false, false, false, false] rfl rfl (any_of HT_.out (by kernel_rfl)) (fun _ _ _ h => h) (Or.inr ⟨by rfl, rfl⟩) ?_ ?_
                      rotate_left
                      · simp only [Act.put, YL, YM, YN, i64_w, i32_w]
                        rfl
                      refine pure_ (i := 17) (N := some 115) (v := undef) (a' := ?_) #[true, true, true, true, true, true, true, true, true, true, true, true, true, true, true, true, true, true, false, false, false, false, false, false, false, false, false, false, false, false, false, false, false, false, false, false, false] rfl rfl (any_of HT_.out (by kernel_rfl)) (fun _ _ _ h => h) (Or.inr ⟨by rfl, rfl⟩) ?_ ?_
                      rotate_left
                      · simp only [Act.put, YL, YM, YN, i64_w, i32_w]
                        rfl
                      refine pure_ (i := 18) (N := some 116) (v := undef) (a' := ?_) #[true, true, true, true, true, true, true, true, true, true, true, true, true, true, true, true, true, true, true, false, false, false, false, false, false, false, false, false, false, false, false, false, false, false, false, false, false] rfl rfl (any_of HT_.out (by kernel_rfl)) (fun _ _ _ h => h) (Or.inr ⟨by rfl, rfl⟩) ?_ ?_
                      rotate_left
                      · simp only [Act.put, YL, YM, YN, i64_w, i32_w]
                        rfl
                      refine pure_ (i := 19) (N := some 117) (v := undef) (a' := ?_) #[true, true, true, true, true, true, true, true, true, true, true, true, true, true, true, true, true, true, true, true, false, false, false, false, false, false, false, false, false, false, false, false, false, false, false, false, false] rfl rfl (any_of HT_.out (by kernel_rfl)) (fun _ _ _ h => h) (Or.inr ⟨by rfl, rfl⟩) ?_ ?_
                      rotate_left
                      · simp only [Act.put, YL, YM, YN, i64_w, i32_w]
                        rfl
                      refine pure_ (i := 20) (N := some 118) (v := undef) (a' := ?_) #[true, true, true, true, true, true, true, true, true, true, true, true, true, true, true, true, true, true, true, true, true, false, false, false, false, false, false, false, false, false, false, false, false, false, false, false, false] rfl rfl (any_of HT_.out (by kernel_rfl)) (fun _ _ _ h => h) (Or.inr ⟨by rfl, rfl⟩) ?_ ?_
                      rotate_left
                      · simp only [Act.put, YL, YM, YN, i64_w, i32_w]
                        rfl
                      refine pure_ (i := 21) (N := some 119) (v := undef) (a' := ?_) #[true, true, true, true, true, true, true, true, true, true, true, true, true, true, true, true, true, true, true, true, true, true, false, false, false, false, false, false, false, false, false, false, false, false, false, false, false] rfl rfl (any_of HT_.out (by kernel_rfl)) (fun _ _ _ h => h) (Or.inr ⟨by rfl, rfl⟩) ?_ ?_
                      rotate_left
                      · simp only [Act.put, YL, YM, YN, i64_w, i32_w]
                        rfl
                      refine pure_ (i := 22) (N := some 120) (v := ?_) (a' := ?_) #[true, true, true, true, true, true, true, true, true, true, true, true, true, true, true, true, true, true, true, true, true, true, true, false, false, false, false, false, false, false, false, false, false, false, false, false, false] rfl rfl (any_of HT_.out (by kernel_rfl)) (fun _ _ _ h => h) (Or.inl ⟨by rfl, ?_⟩) ?_ ?_
                      rotate_left
                      · intro w'
                        go_simp; with_reducible rfl
                      rotate_left
                      · simp only [Act.put, YL, YM, YN, i64_w, i32_w]
                        rfl
                      refine pure_ (i := 23) (N := some 121) (v := ?_) (a' := ?_) #[true, true, true, true, true, true, true, true, true, true, true, true, true, true, true, true, true, true, true, true, true, true, true, true, false, false, false, false, false, false, false, false, false, false, false, false, false] rfl rfl (any_of HT_.out (by kernel_rfl)) (fun _ _ _ h => h) (Or.inl ⟨by rfl, ?_⟩) ?_ ?_
                      rotate_left
                      · intro w'
                        go_simp; with_reducible rfl
                      rotate_left
                      · simp only [Act.put, YL, YM, YN, i64_w, i32_w]
                        rfl
                      refine pure_ (i := 24) (N := some 122) (v := ?_) (a' := ?_) #[true, true, true, true, true, true, true, true, true, true, true, true, true, true, true, true, true, true, true, true, true, true, true, true, true, false, false, false, false, false, false, false, false, false, false, false, false] rfl rfl (any_of HT_.out (by kernel_rfl)) (fun _ _ _ h => h) (Or.inl ⟨by rfl, ?_⟩) ?_ ?_
                      rotate_left
                      · intro w'
                        go_simp; with_reducible rfl
                      rotate_left
                      · simp only [Act.put, YL, YM, YN, i64_w, i32_w]
                        rfl
                      refine pure_ (i := 25) (N := some 123) (v := ?_) (a' := ?_) #[true, true, true, true, true, true, true, true, true, true, true, true, true, true, true, true, true, true, true, true, true, true, true, true, true, true, false, false, false, false, false, false, false, false, false, false, false] rfl rfl (any_of HT_.out (by kernel_rfl)) (fun _ _ _ h => h) (Or.inl ⟨by rfl, ?_⟩) ?_ ?_
                      rotate_left
                      · intro w'
                        go_simp; with_reducible rfl
                      rotate_left
                      · simp only [Act.put, YL, YM, YN, i64_w, i32_w]
                        rfl
                      refine pure_ (i := 26) (N := some 124) (v := undef) (a' := ?_) #[true, true, true, true, true, true, true, true, true, true, true, true, true, true, true, true, true, true, true, true, true, true, true, true, true, true, true, false, false, false, false, false, false, false, false, false, false] rfl rfl (any_of HT_.out (by kernel_rfl)) (fun _ _ _ h => h) (Or.inr ⟨by rfl, rfl⟩) ?_ ?_
                      rotate_left
                      · simp only [Act.put, YL, YM, YN, i64_w, i32_w]
                        rfl
                      refine pure_ (i := 27) (N := some 125) (v := undef) (a' := ?_) #[true, true, true, true, true, true, true, true, true, true, true, true, true, true, true, true, true, true, true, true, true, true, true, true, true, true, true, true, false, false, false, false, false, false, false, false, false] rfl rfl (any_of HT_.out (by kernel_rfl)) (fun _ _ _ h => h) (Or.inr ⟨by rfl, rfl⟩) ?_ ?_
                      rotate_left
                      · simp only [Act.put, YL, YM, YN, i64_w, i32_w]
                        rfl
                      refine pure_ (i := 28) (N := some 126) (v := undef) (a' := ?_) #[true, true, true, true, true, true, true, true, true, true, true, true, true, true, true, true, true, true, true, true, true, true, true, true, true, true, true, true, true, false, false, false, false, false, false, false, false] rfl rfl (any_of HT_.out (by kernel_rfl)) (fun _ _ _ h => h) (Or.inr ⟨by rfl, rfl⟩) ?_ ?_
                      rotate_left
                      · simp only [Act.put, YL, YM, YN, i64_w, i32_w]
                        rfl
                      refine pure_ (i := 29) (N := some 127) (v := undef) (a' := ?_) #[true, true, true, true, true, true, true, true, true, true, true, true, true, true, true, true, true, true, true, true, true, true, true, true, true, true, true, true, true, true, false, false, false, false, false, false, false] rfl rfl (any_of HT_.out (by kernel_rfl)) (fun _ _ _ h => h) (Or.inr ⟨by rfl, rfl⟩) ?_ ?_
                      rotate_left
                      · simp only [Act.put, YL, YM, YN, i64_w, i32_w]
                        rfl
                      refine pure_ (i := 30) (N := some 128) (v := undef) (a' := ?_) #[true, true, true, true, true, true, true, true, true, true, true, true, true, true, true, true, true, true, true, true, true, true, true, true, true, true, true, true, true, true, true, false, false, false, false, false, false] rfl rfl (any_of HT_.out (by kernel_rfl)) (fun _ _ _ h => h) (Or.inr ⟨by rfl, rfl⟩) ?_ ?_
                      rotate_left
                      · simp only [Act.put, YL, YM, YN, i64_w, i32_w]
                        rfl
                      refine pure_ (i := 31) (N := some 129) (v := undef) (a' := ?_) #[true, true, true, true, true, true, true, true, true, true, true, true, true, true, true, true, true, true, true, true, true, true, true, true, true, true, true, true, true, true, true, true, false, false, false, false, false] rfl rfl (any_of HT_.out (by kernel_rfl)) (fun _ _ _ h => h) (Or.inr ⟨by rfl, rfl⟩) ?_ ?_
                      rotate_left
                      · simp only [Act.put, YL, YM, YN, i64_w, i32_w]
                        rfl
                      refine pure_ (i := 32) (N := some 130) (v := undef) (a' := ?_) #[true, true, true, true, true, true, true, true, true, true, true, true, true, true, true, true, true, true, true, true, true, true, true, true, true, true, true, true, true, true, true, true, true, false, false, false, false] rfl rfl (any_of HT_.out (by kernel_rfl)) (fun _ _ _ h => h) (Or.inr ⟨by rfl, rfl⟩) ?_ ?_
                      rotate_left
                      · simp only [Act.put, YL, YM, YN, i64_w, i32_w]
                        rfl
                      refine pure_ (i := 33) (N := some 131) (v := undef) (a' := ?_) #[true, true, true, true, true, true, true, true, true, true, true, true, true, true, true, true, true, true, true, true, true, true, true, true, true, true, true, true, true, true, true, true, true, true, false, false, false] rfl rfl (any_of HT_.out (by kernel_rfl)) (fun _ _ _ h => h) (Or.inr ⟨by rfl, rfl⟩) ?_ ?_
                      rotate_left
                      · simp only [Act.put, YL, YM, YN, i64_w, i32_w]
                        rfl
                      refine pure_ (i := 34) (N := some 132) (v := undef) (a' := ?_) #[true, true, true, true, true, true, true, true, true, true, true, true, true, true, true, true, true, true, true, true, true, true, true, true, true, true, true, true, true, true, true, true, true, true, true, false, false] rfl rfl (any_of HT_.out (by kernel_rfl)) (fun _ _ _ h => h) (Or.inr ⟨by rfl, rfl⟩) ?_ ?_
                      rotate_left
                      · simp only [Act.put, YL, YM, YN, i64_w, i32_w]
                        rfl
                      refine pure_ (i := 35) (N := some 133) (v := ?_) (a' := ?_) #[true, true, true, true, true, true, true, true, true, true, true, true, true, true, true, true, true, true, true, true, true, true, true, true, true, true, true, true, true, true, true, true, true, true, true, true, false] rfl rfl (any_of HT_.out (by kernel_rfl)) (fun _ _ _ h => h) (Or.inl ⟨by rfl, ?_⟩) ?_ ?_
                      rotate_left
                      · intro w'
                        go_simp; with_reducible rfl
                      rotate_left
                      · simp only [Act.put, YL, YM, YN, i64_w, i32_w]
                        rfl
                      refine pure_ (i := 36) (N := some 134) (v := ?_) (a' := ?_) #[true, true, true, true, true, true, true, true, true, true, true, true, true, true, true, true, true, true, true, true, true, true, true, true, true, true, true, true, true, true, true, true, true, true, true, true, true] rfl rfl (any_of HT_.out (by kernel_rfl)) (fun _ _ _ h => h) (Or.inl ⟨by rfl, ?_⟩) ?_ ?_
                      rotate_left
                      · intro w'
                        go_simp; with_reducible rfl
                      rotate_left
                      · simp only [Act.put, YL, YM, YN, i64_w, i32_w]
                        rfl
                      refine done_ (done_of HT_.out (by kernel_rfl)) ?_
                      try go_wp2
                      go_roundg k4
                      case measure => have := HJ4.out; have := HJ13.out; have := HK3.out; have := HK4.out; omega
                      case rel => exact ⟨(wrap64 (x16_4 + 1)), (by first | rfl | (simp; done) | (simp [*]; done)), H', ⟨by have := HJ4.out; have := HJ13.out; have := HK3.out; have := HK4.out; omega⟩, ⟨by (with_reducible repeat (first | apply YR | apply YS | apply YT)); exact HO_10.out⟩, ⟨by (with_reducible repeat (first | apply YR | apply YS | apply YT)); exact HO_12.out⟩, ⟨by (with_reducible repeat (first | refine YF ?_ _ | refine YG ?_ | refine YH ?_ _)); exact BK330.out⟩, ⟨by repeat (first | (with_reducible first | exact HB.out | apply YA | apply YB | apply YC | refine below_set ?_ GE330.out) | exact HB.out)⟩⟩
                    rw [if_neg c40] at H; have c40b0 : decide (x16_4 < a0) = false := decide_eq_false c40; clear c40; replace H := Option.bind_eq_some_iff.mp H; obtain ⟨t362, A630, H⟩ := H
                    replace H : (some t362) = some r := H
                    have A63 := YK A630; clear A630
                    obtain rfl := Option.some.inj H
                    go_wp2_with (first | ((with_reducible refine gate_callee (f := 10) rfl ?_); refine goesL_ (some 135) rfl rfl Try.func10 (by kernel_rfl) rfl #[] rfl (by (try simp only [YO, List.map_cons, List.map_nil]); first | done | rfl | (simp only [YQ, YP]; rfl)) ?_; (with_reducible refine (thalweglaw25_awake.calls k4  t362 _ A63.out).mono ?_); rintro e w64 ⟨rfl, hb⟩; refine ⟨_, rfl, ?_⟩; have n0_ := YK (YU (by (with_reducible repeat (first | apply YR | apply YS | apply YT)); exact HO_10.out) hb); have n1_ := YK (YU (by (with_reducible repeat (first | apply YR | apply YS | apply YT)); exact HO_12.out) hb); have n2_ := YK (YJ (g := gb330) (o := .cells #[.int .i64 a2_0, .int .i64 a2_1] 36 (0, 0)) (by (with_reducible repeat (first | refine YF ?_ _ | refine YG ?_ | refine YH ?_ _)); exact BK330.out) hb); have n3_ := YK (YD (by repeat (first | (with_reducible first | exact HB.out | apply YA | apply YB | apply YC | refine below_set ?_ GE330.out) | exact HB.out)) hb); clear HO_10; clear HO_12; clear BK330; clear HB; have HO_10 := n0_; have HO_12 := n1_; have BK330 := n2_; have HB := n3_; clear n0_ n1_ n2_ n3_; (try clear hb); (try clear hb2); (try clear hk); (try clear hi)))
                    go_ret
                    exact ⟨by first | rfl | (simp [errW_none, errW_some] <;> rfl) | (simp [*, errW_none, errW_some] <;> rfl), by repeat (first | (with_reducible first | exact HB.out | apply YA | apply YB | apply YC | refine below_set ?_ GE330.out) | exact HB.out)⟩
      rw [if_neg c13] at H
      have c13b0 : (t344 == 0) = false := beq_eq_false_iff_ne.mpr c13
      have c13b1 : (t344 != 0) = true := bne_iff_ne.mpr c13
      replace H := Option.bind_eq_some_iff.mp H; obtain ⟨t351, A650, H⟩ := H
      replace H : (if t351 = true then (some (t348 == t344)) else (none)) = some r := H
      have A65 := YK A650; clear A650
      by_cases c66 : t351 = true
      · subst c66
        have H1 : (some (t348 == t344)) = some r := by rw [if_pos rfl] at H; exact H
        clear H
        have H := H1
        clear H1
        obtain rfl := Option.some.inj H
        try go_wp2
        have n0_ := YK (YG BK330.out)
        have n1_ := YK (YC HB.out)
        clear BK330; clear HB; have BK330 := n0_; have HB := n1_; clear n0_ n1_
        refine start_ (n := 7) (S := fun w' => w'.cell? ⟨gb330, 0, none⟩ = some (.int .i64 a2_0) ∧ w'.cell? ⟨gb330, 1, none⟩ = some (.int .i64 a2_1)) (ds := []) #[false, false, false, false, false, false, false] (by kernel_rfl) rfl rfl ⟨(YI BK330.out 0).trans rfl, (YI BK330.out 1).trans rfl⟩ (fun hHeld => ?_)
        generalize wc.drew = w67 at BK330 HB hHeld ⊢
        refine pure_ (i := 1) (N := some 25) (v := ?_) (a' := ?_) #[false, true, false, false, false, false, false] rfl rfl (by kernel_rfl) (fun _ _ _ h => h) (Or.inl ⟨by rfl, ?_⟩) ?_ ?_
        rotate_left
        · intro w'
          go_simp; with_reducible rfl
        rotate_left
        · simp only [Act.put, YL, YM, YN, i64_w, i32_w]
          rfl
        refine take_ (i := 3) (N := some 27) (v := ?_) (a' := ?_) #[false, true, false, true, false, false, false] rfl rfl (by kernel_rfl) (fun _ _ _ h => h) (Or.inl ⟨by rfl, ?_⟩) hHeld ?_ ?_
        rotate_left
        · rintro w' ⟨s0, s1⟩
          go_simp; with_reducible rfl
        rotate_left
        · simp only [Act.put, YL, YM, YN, i64_w, i32_w]
          rfl
        refine join_ (σ := Value × Value × Value) 2 #[true, true, true, true, true, false, false] (fun s_ => [(24, s_.1), (26, s_.2.1), (28, s_.2.2)]) (fun s_ w' => (w'.cell? ⟨gb330, 0, none⟩ = some (.int .i64 a2_0) ∧ w'.cell? ⟨gb330, 1, none⟩ = some (.int .i64 a2_1)) ∧ (Kd.R k36 36 w' w.heap.size (fun k_ => some k_ ≠ (s_.2.2 : Value).ownBlock ∧ k_ ≠ gb330) s_.2.1 y334) ∧ (Kd.R k36 36 w' w.heap.size (fun k_ => some k_ ≠ (s_.2.1 : Value).ownBlock ∧ k_ ≠ gb330) s_.2.2 y337) ∧ (w'.heap[gb330]? = some (.cells #[.int .i64 a2_0, .int .i64 a2_1] 36 (0, 0))) ∧ (Below w.heap.size w w')) ?_ ?_
        rotate_left
        · intro hCont
          refine two_ (i := 0) (j := 4) (Ni := some 24) (Nj := some 28) #[true, true, false, true, false, false, false] #[false, true, false, true, true, false, false] rfl rfl rfl rfl (by kernel_rfl) (by decide) (by decide) (fun K hK => ?_) (fun K hK => ?_)
          · skip
            refine Kd.R_lit_step k36 _ 36 ?hg (N := 24) ?hd (xs := ([] : List (S36))) (inner := []) (ok := fun _ => True) (okp := fun _ => True) ?hr ?hp (fun _ hk => hk) trivial (Below.refl _ _) (Nat.le_refl _) (by simp) ?_; (case hd => rfl); (case hg => rfl); (case hr => first | (go_simp; done) | (go_simp; rfl)); (case hp => exact (Reps.none _ _))
            intro v332 w68 ho69 hb hg_ hnew_
            clear hg_ hnew_
            (first | rw [← Ny331.out] at ho69 | (simp only [Int.reduceToNat] at ho69; rw [← Ny331.out] at ho69))
            have n0_ := YK (Kd.R_lower (Kd.R_newB ho69 (g := gb330) (o := .cells #[.int .i64 a2_0, .int .i64 a2_1] 36 (0, 0)) (by (with_reducible repeat (first | refine YF ?_ _ | refine YG ?_ | refine YH ?_ _)); exact BK330.out)) (YE (by repeat (first | (with_reducible first | exact HB.out | apply YA | apply YB | apply YC | refine below_set ?_ GE330.out) | exact HB.out))))
            have n1_ := YK (YJ (g := gb330) (o := .cells #[.int .i64 a2_0, .int .i64 a2_1] 36 (0, 0)) (by (with_reducible repeat (first | refine YF ?_ _ | refine YG ?_ | refine YH ?_ _)); exact BK330.out) hb)
            have n2_ := YK (YD (by repeat (first | (with_reducible first | exact HB.out | apply YA | apply YB | apply YC | refine below_set ?_ GE330.out) | exact HB.out)) hb)
            clear BK330; clear HB; have HO333 := n0_; have BK330 := n1_; have HB := n2_; clear n0_ n1_ n2_; clear hb ho69
            refine hK.out _ _ ⟨(YI BK330.out 0).trans rfl, (YI BK330.out 1).trans rfl⟩ (fun hHeld => ?_)
            clear hK K
            refine norm_ (a' := ?_) ?_ ?_
            rotate_left
            · show Act.put _ (some 24) _ = _
              simp only [Act.put, YL, YM, YN, i64_w, i32_w]
              rfl
            refine two_ (i := 2) (j := 4) (Ni := some 26) (Nj := some 28) #[true, true, true, true, false, false, false] #[true, true, false, true, true, false, false] rfl rfl rfl rfl (by kernel_rfl) (by decide) (by decide) (fun K hK => ?_) (fun K hK => ?_)
            · skip
              refine Kd.R_append_rows_step k36 (w0 := w) w.heap.size (by rfl) (.tmp 24) (.tmp 25) 28 36 (.agg #[(.int .i64 0), (.int .i64 0)]) 16 rfl Try.underlying28 info36 rfl (by decide) (by omega) v332 y331 l1 _ _ _ (fun k_ => k_ ≠ gb330) (fun _ => False) rfl rfl ?aO ?aR (fun _ _ h => h) (fun _ h => h.elim) ?aF ?aB ?aS ?aL ?_
              (case aR => repeat (first | exact (Kd.C_below HR1.out HB.out) | (with_reducible refine Kd.C_alloc ?_ _) | (with_reducible refine Kd.C_drewN ?_ _) | (with_reducible refine Kd.C_drew ?_)))
              (case aB => exact (by repeat (first | (with_reducible first | exact HB.out | apply YA | apply YB | apply YC | refine below_set ?_ GE330.out) | exact HB.out)))
              (case aF => exact (fun k_ hk => Kd.freshB (g := gb330) (o := .cells #[.int .i64 a2_0, .int .i64 a2_1] 36 (0, 0)) (by (with_reducible repeat (first | refine YF ?_ _ | refine YG ?_ | refine YH ?_ _)); exact BK330.out) k_ hk))
              (case aO => exact (by (with_reducible repeat (first | apply YR | apply YS | apply YT)); exact Kd.R_mono HO333.out (fun _ hk => by first | exact hk.2 | exact trivial | (simp [hk]; done) | simp_all)))
              (case aS => exact (YE (by repeat (first | (with_reducible first | exact HB.out | apply YA | apply YB | apply YC | refine below_set ?_ GE330.out) | exact HB.out))))
              (case aL => have := LMc9.out; omega)
              intro v335 w70 ho hb hg hat
              rw [← Ny334.out] at ho
              have n0_ := YK (blk_grown (g := gb330) (o := .cells #[.int .i64 a2_0, .int .i64 a2_1] 36 (0, 0)) (by (with_reducible repeat (first | refine YF ?_ _ | refine YG ?_ | refine YH ?_ _)); exact BK330.out) hg (Kd.R_away HO333.out (fun _ hk => hk.2)))
              have n1_ := YK (hb)
              have n2_ := YK (ho)
              clear BK330; clear HB; clear HO333; have BK330 := n0_; have HB := n1_; have HO336 := n2_; clear n0_ n1_ n2_; clear ho hb hg hat
              refine hK.out _ _ ⟨(YI BK330.out 0).trans rfl, (YI BK330.out 1).trans rfl⟩ (fun hHeld => ?_)
              clear hK K
              refine norm_ (a' := ?_) ?_ ?_
              rotate_left
              · show Act.put _ (some 26) _ = _
                simp only [Act.put, YL, YM, YN, i64_w, i32_w]
                rfl
              refine one_ (i := 4) (N := some 28) #[true, true, true, true, true, false, false] rfl rfl (by kernel_rfl) (by decide) (fun K hK => ?_)
              refine Kd.R_lit_step k36 _ 36 ?hg (N := 28) ?hd (xs := ([(⟨a2_0, a2_1⟩ : S36)] : List (S36))) (inner := [.int .i64 a2_0, .int .i64 a2_1]) (ok := fun _ => True) (okp := fun _ => True) ?hr ?hp (fun _ hk => hk) trivial (Below.refl _ _) (Nat.le_refl _) (by simp) ?_; (case hd => rfl); (case hg => rfl); (case hr => first | (go_simp; done) | (go_simp; rfl)); (case hp => exact (Reps.c2 (show Kd.M k36 _ _ _ (⟨a2_0, a2_1⟩ : S36) [.int .i64 a2_0, .int .i64 a2_1] from (k36_mkM _ _ _ (⟨a2_0, a2_1⟩ : S36) )) (Reps.none _ _)))
              intro v338 w71 ho72 hb hg_ hnew_
              clear hg_ hnew_
              (first | rw [← Ny337.out] at ho72 | (simp only [Int.reduceToNat] at ho72; rw [← Ny337.out] at ho72))
              have n0_ := YK (Kd.R_elder' (by (with_reducible repeat (first | apply YR | apply YS | apply YT)); exact HO336.out) (Kd.R_base ho72) hb)
              have n1_ := YK (Kd.R_lower (Kd.R_newB (Kd.R_new' ho72 (Kd.R_lt (by (with_reducible repeat (first | apply YR | apply YS | apply YT)); exact HO336.out))) (g := gb330) (o := .cells #[.int .i64 a2_0, .int .i64 a2_1] 36 (0, 0)) (by (with_reducible repeat (first | refine YF ?_ _ | refine YG ?_ | refine YH ?_ _)); exact BK330.out)) (YE (by repeat (first | (with_reducible first | exact HB.out | apply YA | apply YB | apply YC | refine below_set ?_ GE330.out) | exact HB.out))))
              have n2_ := YK (YJ (g := gb330) (o := .cells #[.int .i64 a2_0, .int .i64 a2_1] 36 (0, 0)) (by (with_reducible repeat (first | refine YF ?_ _ | refine YG ?_ | refine YH ?_ _)); exact BK330.out) hb)
              have n3_ := YK (YD (by repeat (first | (with_reducible first | exact HB.out | apply YA | apply YB | apply YC | refine below_set ?_ GE330.out) | exact HB.out)) hb)
              clear HO336; clear BK330; clear HB; have HO336 := n0_; have HO339 := n1_; have BK330 := n2_; have HB := n3_; clear n0_ n1_ n2_ n3_; clear hb ho72
              refine hK.out _ _ ⟨(YI BK330.out 0).trans rfl, (YI BK330.out 1).trans rfl⟩ (fun hHeld => ?_)
              clear hK K
              refine norm_ (a' := ?_) ?_ ?_
              rotate_left
              · show Act.put _ (some 28) _ = _
                simp only [Act.put, YL, YM, YN, i64_w, i32_w]
                rfl
              exact norm_ (by simp only [putAll, Act.put, YL, YM, YN]) (hCont (v332, v335, v338) _ ⟨hHeld, (by (with_reducible repeat (first | apply YR | apply YS | apply YT)); exact Kd.R_mono HO336.out (fun _ hk => by first | exact ⟨hk.2, hk.1⟩ | exact trivial | (simp [hk]; done) | simp_all)), (by (with_reducible repeat (first | apply YR | apply YS | apply YT)); exact Kd.R_mono HO339.out (fun _ hk => by first | exact ⟨hk.1.2, hk.2⟩ | exact trivial | (simp [hk]; done) | simp_all)), (by (with_reducible repeat (first | refine YF ?_ _ | refine YG ?_ | refine YH ?_ _)); exact BK330.out), (by repeat (first | (with_reducible first | exact HB.out | apply YA | apply YB | apply YC | refine below_set ?_ GE330.out) | exact HB.out))⟩)
            skip
            refine Kd.R_lit_step k36 _ 36 ?hg (N := 28) ?hd (xs := ([(⟨a2_0, a2_1⟩ : S36)] : List (S36))) (inner := [.int .i64 a2_0, .int .i64 a2_1]) (ok := fun _ => True) (okp := fun _ => True) ?hr ?hp (fun _ hk => hk) trivial (Below.refl _ _) (Nat.le_refl _) (by simp) ?_; (case hd => rfl); (case hg => rfl); (case hr => first | (go_simp; done) | (go_simp; rfl)); (case hp => exact (Reps.c2 (show Kd.M k36 _ _ _ (⟨a2_0, a2_1⟩ : S36) [.int .i64 a2_0, .int .i64 a2_1] from (k36_mkM _ _ _ (⟨a2_0, a2_1⟩ : S36) )) (Reps.none _ _)))
            intro v338 w70 ho71 hb hg_ hnew_
            clear hg_ hnew_
            (first | rw [← Ny337.out] at ho71 | (simp only [Int.reduceToNat] at ho71; rw [← Ny337.out] at ho71))
            have n0_ := YK (Kd.R_elder' (by (with_reducible repeat (first | apply YR | apply YS | apply YT)); exact HO333.out) (Kd.R_base ho71) hb)
            have n1_ := YK (Kd.R_lower (Kd.R_newB (Kd.R_new' ho71 (Kd.R_lt (by (with_reducible repeat (first | apply YR | apply YS | apply YT)); exact HO333.out))) (g := gb330) (o := .cells #[.int .i64 a2_0, .int .i64 a2_1] 36 (0, 0)) (by (with_reducible repeat (first | refine YF ?_ _ | refine YG ?_ | refine YH ?_ _)); exact BK330.out)) (YE (by repeat (first | (with_reducible first | exact HB.out | apply YA | apply YB | apply YC | refine below_set ?_ GE330.out) | exact HB.out))))
            have n2_ := YK (YJ (g := gb330) (o := .cells #[.int .i64 a2_0, .int .i64 a2_1] 36 (0, 0)) (by (with_reducible repeat (first | refine YF ?_ _ | refine YG ?_ | refine YH ?_ _)); exact BK330.out) hb)
            have n3_ := YK (YD (by repeat (first | (with_reducible first | exact HB.out | apply YA | apply YB | apply YC | refine below_set ?_ GE330.out) | exact HB.out)) hb)
            clear HO333; clear BK330; clear HB; have HO333 := n0_; have HO339 := n1_; have BK330 := n2_; have HB := n3_; clear n0_ n1_ n2_ n3_; clear hb ho71
            refine hK.out _ _ ⟨(YI BK330.out 0).trans rfl, (YI BK330.out 1).trans rfl⟩ (fun hHeld => ?_)
            clear hK K
            refine norm_ (a' := ?_) ?_ ?_
            rotate_left
            · show Act.put _ (some 28) _ = _
              simp only [Act.put, YL, YM, YN, i64_w, i32_w]
              rfl
            refine one_ (i := 2) (N := some 26) #[true, true, true, true, true, false, false] rfl rfl (by kernel_rfl) (by decide) (fun K hK => ?_)
            refine Kd.R_append_rows_step k36 (w0 := w) w.heap.size (by rfl) (.tmp 24) (.tmp 25) 28 36 (.agg #[(.int .i64 0), (.int .i64 0)]) 16 rfl Try.underlying28 info36 rfl (by decide) (by omega) v332 y331 l1 _ _ _ (fun k_ => some k_ ≠ (v338 : Value).ownBlock ∧ k_ ≠ gb330) (fun _ => False) rfl rfl ?aO ?aR (fun _ _ h => h) (fun _ h => h.elim) ?aF ?aB ?aS ?aL ?_
            (case aR => repeat (first | exact (Kd.C_below HR1.out HB.out) | (with_reducible refine Kd.C_alloc ?_ _) | (with_reducible refine Kd.C_drewN ?_ _) | (with_reducible refine Kd.C_drew ?_)))
            (case aB => exact (by repeat (first | (with_reducible first | exact HB.out | apply YA | apply YB | apply YC | refine below_set ?_ GE330.out) | exact HB.out)))
            (case aF => exact (fun k_ hk => ⟨Kd.fresh' (Kd.R_lt (by (with_reducible repeat (first | apply YR | apply YS | apply YT)); exact HO339.out)) k_ hk, Kd.freshB (g := gb330) (o := .cells #[.int .i64 a2_0, .int .i64 a2_1] 36 (0, 0)) (by (with_reducible repeat (first | refine YF ?_ _ | refine YG ?_ | refine YH ?_ _)); exact BK330.out) k_ hk⟩))
            (case aO => exact (by (with_reducible repeat (first | apply YR | apply YS | apply YT)); exact Kd.R_mono HO333.out (fun _ hk => by first | exact ⟨hk.2, hk.1.2⟩ | exact trivial | (simp [hk]; done) | simp_all)))
            (case aS => exact (YE (by repeat (first | (with_reducible first | exact HB.out | apply YA | apply YB | apply YC | refine below_set ?_ GE330.out) | exact HB.out))))
            (case aL => have := LMc9.out; omega)
            intro v335 w72 ho hb hg hat
            rw [← Ny334.out] at ho
            have n0_ := YK (blk_grown (g := gb330) (o := .cells #[.int .i64 a2_0, .int .i64 a2_1] 36 (0, 0)) (by (with_reducible repeat (first | refine YF ?_ _ | refine YG ?_ | refine YH ?_ _)); exact BK330.out) hg (Kd.R_away HO333.out (fun _ hk => hk.1.2)))
            have n1_ := YK (Kd.R_after (ok := (fun k_ => k_ ≠ gb330)) (by (with_reducible repeat (first | apply YR | apply YS | apply YT)); exact Kd.R_mono HO339.out (fun _ hk => by first | exact ⟨hk.2, hk.1.2⟩ | exact trivial | (simp [hk]; done) | simp_all)) hg hat)
            have n2_ := YK (hb)
            have n3_ := YK (ho)
            clear BK330; clear HO339; clear HB; clear HO333; have BK330 := n0_; have HO339 := n1_; have HB := n2_; have HO336 := n3_; clear n0_ n1_ n2_ n3_; clear ho hb hg hat
            refine hK.out _ _ ⟨(YI BK330.out 0).trans rfl, (YI BK330.out 1).trans rfl⟩ (fun hHeld => ?_)
            clear hK K
            refine norm_ (a' := ?_) ?_ ?_
            rotate_left
            · show Act.put _ (some 26) _ = _
              simp only [Act.put, YL, YM, YN, i64_w, i32_w]
              rfl
            exact norm_ (by simp only [putAll, Act.put, YL, YM, YN]) (hCont (v332, v335, v338) _ ⟨hHeld, (by (with_reducible repeat (first | apply YR | apply YS | apply YT)); exact HO336.out), (by (with_reducible repeat (first | apply YR | apply YS | apply YT)); exact Kd.R_mono HO339.out (fun _ hk => by first | exact ⟨hk.2, hk.1⟩ | exact trivial | (simp [hk]; done) | simp_all)), (by (with_reducible repeat (first | refine YF ?_ _ | refine YG ?_ | refine YH ?_ _)); exact BK330.out), (by repeat (first | (with_reducible first | exact HB.out | apply YA | apply YB | apply YC | refine below_set ?_ GE330.out) | exact HB.out))⟩)
          skip
          refine Kd.R_lit_step k36 _ 36 ?hg (N := 28) ?hd (xs := ([(⟨a2_0, a2_1⟩ : S36)] : List (S36))) (inner := [.int .i64 a2_0, .int .i64 a2_1]) (ok := fun _ => True) (okp := fun _ => True) ?hr ?hp (fun _ hk => hk) trivial (Below.refl _ _) (Nat.le_refl _) (by simp) ?_; (case hd => rfl); (case hg => rfl); (case hr => first | (go_simp; done) | (go_simp; rfl)); (case hp => exact (Reps.c2 (show Kd.M k36 _ _ _ (⟨a2_0, a2_1⟩ : S36) [.int .i64 a2_0, .int .i64 a2_1] from (k36_mkM _ _ _ (⟨a2_0, a2_1⟩ : S36) )) (Reps.none _ _)))
          intro v338 w68 ho69 hb hg_ hnew_
          clear hg_ hnew_
          (first | rw [← Ny337.out] at ho69 | (simp only [Int.reduceToNat] at ho69; rw [← Ny337.out] at ho69))
          have n0_ := YK (Kd.R_lower (Kd.R_newB ho69 (g := gb330) (o := .cells #[.int .i64 a2_0, .int .i64 a2_1] 36 (0, 0)) (by (with_reducible repeat (first | refine YF ?_ _ | refine YG ?_ | refine YH ?_ _)); exact BK330.out)) (YE (by repeat (first | (with_reducible first | exact HB.out | apply YA | apply YB | apply YC | refine below_set ?_ GE330.out) | exact HB.out))))
          have n1_ := YK (YJ (g := gb330) (o := .cells #[.int .i64 a2_0, .int .i64 a2_1] 36 (0, 0)) (by (with_reducible repeat (first | refine YF ?_ _ | refine YG ?_ | refine YH ?_ _)); exact BK330.out) hb)
          have n2_ := YK (YD (by repeat (first | (with_reducible first | exact HB.out | apply YA | apply YB | apply YC | refine below_set ?_ GE330.out) | exact HB.out)) hb)
          clear BK330; clear HB; have HO339 := n0_; have BK330 := n1_; have HB := n2_; clear n0_ n1_ n2_; clear hb ho69
          refine hK.out _ _ ⟨(YI BK330.out 0).trans rfl, (YI BK330.out 1).trans rfl⟩ (fun hHeld => ?_)
          clear hK K
          refine norm_ (a' := ?_) ?_ ?_
          rotate_left
          · show Act.put _ (some 28) _ = _
            simp only [Act.put, YL, YM, YN, i64_w, i32_w]
            rfl
          refine one_ (i := 0) (N := some 24) #[true, true, false, true, true, false, false] rfl rfl (by kernel_rfl) (by decide) (fun K hK => ?_)
          refine Kd.R_lit_step k36 _ 36 ?hg (N := 24) ?hd (xs := ([] : List (S36))) (inner := []) (ok := fun _ => True) (okp := fun _ => True) ?hr ?hp (fun _ hk => hk) trivial (Below.refl _ _) (Nat.le_refl _) (by simp) ?_; (case hd => rfl); (case hg => rfl); (case hr => first | (go_simp; done) | (go_simp; rfl)); (case hp => exact (Reps.none _ _))
          intro v332 w70 ho71 hb hg_ hnew_
          clear hg_ hnew_
          (first | rw [← Ny331.out] at ho71 | (simp only [Int.reduceToNat] at ho71; rw [← Ny331.out] at ho71))
          have n0_ := YK (Kd.R_elder' (by (with_reducible repeat (first | apply YR | apply YS | apply YT)); exact HO339.out) (Kd.R_base ho71) hb)
          have n1_ := YK (Kd.R_lower (Kd.R_newB (Kd.R_new' ho71 (Kd.R_lt (by (with_reducible repeat (first | apply YR | apply YS | apply YT)); exact HO339.out))) (g := gb330) (o := .cells #[.int .i64 a2_0, .int .i64 a2_1] 36 (0, 0)) (by (with_reducible repeat (first | refine YF ?_ _ | refine YG ?_ | refine YH ?_ _)); exact BK330.out)) (YE (by repeat (first | (with_reducible first | exact HB.out | apply YA | apply YB | apply YC | refine below_set ?_ GE330.out) | exact HB.out))))
          have n2_ := YK (YJ (g := gb330) (o := .cells #[.int .i64 a2_0, .int .i64 a2_1] 36 (0, 0)) (by (with_reducible repeat (first | refine YF ?_ _ | refine YG ?_ | refine YH ?_ _)); exact BK330.out) hb)
          have n3_ := YK (YD (by repeat (first | (with_reducible first | exact HB.out | apply YA | apply YB | apply YC | refine below_set ?_ GE330.out) | exact HB.out)) hb)
          clear HO339; clear BK330; clear HB; have HO339 := n0_; have HO333 := n1_; have BK330 := n2_; have HB := n3_; clear n0_ n1_ n2_ n3_; clear hb ho71
          refine hK.out _ _ ⟨(YI BK330.out 0).trans rfl, (YI BK330.out 1).trans rfl⟩ (fun hHeld => ?_)
          clear hK K
          refine norm_ (a' := ?_) ?_ ?_
          rotate_left
          · show Act.put _ (some 24) _ = _
            simp only [Act.put, YL, YM, YN, i64_w, i32_w]
            rfl
          refine one_ (i := 2) (N := some 26) #[true, true, true, true, true, false, false] rfl rfl (by kernel_rfl) (by decide) (fun K hK => ?_)
          refine Kd.R_append_rows_step k36 (w0 := w) w.heap.size (by rfl) (.tmp 24) (.tmp 25) 28 36 (.agg #[(.int .i64 0), (.int .i64 0)]) 16 rfl Try.underlying28 info36 rfl (by decide) (by omega) v332 y331 l1 _ _ _ (fun k_ => some k_ ≠ (v338 : Value).ownBlock ∧ k_ ≠ gb330) (fun _ => False) rfl rfl ?aO ?aR (fun _ _ h => h) (fun _ h => h.elim) ?aF ?aB ?aS ?aL ?_
          (case aR => repeat (first | exact (Kd.C_below HR1.out HB.out) | (with_reducible refine Kd.C_alloc ?_ _) | (with_reducible refine Kd.C_drewN ?_ _) | (with_reducible refine Kd.C_drew ?_)))
          (case aB => exact (by repeat (first | (with_reducible first | exact HB.out | apply YA | apply YB | apply YC | refine below_set ?_ GE330.out) | exact HB.out)))
          (case aF => exact (fun k_ hk => ⟨Kd.fresh' (Kd.R_lt (by (with_reducible repeat (first | apply YR | apply YS | apply YT)); exact HO339.out)) k_ hk, Kd.freshB (g := gb330) (o := .cells #[.int .i64 a2_0, .int .i64 a2_1] 36 (0, 0)) (by (with_reducible repeat (first | refine YF ?_ _ | refine YG ?_ | refine YH ?_ _)); exact BK330.out) k_ hk⟩))
          (case aO => exact (by (with_reducible repeat (first | apply YR | apply YS | apply YT)); exact Kd.R_mono HO333.out (fun _ hk => by first | exact ⟨hk.1.2, hk.2⟩ | exact trivial | (simp [hk]; done) | simp_all)))
          (case aS => exact (YE (by repeat (first | (with_reducible first | exact HB.out | apply YA | apply YB | apply YC | refine below_set ?_ GE330.out) | exact HB.out))))
          (case aL => have := LMc9.out; omega)
          intro v335 w72 ho hb hg hat
          rw [← Ny334.out] at ho
          have n0_ := YK (blk_grown (g := gb330) (o := .cells #[.int .i64 a2_0, .int .i64 a2_1] 36 (0, 0)) (by (with_reducible repeat (first | refine YF ?_ _ | refine YG ?_ | refine YH ?_ _)); exact BK330.out) hg (Kd.R_away HO333.out (fun _ hk => hk.2)))
          have n1_ := YK (Kd.R_after (ok := (fun k_ => k_ ≠ gb330)) (by (with_reducible repeat (first | apply YR | apply YS | apply YT)); exact Kd.R_mono HO339.out (fun _ hk => by first | exact ⟨hk.1.2, hk.2⟩ | exact trivial | (simp [hk]; done) | simp_all)) hg hat)
          have n2_ := YK (hb)
          have n3_ := YK (ho)
          clear BK330; clear HO339; clear HB; clear HO333; have BK330 := n0_; have HO339 := n1_; have HB := n2_; have HO336 := n3_; clear n0_ n1_ n2_ n3_; clear ho hb hg hat
          refine hK.out _ _ ⟨(YI BK330.out 0).trans rfl, (YI BK330.out 1).trans rfl⟩ (fun hHeld => ?_)
          clear hK K
          refine norm_ (a' := ?_) ?_ ?_
          rotate_left
          · show Act.put _ (some 26) _ = _
            simp only [Act.put, YL, YM, YN, i64_w, i32_w]
            rfl
          exact norm_ (by simp only [putAll, Act.put, YL, YM, YN]) (hCont (v332, v335, v338) _ ⟨hHeld, (by (with_reducible repeat (first | apply YR | apply YS | apply YT)); exact HO336.out), (by (with_reducible repeat (first | apply YR | apply YS | apply YT)); exact Kd.R_mono HO339.out (fun _ hk => by first | exact ⟨hk.2, hk.1⟩ | exact trivial | (simp [hk]; done) | simp_all)), (by (with_reducible repeat (first | refine YF ?_ _ | refine YG ?_ | refine YH ?_ _)); exact BK330.out), (by repeat (first | (with_reducible first | exact HB.out | apply YA | apply YB | apply YC | refine below_set ?_ GE330.out) | exact HB.out))⟩)
        rintro ⟨v332, v335, v338⟩ w73 ⟨hS_, h0_, h1_, h2_, h3_⟩
        have n0_ : Aside0 (Kd.R k36 36 w73 w.heap.size (fun k_ => some k_ ≠ (v338 : Value).ownBlock ∧ k_ ≠ gb330) v335 y334) := ⟨h0_⟩
        have n1_ : Aside0 (Kd.R k36 36 w73 w.heap.size (fun k_ => some k_ ≠ (v335 : Value).ownBlock ∧ k_ ≠ gb330) v338 y337) := ⟨h1_⟩
        have n2_ : Aside0 (w73.heap[gb330]? = some (.cells #[.int .i64 a2_0, .int .i64 a2_1] 36 (0, 0))) := ⟨h2_⟩
        have n3_ : Aside0 (Below w.heap.size w w73) := ⟨h3_⟩
        clear BK330; clear HB; clear h0_ h1_ h2_ h3_; have HO336 := n0_; have HO339 := n1_; have BK330 := n2_; have HB := n3_; clear n0_ n1_ n2_ n3_
        have hHeld : w73.cell? ⟨gb330, 0, none⟩ = some (.int .i64 a2_0) ∧ w73.cell? ⟨gb330, 1, none⟩ = some (.int .i64 a2_1) := hS_
        obtain ⟨Ao75, co75, eo75⟩ := Kd.R_slice HO339.out
        (first | subst eo75 | (injection eo75 with f1_ f2_ f3_; have f4_ := f1_.symm; have f5_ := f3_.symm; clear f1_ f2_ f3_; subst f4_; subst f5_))
        refine norm_ (a' := ?_) ?_ ?_
        rotate_left
        · simp only [putAll, Act.put, YL, YM, YN]
          rfl
        refine one_ (i := 5) (N := some 29) #[true, true, true, true, true, true, false] rfl rfl (by kernel_rfl) (by decide) (fun K hK => ?_)
        refine Kd.R_append_rows_step k36 (w0 := w) w.heap.size (by rfl) (.tmp 26) (.tmp 28) 28 36 (.agg #[(.int .i64 0), (.int .i64 0)]) 16 rfl Try.underlying28 info36 rfl (by decide) (by omega) v335 y334 y337 _ _ _ (fun k_ => some k_ ≠ (.slice Ao75 y337.length co75 : Value).ownBlock ∧ k_ ≠ gb330) (fun _ => False) rfl rfl ?aO ?aR (fun _ _ h => h) (fun _ h => h.elim) ?aF ?aB ?aS ?aL ?_
        (case aR => repeat (first | exact (Kd.R_reads' HO339.out).2.2 | (with_reducible refine Kd.C_alloc ?_ _) | (with_reducible refine Kd.C_drewN ?_ _) | (with_reducible refine Kd.C_drew ?_)))
        (case aB => exact (by repeat (first | (with_reducible first | exact HB.out | apply YA | apply YB | apply YC | refine below_set ?_ GE330.out) | exact HB.out)))
        (case aF => exact (fun k_ hk => ⟨Kd.fresh' (Kd.R_lt (by (with_reducible repeat (first | apply YR | apply YS | apply YT)); exact HO339.out)) k_ hk, Kd.freshB (g := gb330) (o := .cells #[.int .i64 a2_0, .int .i64 a2_1] 36 (0, 0)) (by (with_reducible repeat (first | refine YF ?_ _ | refine YG ?_ | refine YH ?_ _)); exact BK330.out) k_ hk⟩))
        (case aO => exact (by (with_reducible repeat (first | apply YR | apply YS | apply YT)); exact HO336.out))
        (case aS => exact (YE (by repeat (first | (with_reducible first | exact HB.out | apply YA | apply YB | apply YC | refine below_set ?_ GE330.out) | exact HB.out))))
        (case aL => have := LMc10.out; omega)
        intro v341 w74 ho hb hg hat
        rw [← Ny340.out] at ho
        have n0_ := YK (blk_grown (g := gb330) (o := .cells #[.int .i64 a2_0, .int .i64 a2_1] 36 (0, 0)) (by (with_reducible repeat (first | refine YF ?_ _ | refine YG ?_ | refine YH ?_ _)); exact BK330.out) hg (Kd.R_away HO336.out (fun _ hk => hk.2)))
        have n1_ := YK (Kd.R_after (ok := (fun k_ => k_ ≠ gb330)) (by (with_reducible repeat (first | apply YR | apply YS | apply YT)); exact Kd.R_mono HO339.out (fun _ hk => by first | exact ⟨hk.2, hk.1⟩ | exact trivial | (simp [hk]; done) | simp_all)) hg hat)
        have n2_ := YK (hb)
        have n3_ := YK (ho)
        clear BK330; clear HO339; clear HB; clear HO336; have BK330 := n0_; have HO339 := n1_; have HB := n2_; have HO342 := n3_; clear n0_ n1_ n2_ n3_; clear ho hb hg hat
        refine hK.out _ _ ⟨(YI BK330.out 0).trans rfl, (YI BK330.out 1).trans rfl⟩ (fun hHeld => ?_)
        clear hK K
        refine norm_ (a' := ?_) ?_ ?_
        rotate_left
        · show Act.put _ (some 29) _ = _
          simp only [Act.put, YL, YM, YN, i64_w, i32_w]
          rfl
        refine pure_ (i := 6) (N := some 9) (v := ?_) (a' := ?_) #[true, true, true, true, true, true, true] rfl rfl (by kernel_rfl) (fun _ _ _ h => h) (Or.inl ⟨by rfl, ?_⟩) ?_ ?_
        rotate_left
        · intro w'
          go_simp; with_reducible rfl
        rotate_left
        · simp only [Act.put, YL, YM, YN, i64_w, i32_w]
          rfl
        refine done_ (by kernel_rfl) ?_
        try go_wp2_with (first | ((with_reducible refine gate_callee (f := 13) rfl ?_); refine goesL_ (some 34) rfl rfl Try.func13 (by kernel_rfl) rfl #[.int .i64 a0, .slice A1 l1.length c1, .int .i64 a3] rfl (by (try simp only [YO, List.map_cons, List.map_nil]); first | done | rfl | (simp only [YQ, YP]; rfl)) ?_; (with_reducible refine (graph_Steps.calls kj4 a0 _ _ l1 a3 t343 t344 _ ?side1 ?side2 A11.out).mono ?_); (case side1 => repeat (first | exact (Kd.C_below HR1.out HB.out) | (with_reducible refine Kd.C_alloc ?_ _) | (with_reducible refine Kd.C_drewN ?_ _) | (with_reducible refine Kd.C_drew ?_))); (case side2 => exact HC1.out); rintro e w76 ⟨v345, rfl, ho0, hb⟩; refine ⟨_, rfl, ?_⟩; have n0_ := YK (YU (by (with_reducible repeat (first | apply YR | apply YS | apply YT)); exact HO339.out) hb); have n1_ := YK (YU (by (with_reducible repeat (first | apply YR | apply YS | apply YT)); exact HO342.out) hb); have n2_ := YK (Kd.R_lower ho0 (YE (by repeat (first | (with_reducible first | exact HB.out | apply YA | apply YB | apply YC | refine below_set ?_ GE330.out) | exact HB.out)))); have n3_ := YK (YJ (g := gb330) (o := .cells #[.int .i64 a2_0, .int .i64 a2_1] 36 (0, 0)) (by (with_reducible repeat (first | refine YF ?_ _ | refine YG ?_ | refine YH ?_ _)); exact BK330.out) hb); have n4_ := YK (YD (by repeat (first | (with_reducible first | exact HB.out | apply YA | apply YB | apply YC | refine below_set ?_ GE330.out) | exact HB.out)) hb); clear HO339; clear HO342; clear BK330; clear HB; have HO339 := n0_; have HO342 := n1_; have HO346 := n2_; have BK330 := n3_; have HB := n4_; clear n0_ n1_ n2_ n3_ n4_; (try clear hb); (try clear hb2); (try clear hk); (try clear hi); (try clear ho0); obtain ⟨Ao77, co77, eo77⟩ := Kd.R_slice HO342.out; subst eo77) | ((with_reducible refine gate_callee (f := 13) rfl ?_); refine goesL_ (some 41) rfl rfl Try.func13 (by kernel_rfl) rfl #[.int .i64 a0, .slice Ao77 y340.length co77, .int .i64 a3] rfl (by (try simp only [YO, List.map_cons, List.map_nil]); first | done | rfl | (simp only [YQ, YP]; rfl)) ?_; (with_reducible refine (graph_Steps.calls kj4 a0 _ _ y340 a3 t347 t348 _ ?side1 ?side2 A12.out).mono ?_); (case side1 => repeat (first | exact (Kd.R_reads' HO342.out).2.2 | (with_reducible refine Kd.C_alloc ?_ _) | (with_reducible refine Kd.C_drewN ?_ _) | (with_reducible refine Kd.C_drew ?_))); (case side2 => exact (Kd.R_reads' HO342.out).2.1); rintro e w78 ⟨v349, rfl, ho0, hb⟩; refine ⟨_, rfl, ?_⟩; have n0_ := YK (YU (by (with_reducible repeat (first | apply YR | apply YS | apply YT)); exact HO339.out) hb); have n1_ := YK (YU (by (with_reducible repeat (first | apply YR | apply YS | apply YT)); exact HO342.out) hb); have n2_ := YK (Kd.R_elder' (by (with_reducible repeat (first | apply YR | apply YS | apply YT)); exact HO346.out) (Kd.R_base ho0) hb); have n3_ := YK (Kd.R_lower (Kd.R_new' ho0 (Kd.R_lt (by (with_reducible repeat (first | apply YR | apply YS | apply YT)); exact HO346.out))) (YE (by repeat (first | (with_reducible first | exact HB.out | apply YA | apply YB | apply YC | refine below_set ?_ GE330.out) | exact HB.out)))); have n4_ := YK (YJ (g := gb330) (o := .cells #[.int .i64 a2_0, .int .i64 a2_1] 36 (0, 0)) (by (with_reducible repeat (first | refine YF ?_ _ | refine YG ?_ | refine YH ?_ _)); exact BK330.out) hb); have n5_ := YK (YD (by repeat (first | (with_reducible first | exact HB.out | apply YA | apply YB | apply YC | refine below_set ?_ GE330.out) | exact HB.out)) hb); clear HO339; clear HO342; clear HO346; clear BK330; clear HB; have HO339 := n0_; have HO342 := n1_; have HO346 := n2_; have HO350 := n3_; have BK330 := n4_; have HB := n5_; clear n0_ n1_ n2_ n3_ n4_ n5_; (try clear hb); (try clear hb2); (try clear hk); (try clear hi); (try clear ho0)) | ((with_reducible refine gate_callee (f := 10) rfl ?_); refine goesL_ (some 46) rfl rfl Try.func10 (by kernel_rfl) rfl #[] rfl (by (try simp only [YO, List.map_cons, List.map_nil]); first | done | rfl | (simp only [YQ, YP]; rfl)) ?_; (with_reducible refine (thalweglaw25_awake.calls kj4  true _ A65.out).mono ?_); rintro e w79 ⟨rfl, hb⟩; refine ⟨_, rfl, ?_⟩; have n0_ := YK (YU (by (with_reducible repeat (first | apply YR | apply YS | apply YT)); exact HO339.out) hb); have n1_ := YK (YU (by (with_reducible repeat (first | apply YR | apply YS | apply YT)); exact HO342.out) hb); have n2_ := YK (YU (by (with_reducible repeat (first | apply YR | apply YS | apply YT)); exact HO346.out) hb); have n3_ := YK (YU (by (with_reducible repeat (first | apply YR | apply YS | apply YT)); exact HO350.out) hb); have n4_ := YK (YJ (g := gb330) (o := .cells #[.int .i64 a2_0, .int .i64 a2_1] 36 (0, 0)) (by (with_reducible repeat (first | refine YF ?_ _ | refine YG ?_ | refine YH ?_ _)); exact BK330.out) hb); have n5_ := YK (YD (by repeat (first | (with_reducible first | exact HB.out | apply YA | apply YB | apply YC | refine below_set ?_ GE330.out) | exact HB.out)) hb); clear HO339; clear HO342; clear HO346; clear HO350; clear BK330; clear HB; have HO339 := n0_; have HO342 := n1_; have HO346 := n2_; have HO350 := n3_; have BK330 := n4_; have HB := n5_; clear n0_ n1_ n2_ n3_ n4_ n5_; (try clear hb); (try clear hb2); (try clear hk); (try clear hi)))
        go_ret
        exact ⟨by first | rfl | (simp [errW_none, errW_some] <;> rfl) | (simp [*, errW_none, errW_some] <;> rfl), by repeat (first | (with_reducible first | exact HB.out | apply YA | apply YB | apply YC | refine below_set ?_ GE330.out) | exact HB.out)⟩
      replace c66 := Bool.eq_false_iff.mpr c66
      subst c66
      have H1 : (none) = some r := by rw [if_neg (show ¬ (false = true) by decide)] at H; exact H
      clear H
      have H := H1
      clear H1
      exact absurd H (by simp)

end Go.Proofs.Ytbejdbgcfgllhaa.P
