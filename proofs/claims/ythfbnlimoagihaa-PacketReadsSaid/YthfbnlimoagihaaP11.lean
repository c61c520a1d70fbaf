-- WRITTEN BY xprint.py, a program of this session that drives the kit's printer.
import Derived.Test.YthfbnlimoagihaaP0
import Derived.Test.YthfbnlimoagihaaP4
import Derived.Test.YthfbnlimoagihaaP10
namespace Go.Proofs.Ythfbnlimoagihaa.P
open Go.RowKit Go.Proofs.YthfbnlimoagihaaW.PrintWords Go.Proofs.YthfbnlimoagihaaW.PrintLast Go.Proofs.YthfbnlimoagihaaW.PrintMore
attribute [local go_sem] max2_int min2_int max_two min_two max_three min_three max_four min_four   -- for this text's walks alone
set_option linter.unusedVariables false
set_option linter.unusedSimpArgs false

/-! ### thalwegref08_Parse: function 16 -/
def thalwegref08_Parse.l0 : Nat → List Int → Int → List Int → List Int → Int → Option (Int × Int × Int × Int × ByteArray × Int × Int)
  | 0, _, _, _, _, _ => none
  | k + 1, x0, x1, x7, x8, x9 => if x9 < 5 then (if 0 ≤ x9 then (if x9 < (x8.length : Int) then ((thalwegref01_Get.f k x0 x1 (rd x8 x9)).bind fun bt238 => (if bt238.2.2 = 0 then (if x7.length < 17592186044416 then (thalwegref08_Parse.l0 k x0 bt238.2.1 (x7 ++ [bt238.1]) x8 (wrap64 (x9 + 1))) else (none)) else (some (0, 0, 0, 0, (⟨#[]⟩ : ByteArray), 0, bt238.2.2)))) else (none)) else (none)) else (if 4 < (x7.length : Int) then (if (rd x7 4) > 256 then (some (0, 0, 0, 0, (⟨#[]⟩ : ByteArray), 0, 4)) else (if (wrap64 ((x0.length : Int) - x1)) < (rd x7 4) then (some (0, 0, 0, 0, (⟨#[]⟩ : ByteArray), 0, 6)) else (if 0 < (x7.length : Int) then (if 1 < (x7.length : Int) then (if 2 < (x7.length : Int) then (if 3 < (x7.length : Int) then (if 0 ≤ x1 then (if x1 ≤ (wrap64 (x1 + (rd x7 4))) then (if (wrap64 (x1 + (rd x7 4))) ≤ (x0.length : Int) then ((thalwegref08_Right.f (rd x7 0) (rd x7 1) (rd x7 2) (rd x7 3) (strOfNums ((x0.take ((wrap64 (x1 + (rd x7 4))) : Int).toNat).drop (x1 : Int).toNat))).bind fun t253 => (if t253 = true then (some (rd x7 0, rd x7 1, rd x7 2, rd x7 3, strOfNums ((x0.take ((wrap64 (x1 + (rd x7 4))) : Int).toNat).drop (x1 : Int).toNat), wrap64 (x1 + (rd x7 4)), 0)) else (some (0, 0, 0, 0, (⟨#[]⟩ : ByteArray), 0, 4)))) else (none)) else (none)) else (none)) else (none)) else (none)) else (none)) else (none)))) else (none))
def thalwegref08_Parse.f (k : Nat) (l0 : List Int) (a1 : Int) : Option (Int × Int × Int × Int × ByteArray × Int × Int) := thalwegref08_Parse.l0 k l0 a1 ([] : List Int) (([1, 1, 1, 2, 2] : List Int)) 0
theorem thalwegref08_Parse.mono_l : ∀ k, (∀ y0 y1 y2 y3 y4, LeO (thalwegref08_Parse.l0 k y0 y1 y2 y3 y4) (thalwegref08_Parse.l0 (k + 1) y0 y1 y2 y3 y4))
  | 0 => fun _ _ _ _ _ r h => by simp [thalwegref08_Parse.l0] at h
  | k + 1 => by
    have ih0 := thalwegref08_Parse.mono_l k
    · intro y0 y1 y2 y3 y4
      unfold thalwegref08_Parse.l0
      repeat' first
      | (with_reducible exact ih0 _ _ _ _ _)
      | (with_reducible exact thalwegref01_Get.mono _ _ _ _)
      | (with_reducible exact LeO.refl _)
      | (with_reducible exact LeO.none _)
      | (with_reducible refine LeO.ite ?_ ?_)
      | (with_reducible refine LeO.bind ?_ (fun _ => ?_))
      | exact ih0 _ _ _ _ _
      | exact thalwegref01_Get.mono _ _ _ _
      | exact LeO.none _
      | refine LeO.ite ?_ ?_
      | refine LeO.bind ?_ (fun _ => ?_)
theorem thalwegref08_Parse.mono : ∀ a0 a1 k, LeO (thalwegref08_Parse.f k a0 a1) (thalwegref08_Parse.f (k + 1) a0 a1) := by
  intro a0 a1 k
  have ih0 := thalwegref08_Parse.mono_l k
  unfold thalwegref08_Parse.f
  repeat' first
      | (with_reducible exact ih0 _ _ _ _ _)
      | (with_reducible exact thalwegref01_Get.mono _ _ _ _)
      | (with_reducible exact LeO.refl _)
      | (with_reducible exact LeO.none _)
      | (with_reducible refine LeO.ite ?_ ?_)
      | (with_reducible refine LeO.bind ?_ (fun _ => ?_))
      | exact ih0 _ _ _ _ _
      | exact thalwegref01_Get.mono _ _ _ _
      | exact LeO.none _
      | refine LeO.ite ?_ ?_
      | refine LeO.bind ?_ (fun _ => ?_)
def thalwegref08_Parse.T15 : Bool × List (List Nat × List Nat) := (true, [([], []), ([0], [0]), ([1], [1]), ([], []), ([3], [3]), ([4], [4]), ([], []), ([6], [6]), ([7], [7]), ([], []), ([9], [9]), ([10], [10]), ([], []), ([], []), ([], []), ([], []), ([15], [15]), ([16], [16]), ([14, 17], [14, 17]), ([12, 13, 18], [12, 13, 18]), ([19], [19]), ([2, 5, 8, 11, 20], [2, 5, 8, 11, 20]), ([], []), ([22, 21, 0, 1, 2, 3, 4, 5, 6, 7, 8, 9, 10, 11, 12, 13, 14, 15, 16, 17, 18, 19, 20, 21, 22], [21, 22])])
def thalwegref08_Parse.B15 : List Nat := [0, 1, 3, 0, 8, 24, 0, 64, 192, 0, 512, 1536, 0, 0, 0, 0, 32768, 98304, 245760, 520192, 1044480, 2097151, 0, 8388607]
theorem thalwegref08_Parse.tab15 : rtab .any (opsOf Try.f16 15) = thalwegref08_Parse.T15 := by kernel_rfl
theorem thalwegref08_Parse.bits15 : waitsOk thalwegref08_Parse.T15.2 thalwegref08_Parse.B15 = true := by kernel_rfl
def thalwegref08_Parse.T18 : Bool × List (List Nat × List Nat) := (true, [([], []), ([], []), ([], []), ([2], [2]), ([3], [3]), ([1, 4], [1, 4]), ([0, 0], [0]), ([5, 6, 0, 1, 2, 3, 4, 5, 6], [5]), ([7, 0, 1, 2, 3, 4, 5, 6, 7], [])])
def thalwegref08_Parse.B18 : List Nat := [0, 0, 0, 4, 12, 30, 1, 127, 255]
theorem thalwegref08_Parse.tab18 : rtab .any (opsOf Try.f16 18) = thalwegref08_Parse.T18 := by kernel_rfl
theorem thalwegref08_Parse.bits18 : waitsOk thalwegref08_Parse.T18.2 thalwegref08_Parse.B18 = true := by kernel_rfl
set_option maxHeartbeats 8000000 in
set_option maxRecDepth 100000 in
theorem thalwegref08_Parse.calls (k : Nat) (A0 : Option Addr) (c0 : Nat) (l0 : List Int) (a1 : Int) (r1 : Int) (r2 : Int) (r3 : Int) (r4 : Int) (r5 : ByteArray) (r6 : Int) (r7 : Int) (w : World) (hr0 : Kd.C (Kd.int .u8) w A0 l0.length l0) (hc0 : l0.length ≤ c0) (h : thalwegref08_Parse.f k l0 a1 = some (r1, r2, r3, r4, r5, r6, r7)) :
    Calls Try.prog 16 #[.slice A0 l0.length c0, .int .i64 a1] w fun e w' => e = .returned (.tuple #[.agg #[.int .i64 r1, .int .i64 r2, .int .i64 r3, .int .i64 r4, .string r5], .int .i64 r6, .int .i64 r7]) ∧ Below w.heap.size w w' := by
  have hu23 := Try.underlying23
  have HR0 := Aside0.mk hr0
  have HC0 := Aside0.mk hc0
  clear hr0 hc0
  have HB := Aside0.mk (Below.refl w.heap.size w)
  have H : (thalwegref08_Parse.l0 k l0 a1 ([] : List Int) (([1, 1, 1, 2, 2] : List Int)) 0) = some (r1, r2, r3, r4, r5, r6, r7) := h
  clear h
  obtain ⟨y234, hy234⟩ : ∃ y_ : List Int, y_ = (([1, 1, 1, 2, 2] : List Int)) := ⟨_, rfl⟩
  replace H : (thalwegref08_Parse.l0 k l0 a1 ([] : List Int) y234 0) = some (r1, r2, r3, r4, r5, r6, r7) := by first | (rw [hy234]; with_reducible exact H) | (have H2_ := (Option.bind_some _ _).symm.trans H; rw [hy234]; with_reducible exact H2_) | (have H2_ := (Option.bind_some _ _).symm.trans H; with_reducible exact H2_) | with_reducible exact H | (rw [hy234]; exact H) | exact H
  have Ny234 := Aside0.mk hy234
  clear hy234
  have H' := Aside0.mk H
  clear H
  go_enter Try.func16, Try.ntmps16
  go_wp2_with (first | ((with_reducible refine gate_dst (N := 4) rfl ?_); refine box_event ?hg (N := 4) ?hd (cs := #[.int .i64 0, .int .i64 0, .int .i64 0, .int .i64 0, .string (⟨#[]⟩ : ByteArray)]) (t := 23) ?hr ?_; (case hd => rfl); (case hg => rfl); (case hr => first | (go_simp; done) | (go_simp; rfl)); intro gb233 hg w3 hbox hb; have n0_ := Aside0.mk (below_step (by repeat (first | (with_reducible first | exact HB.out | apply below_alloc | apply pw_below_drewN | apply below_drew1) | exact HB.out)) hb); have n1_ := Aside0.mk (hbox); have n2_ := Aside0.mk ((by rw [hg]; exact (below_size (by repeat (first | (with_reducible first | exact HB.out | apply below_alloc | apply pw_below_drewN | apply below_drew1) | exact HB.out))) : w.heap.size ≤ gb233)); have n3_ := Aside0.mk ((by rw [hg]; exact (below_size (by repeat (first | (with_reducible first | exact HB.out | apply below_alloc | apply pw_below_drewN | apply below_drew1) | exact HB.out))) : w.heap.size ≤ gb233)); clear HB; have HB := n0_; have BK233 := n1_; have GW233 := n2_; have GE233 := n3_; clear n0_ n1_ n2_ n3_; clear hb hbox hg) | ((with_reducible refine gate_dst (N := 14) rfl ?_); refine Kd.R_lit (Kd.int .i64) _ 3 ?hg (N := 14) ?hd (xs := ([1, 1, 1, 2, 2] : List Int)) (inner := [.int .i64 1, .int .i64 1, .int .i64 1, .int .i64 2, .int .i64 2]) (ok := fun _ => True) (okp := fun _ => True) ?hr ?hp (fun _ hk => hk) trivial (Below.refl _ _) (Nat.le_refl _) (by simp) ?_; (case hd => rfl); (case hg => rfl); (case hr => first | (go_simp; done) | (go_simp; rfl)); (case hp => exact (Reps.one (show Kd.M (Kd.int .i64) _ _ _ 1 [.int .i64 1] from rfl) (Reps.one (show Kd.M (Kd.int .i64) _ _ _ 1 [.int .i64 1] from rfl) (Reps.one (show Kd.M (Kd.int .i64) _ _ _ 1 [.int .i64 1] from rfl) (Reps.one (show Kd.M (Kd.int .i64) _ _ _ 2 [.int .i64 2] from rfl) (Reps.one (show Kd.M (Kd.int .i64) _ _ _ 2 [.int .i64 2] from rfl) (Reps.none _ _))))))); intro v235 w4 ho5 hb hg_ hnew_; clear hg_ hnew_; (first | rw [← Ny234.out] at ho5 | (simp only [Int.reduceToNat] at ho5; rw [← Ny234.out] at ho5)); have n0_ := Aside0.mk (Kd.R_lower ho5 (below_size (by repeat (first | (with_reducible first | exact HB.out | apply below_alloc | apply pw_below_drewN | apply below_drew1 | refine below_set ?_ GE233.out) | exact HB.out)))); have n1_ := Aside0.mk (blk_below (g := gb233) (o := .cells #[.int .i64 0, .int .i64 0, .int .i64 0, .int .i64 0, .string (⟨#[]⟩ : ByteArray)] 23 (0, 0)) (by (with_reducible repeat (first | refine blk_drewN ?_ _ | refine blk_drew ?_ | refine blk_alloc ?_ _)); exact BK233.out) hb); have n2_ := Aside0.mk (below_step (by repeat (first | (with_reducible first | exact HB.out | apply below_alloc | apply pw_below_drewN | apply below_drew1 | refine below_set ?_ GE233.out) | exact HB.out)) hb); clear BK233; clear HB; have HO236 := n0_; have BK233 := n1_; have HB := n2_; clear n0_ n1_ n2_; clear hb ho5))
  go_loopg [1, 7, 9] k (fun kq v1 v7 v9 w' => ∃ (x1_1 : Int) (x7_1 : List Int) (x9_1 : Int) (x234000_1 : Int) (x234001_1 : Int) (x234002_1 : Int) (x234003_1 : Int) (x234004_1 : ByteArray), v1 = .int .i64 x1_1 ∧ v9 = .int .i64 x9_1 ∧ Aside0 (thalwegref08_Parse.l0 kq l0 x1_1 x7_1 y234 x9_1 = some (r1, r2, r3, r4, r5, r6, r7)) ∧ Aside0 (kq ≤ k) ∧ Aside0 (Kd.R (Kd.int .i64) 3 w' w.heap.size (fun k_ => some k_ ≠ (v235 : Value).ownBlock) v7 x7_1) ∧ Aside0 (Kd.R (Kd.int .i64) 3 w' w.heap.size (fun k_ => some k_ ≠ (v7 : Value).ownBlock) v235 y234) ∧ Aside0 (w'.heap[gb233]? = some (.cells #[.int .i64 x234000_1, .int .i64 x234001_1, .int .i64 x234002_1, .int .i64 x234003_1, .string x234004_1] 23 (0, 0))) ∧ Aside0 (Below w.heap.size w w'))
  case atStart => exact ⟨(a1), (([] : List Int)), (0), (0), (0), (0), (0), ((⟨#[]⟩ : ByteArray)), (by first | rfl | (simp; done) | (simp [*]; done)), (by first | rfl | (simp; done) | (simp [*]; done)), H', ⟨Nat.le_refl _⟩, ⟨by first | exact Kd.R_nil _ _ _ _ _ | exact Kd.N_nil _ _ _ _ _ | exact Kd.V_nil _ _ _ _ _ | exact Kd.Q_nil _ _ _ _ _ | exact Kd.S_nil _ _ _ _ _⟩, ⟨by (with_reducible repeat (first | apply Kd.R_alloc | apply Kd.R_drewN | apply Kd.R_drew)); exact Kd.R_mono HO236.out (fun _ hk => (by simp [Value.ownBlock]))⟩, ⟨by (with_reducible repeat (first | refine blk_drewN ?_ _ | refine blk_drew ?_ | refine blk_alloc ?_ _)); exact BK233.out⟩, ⟨by repeat (first | (with_reducible first | exact HB.out | apply below_alloc | apply pw_below_drewN | apply below_drew1 | refine below_set ?_ GE233.out) | exact HB.out)⟩⟩
  case round =>
    clear H'
    try clear c1
    try clear p2
    obtain ⟨x1_1, x7_1, x9_1, x234000_1, x234001_1, x234002_1, x234003_1, x234004_1, rfl, rfl, HA, HK1, HO_7, HO_8, BK233, HB⟩ := hrel
    cases gk with
    | zero => exact absurd HA.out (by simp [thalwegref08_Parse.l0])
    | succ k1 =>
      have H := HA.out
      clear HA
      simp only [thalwegref08_Parse.l0] at H
      by_cases c6 : x9_1 < 5
      · rw [if_pos c6] at H
        have c6b0 : decide (x9_1 < 5) = true := decide_eq_true c6
        clear c6
        by_cases c7 : 0 ≤ x9_1
        rotate_left
        · rw [if_neg c7] at H
          exact absurd H (by simp)
        rw [if_pos c7] at H
        have c7b0 : decide (0 ≤ x9_1) = true := decide_eq_true c7
        clear c7
        by_cases c8 : x9_1 < (y234.length : Int)
        rotate_left
        · rw [if_neg c8] at H
          exact absurd H (by simp)
        rw [if_pos c8] at H
        have c8b0 : decide (x9_1 < (y234.length : Int)) = true := decide_eq_true c8
        clear c8
        replace H := Option.bind_eq_some_iff.mp H
        obtain ⟨⟨t238, t239, t240⟩, A90, H⟩ := H
        replace H : (if t240 = 0 then (if x7_1.length < 17592186044416 then (thalwegref08_Parse.l0 k1 l0 t239 (x7_1 ++ [t238]) y234 (wrap64 (x9_1 + 1))) else (none)) else (some (0, 0, 0, 0, (⟨#[]⟩ : ByteArray), 0, t240))) = some (r1, r2, r3, r4, r5, r6, r7) := H
        have A9 := Aside0.mk A90
        clear A90
        by_cases c10 : t240 = 0
        · rw [if_pos c10] at H
          have c10b0 : (t240 == 0) = true := beq_iff_eq.mpr c10
          have c10b1 : (t240 != 0) = false := bne_eq_false_iff_eq.mpr c10
          clear c10
          by_cases c11 : x7_1.length < 17592186044416
          rotate_left
          · rw [if_neg c11] at H
            exact absurd H (by simp)
          rw [if_pos c11] at H
          have LMc11 := Aside0.mk c11
          clear c11
          obtain ⟨y241, hy241⟩ : ∃ y_ : List Int, y_ = (x7_1 ++ [t238]) := ⟨_, rfl⟩
          replace H : (thalwegref08_Parse.l0 k1 l0 t239 y241 y234 (wrap64 (x9_1 + 1))) = some (r1, r2, r3, r4, r5, r6, r7) := by first | (rw [hy241]; with_reducible exact H) | (have H2_ := (Option.bind_some _ _).symm.trans H; rw [hy241]; with_reducible exact H2_) | (have H2_ := (Option.bind_some _ _).symm.trans H; with_reducible exact H2_) | with_reducible exact H | (rw [hy241]; exact H) | exact H
          have Ny241 := Aside0.mk hy241
          clear hy241
          have H' := Aside0.mk H
          clear H
          obtain ⟨Ao12, co12, eo12⟩ := Kd.R_slice HO_8.out
          subst eo12
          have p237 : 0 ≤ (x9_1 : Int) := of_decide_eq_true (by first | (with_reducible assumption) | assumption)
          have q237 : x9_1 < (y234.length : Int) := of_decide_eq_true (by first | (with_reducible assumption) | assumption)
          obtain ⟨ad237, e237, hx237_0⟩ := Kd.at_int (Kd.R_reads' HO_8.out).2.2 x9_1 p237 q237
          cases e237
          replace p237 := eq_true p237
          replace q237 := eq_true q237
          go_wp2_with (first | ((with_reducible refine gate_callee (f := 21) rfl ?_); refine goesL_ (some 26) rfl rfl Try.func21 (by kernel_rfl) rfl #[.slice A0 l0.length c0, .int .i64 x1_1, .int .i64 (rd y234 x9_1)] rfl (by (try simp only [List.map_toArray, List.map_cons, List.map_nil]); first | done | rfl | (simp only [List.length_drop, List.length_take]; rfl)) ?_; (with_reducible refine (thalwegref01_Get.calls k1 _ _ l0 x1_1 (rd y234 x9_1) t238 t239 t240 _ ?side1 ?side2 A9.out).mono ?_); (case side1 => repeat (first | exact (Kd.C_below HR0.out HB.out) | (with_reducible refine Kd.C_alloc ?_ _) | (with_reducible refine Kd.C_drewN ?_ _) | (with_reducible refine Kd.C_drew ?_))); (case side2 => exact HC0.out); rintro e w' ⟨rfl, ⟨nd, rfl⟩⟩; refine ⟨_, rfl, ?_⟩) | ((with_reducible refine gate_builtin (b := .append) (xs := #[.tmp 34, .tmp 36]) rfl ?_); at_builtin; refine Kd.R_append (Kd.int .i64) (w0 := w) w.heap.size rfl (.tmp 34) (.tmp 36) 48 3 (.int .i64 0) 8 rfl Try.underlying48 info3 rfl (by decide) (by omega) u7 x7_1 t238 [.int .i64 t238] (fun k_ => some k_ ≠ (.slice (some ad237) y234.length co12 : Value).ownBlock) (fun _ => False) rfl rfl ?aP (fun _ hk => hk.elim) ?aF ?aO ?aB ?aS ?aL ?_; (case aP => exact rfl); (case aB => exact (by repeat (first | (with_reducible first | exact HB.out | apply below_alloc | apply pw_below_drewN | apply below_drew1 | refine below_set ?_ GE233.out) | exact HB.out))); (case aF => exact (fun k_ hk => Kd.fresh' (Kd.R_lt (by (with_reducible repeat (first | apply Kd.R_alloc | apply Kd.R_drewN | apply Kd.R_drew)); exact HO_8.out)) k_ hk)); (case aO => exact (by (with_reducible repeat (first | apply Kd.R_alloc | apply Kd.R_drewN | apply Kd.R_drew)); exact HO_7.out)); (case aS => exact (below_size (by repeat (first | (with_reducible first | exact HB.out | apply below_alloc | apply pw_below_drewN | apply below_drew1 | refine below_set ?_ GE233.out) | exact HB.out)))); (case aL => have := LMc11.out; omega); intro v242 w13 ho hb hg hat; rw [← Ny241.out] at ho; have n0_ := Aside0.mk (Kd.R_after (ok := (fun _ => True)) (by (with_reducible repeat (first | apply Kd.R_alloc | apply Kd.R_drewN | apply Kd.R_drew)); exact Kd.R_mono HO_8.out (fun _ hk => by first | exact ⟨trivial, hk⟩ | exact trivial | (simp [hk]; done) | simp_all)) hg hat); have n1_ := Aside0.mk (blk_grown (g := gb233) (o := .cells #[.int .i64 x234000_1, .int .i64 x234001_1, .int .i64 x234002_1, .int .i64 x234003_1, .string x234004_1] 23 (0, 0)) (by (with_reducible repeat (first | refine blk_drewN ?_ _ | refine blk_drew ?_ | refine blk_alloc ?_ _)); exact BK233.out) hg (Kd.R_ne HO_7.out BK233.out (by decide))); have n2_ := Aside0.mk (hb); have n3_ := Aside0.mk (ho); clear HO_8; clear BK233; clear HB; clear HO_7; have HO_8 := n0_; have BK233 := n1_; have HB := n2_; have HO243 := n3_; clear n0_ n1_ n2_ n3_; clear ho hb hg hat))
          go_roundg k1
          case measure => have := HK1.out; omega
          case rel => exact ⟨(t239), (y241), (wrap64 (x9_1 + 1)), (x234000_1), (x234001_1), (x234002_1), (x234003_1), (x234004_1), (by first | rfl | (simp; done) | (simp [*]; done)), (by first | rfl | (simp; done) | (simp [*]; done)), H', ⟨by have := HK1.out; omega⟩, ⟨by (with_reducible repeat (first | apply Kd.R_alloc | apply Kd.R_drewN | apply Kd.R_drew)); exact HO243.out⟩, ⟨by (with_reducible repeat (first | apply Kd.R_alloc | apply Kd.R_drewN | apply Kd.R_drew)); exact Kd.R_mono HO_8.out (fun _ hk => by first | exact hk.2 | exact trivial | (simp [hk]; done) | simp_all)⟩, ⟨by (with_reducible repeat (first | refine blk_drewN ?_ _ | refine blk_drew ?_ | refine blk_alloc ?_ _)); exact BK233.out⟩, ⟨by repeat (first | (with_reducible first | exact HB.out | apply below_alloc | apply pw_below_drewN | apply below_drew1 | refine below_set ?_ GE233.out) | exact HB.out)⟩⟩
        · rw [if_neg c10] at H
          have c10b0 : (t240 == 0) = false := beq_eq_false_iff_ne.mpr c10
          have c10b1 : (t240 != 0) = true := bne_iff_ne.mpr c10
          simp only [Option.some.injEq, Prod.mk.injEq] at H
          obtain ⟨rfl, rfl, rfl, rfl, rfl, rfl, rfl⟩ := H
          obtain ⟨Ao14, co14, eo14⟩ := Kd.R_slice HO_8.out
          subst eo14
          have p237 : 0 ≤ (x9_1 : Int) := of_decide_eq_true (by first | (with_reducible assumption) | assumption)
          have q237 : x9_1 < (y234.length : Int) := of_decide_eq_true (by first | (with_reducible assumption) | assumption)
          obtain ⟨ad237, e237, hx237_0⟩ := Kd.at_int (Kd.R_reads' HO_8.out).2.2 x9_1 p237 q237
          cases e237
          replace p237 := eq_true p237
          replace q237 := eq_true q237
          go_wp2_with (first | ((with_reducible refine gate_callee (f := 21) rfl ?_); refine goesL_ (some 26) rfl rfl Try.func21 (by kernel_rfl) rfl #[.slice A0 l0.length c0, .int .i64 x1_1, .int .i64 (rd y234 x9_1)] rfl (by (try simp only [List.map_toArray, List.map_cons, List.map_nil]); first | done | rfl | (simp only [List.length_drop, List.length_take]; rfl)) ?_; (with_reducible refine (thalwegref01_Get.calls k1 _ _ l0 x1_1 (rd y234 x9_1) t238 t239 t240 _ ?side1 ?side2 A9.out).mono ?_); (case side1 => repeat (first | exact (Kd.C_below HR0.out HB.out) | (with_reducible refine Kd.C_alloc ?_ _) | (with_reducible refine Kd.C_drewN ?_ _) | (with_reducible refine Kd.C_drew ?_))); (case side2 => exact HC0.out); rintro e w' ⟨rfl, ⟨nd, rfl⟩⟩; refine ⟨_, rfl, ?_⟩; (try (rw [drewN_self wr]; generalize hq_ : World.drewN wr _ = wr; have n0_ : Aside0 (Kd.R (Kd.int .i64) 3 wr w.heap.size (fun k_ => some k_ ≠ (.slice (some ad237) y234.length co14 : Value).ownBlock) u7 x7_1) := ⟨by rw [← hq_]; exact (by (with_reducible repeat (first | apply Kd.R_alloc | apply Kd.R_drewN | apply Kd.R_drew)); exact HO_7.out)⟩; have n1_ : Aside0 (Kd.R (Kd.int .i64) 3 wr w.heap.size (fun k_ => some k_ ≠ (u7 : Value).ownBlock) (.slice (some ad237) y234.length co14) y234) := ⟨by rw [← hq_]; exact (by (with_reducible repeat (first | apply Kd.R_alloc | apply Kd.R_drewN | apply Kd.R_drew)); exact HO_8.out)⟩; have n2_ : Aside0 (wr.heap[gb233]? = some (.cells #[.int .i64 x234000_1, .int .i64 x234001_1, .int .i64 x234002_1, .int .i64 x234003_1, .string x234004_1] 23 (0, 0))) := ⟨by rw [← hq_]; exact (by (with_reducible repeat (first | refine blk_drewN ?_ _ | refine blk_drew ?_ | refine blk_alloc ?_ _)); exact BK233.out)⟩; have n3_ : Aside0 (Below w.heap.size w wr) := ⟨by rw [← hq_]; exact (by repeat (first | (with_reducible first | exact HB.out | apply below_alloc | apply pw_below_drewN | apply below_drew1 | refine below_set ?_ GE233.out) | exact HB.out))⟩; clear HO_7 HO_8 BK233 HB hq_; have HO_7 := n0_; have HO_8 := n1_; have BK233 := n2_; have HB := n3_; clear n0_ n1_ n2_ n3_)); have hcz15_0 : wr.cell? ⟨gb233, 0, none⟩ = some (.int .i64 x234000_1) := (blk_cell BK233.out 0).trans rfl; have hcz15_1 : wr.cell? ⟨gb233, 1, none⟩ = some (.int .i64 x234001_1) := (blk_cell BK233.out 1).trans rfl; have hcz15_2 : wr.cell? ⟨gb233, 2, none⟩ = some (.int .i64 x234002_1) := (blk_cell BK233.out 2).trans rfl; have hcz15_3 : wr.cell? ⟨gb233, 3, none⟩ = some (.int .i64 x234003_1) := (blk_cell BK233.out 3).trans rfl; have hcz15_4 : wr.cell? ⟨gb233, 4, none⟩ = some (.string x234004_1) := (blk_cell BK233.out 4).trans rfl; have hfz15_0 := blk_frozen BK233.out 0; have hfz15_1 := blk_frozen BK233.out 1; have hfz15_2 := blk_frozen BK233.out 2; have hfz15_3 := blk_frozen BK233.out 3; have hfz15_4 := blk_frozen BK233.out 4))
          refine bodyPost_ret (results_ctt rfl _ _ gb233 23 #[.int .i64 0, .int .i64 0, .int .i64 0, .int .i64 0, .string (⟨#[]⟩ : ByteArray)] (0, 0) _ rfl (by (with_reducible repeat (first | refine blk_drewN ?_ _ | refine blk_drew ?_ | refine blk_alloc ?_ _)); refine blk_put (cs := #[.int .i64 0, .int .i64 0, .int .i64 0, .int .i64 0, .string x234004_1]) ?_ 4 _ rfl; (with_reducible repeat (first | refine blk_drewN ?_ _ | refine blk_drew ?_ | refine blk_alloc ?_ _)); refine blk_put (cs := #[.int .i64 0, .int .i64 0, .int .i64 0, .int .i64 x234003_1, .string x234004_1]) ?_ 3 _ rfl; (with_reducible repeat (first | refine blk_drewN ?_ _ | refine blk_drew ?_ | refine blk_alloc ?_ _)); refine blk_put (cs := #[.int .i64 0, .int .i64 0, .int .i64 x234002_1, .int .i64 x234003_1, .string x234004_1]) ?_ 2 _ rfl; (with_reducible repeat (first | refine blk_drewN ?_ _ | refine blk_drew ?_ | refine blk_alloc ?_ _)); refine blk_put (cs := #[.int .i64 0, .int .i64 x234001_1, .int .i64 x234002_1, .int .i64 x234003_1, .string x234004_1]) ?_ 1 _ rfl; (with_reducible repeat (first | refine blk_drewN ?_ _ | refine blk_drew ?_ | refine blk_alloc ?_ _)); refine blk_put (cs := #[.int .i64 x234000_1, .int .i64 x234001_1, .int .i64 x234002_1, .int .i64 x234003_1, .string x234004_1]) ?_ 0 _ rfl; (with_reducible repeat (first | refine blk_drewN ?_ _ | refine blk_drew ?_ | refine blk_alloc ?_ _)); exact BK233.out) Try.underlying23 rfl (by kernel_rfl)) rfl ?_
          exact ⟨by first | rfl | (simp [errW_none, errW_some] <;> rfl) | (simp [*, errW_none, errW_some] <;> rfl), by repeat (first | (with_reducible first | exact HB.out | apply below_alloc | apply pw_below_drewN | apply below_drew1 | refine below_set ?_ GE233.out) | exact HB.out)⟩
      · rw [if_neg c6] at H
        have c6b0 : decide (x9_1 < 5) = false := decide_eq_false c6
        clear c6
        by_cases c16 : 4 < (x7_1.length : Int)
        rotate_left
        · rw [if_neg c16] at H
          exact absurd H (by simp)
        rw [if_pos c16] at H
        have c16b0 : decide (4 < (x7_1.length : Int)) = true := decide_eq_true c16
        have c16b1 : decide (4 < x7_1.length) = true := decide_eq_true (by omega)
        clear c16
        by_cases c17 : (rd x7_1 4) > 256
        · rw [if_pos c17] at H
          have c17b0 : decide (256 < (rd x7_1 4)) = true := decide_eq_true c17
          clear c17
          simp only [Option.some.injEq, Prod.mk.injEq] at H
          obtain ⟨rfl, rfl, rfl, rfl, rfl, rfl, rfl⟩ := H
          obtain ⟨Ao18, co18, eo18⟩ := Kd.R_slice HO_7.out
          subst eo18
          have p244 : 0 ≤ (4 : Int) := (by omega)
          have q244 : 4 < (x7_1.length : Int) := of_decide_eq_true (by first | (with_reducible assumption) | assumption)
          obtain ⟨ad244, e244, hx244_0⟩ := Kd.at_int (Kd.R_reads' HO_7.out).2.2 4 p244 q244
          cases e244
          (try simp only [show (4 : Int).toNat = 4 from rfl, Nat.reduceMul, Nat.reduceEqDiff, Go.Addr.add, ↓reduceIte] at hx244_0)
          have qi244 : (4 < x7_1.length) = True := eq_true (by omega)
          (try rw [show ((4 : Int)).toNat = 4 from rfl] at hx244_0)
          replace p244 := eq_true p244
          replace q244 := eq_true q244
          have hcz19_0 : wr.cell? ⟨gb233, 0, none⟩ = some (.int .i64 x234000_1) := (blk_cell BK233.out 0).trans rfl
          have hcz19_1 : wr.cell? ⟨gb233, 1, none⟩ = some (.int .i64 x234001_1) := (blk_cell BK233.out 1).trans rfl
          have hcz19_2 : wr.cell? ⟨gb233, 2, none⟩ = some (.int .i64 x234002_1) := (blk_cell BK233.out 2).trans rfl
          have hcz19_3 : wr.cell? ⟨gb233, 3, none⟩ = some (.int .i64 x234003_1) := (blk_cell BK233.out 3).trans rfl
          have hcz19_4 : wr.cell? ⟨gb233, 4, none⟩ = some (.string x234004_1) := (blk_cell BK233.out 4).trans rfl
          have hfz19_0 := blk_frozen BK233.out 0
          have hfz19_1 := blk_frozen BK233.out 1
          have hfz19_2 := blk_frozen BK233.out 2
          have hfz19_3 := blk_frozen BK233.out 3
          have hfz19_4 := blk_frozen BK233.out 4
          go_wp2
          refine bodyPost_ret (results_ctt rfl _ _ gb233 23 #[.int .i64 0, .int .i64 0, .int .i64 0, .int .i64 0, .string (⟨#[]⟩ : ByteArray)] (0, 0) _ rfl (by (with_reducible repeat (first | refine blk_drewN ?_ _ | refine blk_drew ?_ | refine blk_alloc ?_ _)); refine blk_put (cs := #[.int .i64 0, .int .i64 0, .int .i64 0, .int .i64 0, .string x234004_1]) ?_ 4 _ rfl; (with_reducible repeat (first | refine blk_drewN ?_ _ | refine blk_drew ?_ | refine blk_alloc ?_ _)); refine blk_put (cs := #[.int .i64 0, .int .i64 0, .int .i64 0, .int .i64 x234003_1, .string x234004_1]) ?_ 3 _ rfl; (with_reducible repeat (first | refine blk_drewN ?_ _ | refine blk_drew ?_ | refine blk_alloc ?_ _)); refine blk_put (cs := #[.int .i64 0, .int .i64 0, .int .i64 x234002_1, .int .i64 x234003_1, .string x234004_1]) ?_ 2 _ rfl; (with_reducible repeat (first | refine blk_drewN ?_ _ | refine blk_drew ?_ | refine blk_alloc ?_ _)); refine blk_put (cs := #[.int .i64 0, .int .i64 x234001_1, .int .i64 x234002_1, .int .i64 x234003_1, .string x234004_1]) ?_ 1 _ rfl; (with_reducible repeat (first | refine blk_drewN ?_ _ | refine blk_drew ?_ | refine blk_alloc ?_ _)); refine blk_put (cs := #[.int .i64 x234000_1, .int .i64 x234001_1, .int .i64 x234002_1, .int .i64 x234003_1, .string x234004_1]) ?_ 0 _ rfl; (with_reducible repeat (first | refine blk_drewN ?_ _ | refine blk_drew ?_ | refine blk_alloc ?_ _)); exact BK233.out) Try.underlying23 rfl (by kernel_rfl)) rfl ?_
          exact ⟨by first | rfl | (simp [errW_none, errW_some] <;> rfl) | (simp [*, errW_none, errW_some] <;> rfl), by repeat (first | (with_reducible first | exact HB.out | apply below_alloc | apply pw_below_drewN | apply below_drew1 | refine below_set ?_ GE233.out) | exact HB.out)⟩
        · rw [if_neg c17] at H
          have c17b0 : decide (256 < (rd x7_1 4)) = false := decide_eq_false c17
          clear c17
          by_cases c20 : (wrap64 ((l0.length : Int) - x1_1)) < (rd x7_1 4)
          · rw [if_pos c20] at H
            have c20b0 : decide ((wrap64 ((l0.length : Int) - x1_1)) < (rd x7_1 4)) = true := decide_eq_true c20
            clear c20
            simp only [Option.some.injEq, Prod.mk.injEq] at H
            obtain ⟨rfl, rfl, rfl, rfl, rfl, rfl, rfl⟩ := H
            obtain ⟨Ao21, co21, eo21⟩ := Kd.R_slice HO_7.out
            subst eo21
            have p244 : 0 ≤ (4 : Int) := (by omega)
            have q244 : 4 < (x7_1.length : Int) := of_decide_eq_true (by first | (with_reducible assumption) | assumption)
            obtain ⟨ad244, e244, hx244_0⟩ := Kd.at_int (Kd.R_reads' HO_7.out).2.2 4 p244 q244
            cases e244
            (try simp only [show (4 : Int).toNat = 4 from rfl, Nat.reduceMul, Nat.reduceEqDiff, Go.Addr.add, ↓reduceIte] at hx244_0)
            have qi244 : (4 < x7_1.length) = True := eq_true (by omega)
            (try rw [show ((4 : Int)).toNat = 4 from rfl] at hx244_0)
            replace p244 := eq_true p244
            replace q244 := eq_true q244
            have p245 : 0 ≤ (4 : Int) := (by omega)
            have q245 : 4 < (x7_1.length : Int) := of_decide_eq_true (by first | (with_reducible assumption) | assumption)
            obtain ⟨ad245, e245, hx245_0⟩ := Kd.at_int (Kd.R_reads' HO_7.out).2.2 4 p245 q245
            obtain rfl : ad244 = ad245 := (by injection e245)
            (try simp only [show (4 : Int).toNat = 4 from rfl, Nat.reduceMul, Nat.reduceEqDiff, Go.Addr.add, ↓reduceIte] at hx245_0)
            have qi245 : (4 < x7_1.length) = True := eq_true (by omega)
            (try rw [show ((4 : Int)).toNat = 4 from rfl] at hx245_0)
            replace p245 := eq_true p245
            replace q245 := eq_true q245
            have hcz22_0 : wr.cell? ⟨gb233, 0, none⟩ = some (.int .i64 x234000_1) := (blk_cell BK233.out 0).trans rfl
            have hcz22_1 : wr.cell? ⟨gb233, 1, none⟩ = some (.int .i64 x234001_1) := (blk_cell BK233.out 1).trans rfl
            have hcz22_2 : wr.cell? ⟨gb233, 2, none⟩ = some (.int .i64 x234002_1) := (blk_cell BK233.out 2).trans rfl
            have hcz22_3 : wr.cell? ⟨gb233, 3, none⟩ = some (.int .i64 x234003_1) := (blk_cell BK233.out 3).trans rfl
            have hcz22_4 : wr.cell? ⟨gb233, 4, none⟩ = some (.string x234004_1) := (blk_cell BK233.out 4).trans rfl
            have hfz22_0 := blk_frozen BK233.out 0
            have hfz22_1 := blk_frozen BK233.out 1
            have hfz22_2 := blk_frozen BK233.out 2
            have hfz22_3 := blk_frozen BK233.out 3
            have hfz22_4 := blk_frozen BK233.out 4
            go_wp2
            refine bodyPost_ret (results_ctt rfl _ _ gb233 23 #[.int .i64 0, .int .i64 0, .int .i64 0, .int .i64 0, .string (⟨#[]⟩ : ByteArray)] (0, 0) _ rfl (by (with_reducible repeat (first | refine blk_drewN ?_ _ | refine blk_drew ?_ | refine blk_alloc ?_ _)); refine blk_put (cs := #[.int .i64 0, .int .i64 0, .int .i64 0, .int .i64 0, .string x234004_1]) ?_ 4 _ rfl; (with_reducible repeat (first | refine blk_drewN ?_ _ | refine blk_drew ?_ | refine blk_alloc ?_ _)); refine blk_put (cs := #[.int .i64 0, .int .i64 0, .int .i64 0, .int .i64 x234003_1, .string x234004_1]) ?_ 3 _ rfl; (with_reducible repeat (first | refine blk_drewN ?_ _ | refine blk_drew ?_ | refine blk_alloc ?_ _)); refine blk_put (cs := #[.int .i64 0, .int .i64 0, .int .i64 x234002_1, .int .i64 x234003_1, .string x234004_1]) ?_ 2 _ rfl; (with_reducible repeat (first | refine blk_drewN ?_ _ | refine blk_drew ?_ | refine blk_alloc ?_ _)); refine blk_put (cs := #[.int .i64 0, .int .i64 x234001_1, .int .i64 x234002_1, .int .i64 x234003_1, .string x234004_1]) ?_ 1 _ rfl; (with_reducible repeat (first | refine blk_drewN ?_ _ | refine blk_drew ?_ | refine blk_alloc ?_ _)); refine blk_put (cs := #[.int .i64 x234000_1, .int .i64 x234001_1, .int .i64 x234002_1, .int .i64 x234003_1, .string x234004_1]) ?_ 0 _ rfl; (with_reducible repeat (first | refine blk_drewN ?_ _ | refine blk_drew ?_ | refine blk_alloc ?_ _)); exact BK233.out) Try.underlying23 rfl (by kernel_rfl)) rfl ?_
            exact ⟨by first | rfl | (simp [errW_none, errW_some] <;> rfl) | (simp [*, errW_none, errW_some] <;> rfl), by repeat (first | (with_reducible first | exact HB.out | apply below_alloc | apply pw_below_drewN | apply below_drew1 | refine below_set ?_ GE233.out) | exact HB.out)⟩
          · rw [if_neg c20] at H
            have c20b0 : decide ((wrap64 ((l0.length : Int) - x1_1)) < (rd x7_1 4)) = false := decide_eq_false c20
            clear c20
            by_cases c23 : 0 < (x7_1.length : Int)
            rotate_left
            · rw [if_neg c23] at H
              exact absurd H (by simp)
            rw [if_pos c23] at H
            have c23b0 : decide (0 < (x7_1.length : Int)) = true := decide_eq_true c23
            have c23b1 : decide (0 < x7_1.length) = true := decide_eq_true (by omega)
            clear c23
            by_cases c24 : 1 < (x7_1.length : Int)
            rotate_left
            · rw [if_neg c24] at H
              exact absurd H (by simp)
            rw [if_pos c24] at H
            have c24b0 : decide (1 < (x7_1.length : Int)) = true := decide_eq_true c24
            have c24b1 : decide (1 < x7_1.length) = true := decide_eq_true (by omega)
            clear c24
            by_cases c25 : 2 < (x7_1.length : Int)
            rotate_left
            · rw [if_neg c25] at H
              exact absurd H (by simp)
            rw [if_pos c25] at H
            have c25b0 : decide (2 < (x7_1.length : Int)) = true := decide_eq_true c25
            have c25b1 : decide (2 < x7_1.length) = true := decide_eq_true (by omega)
            clear c25
            by_cases c26 : 3 < (x7_1.length : Int)
            rotate_left
            · rw [if_neg c26] at H
              exact absurd H (by simp)
            rw [if_pos c26] at H
            have c26b0 : decide (3 < (x7_1.length : Int)) = true := decide_eq_true c26
            have c26b1 : decide (3 < x7_1.length) = true := decide_eq_true (by omega)
            clear c26
            by_cases c27 : 0 ≤ x1_1
            rotate_left
            · rw [if_neg c27] at H
              exact absurd H (by simp)
            rw [if_pos c27] at H
            have c27b0 := eq_true c27
            have c27b1 : decide (0 ≤ x1_1) = true := decide_eq_true c27
            clear c27
            by_cases c28 : x1_1 ≤ (wrap64 (x1_1 + (rd x7_1 4)))
            rotate_left
            · rw [if_neg c28] at H
              exact absurd H (by simp)
            rw [if_pos c28] at H
            have c28b0 := eq_true c28
            have c28b1 : decide (x1_1 ≤ (wrap64 (x1_1 + (rd x7_1 4)))) = true := decide_eq_true c28
            by_cases c29 : (wrap64 (x1_1 + (rd x7_1 4))) ≤ (l0.length : Int)
            rotate_left
            · rw [if_neg c29] at H
              exact absurd H (by simp)
            rw [if_pos c29] at H
            have c29b0 := eq_true c29
            have c29b1 : decide ((wrap64 (x1_1 + (rd x7_1 4))) ≤ (l0.length : Int)) = true := decide_eq_true c29
            replace H := Option.bind_eq_some_iff.mp H
            obtain ⟨t253, A300, H⟩ := H
            replace H : (if t253 = true then (some (rd x7_1 0, rd x7_1 1, rd x7_1 2, rd x7_1 3, strOfNums ((l0.take ((wrap64 (x1_1 + (rd x7_1 4))) : Int).toNat).drop (x1_1 : Int).toNat), wrap64 (x1_1 + (rd x7_1 4)), 0)) else (some (0, 0, 0, 0, (⟨#[]⟩ : ByteArray), 0, 4))) = some (r1, r2, r3, r4, r5, r6, r7) := H
            have A30 := Aside0.mk A300
            clear A300
            by_cases c31 : t253 = true
            · subst c31
              have H1 : (some (rd x7_1 0, rd x7_1 1, rd x7_1 2, rd x7_1 3, strOfNums ((l0.take ((wrap64 (x1_1 + (rd x7_1 4))) : Int).toNat).drop (x1_1 : Int).toNat), wrap64 (x1_1 + (rd x7_1 4)), 0)) = some (r1, r2, r3, r4, r5, r6, r7) := by rw [if_pos rfl] at H; exact H
              clear H
              have H := H1
              clear H1
              simp only [Option.some.injEq, Prod.mk.injEq] at H
              obtain ⟨rfl, rfl, rfl, rfl, rfl, rfl, rfl⟩ := H
              obtain ⟨Ao32, co32, eo32⟩ := Kd.R_slice HO_7.out
              subst eo32
              have p244 : 0 ≤ (4 : Int) := (by omega)
              have q244 : 4 < (x7_1.length : Int) := of_decide_eq_true (by first | (with_reducible assumption) | assumption)
              obtain ⟨ad244, e244, hx244_0⟩ := Kd.at_int (Kd.R_reads' HO_7.out).2.2 4 p244 q244
              cases e244
              (try simp only [show (4 : Int).toNat = 4 from rfl, Nat.reduceMul, Nat.reduceEqDiff, Go.Addr.add, ↓reduceIte] at hx244_0)
              have qi244 : (4 < x7_1.length) = True := eq_true (by omega)
              (try rw [show ((4 : Int)).toNat = 4 from rfl] at hx244_0)
              replace p244 := eq_true p244
              replace q244 := eq_true q244
              have p245 : 0 ≤ (4 : Int) := (by omega)
              have q245 : 4 < (x7_1.length : Int) := of_decide_eq_true (by first | (with_reducible assumption) | assumption)
              obtain ⟨ad245, e245, hx245_0⟩ := Kd.at_int (Kd.R_reads' HO_7.out).2.2 4 p245 q245
              obtain rfl : ad244 = ad245 := (by injection e245)
              (try simp only [show (4 : Int).toNat = 4 from rfl, Nat.reduceMul, Nat.reduceEqDiff, Go.Addr.add, ↓reduceIte] at hx245_0)
              have qi245 : (4 < x7_1.length) = True := eq_true (by omega)
              (try rw [show ((4 : Int)).toNat = 4 from rfl] at hx245_0)
              replace p245 := eq_true p245
              replace q245 := eq_true q245
              try go_wp2
              have n0_ := Aside0.mk (Kd.R_drew HO_7.out)
              have n1_ := Aside0.mk (Kd.R_drew HO_8.out)
              have n2_ := Aside0.mk (blk_drew BK233.out)
              have n3_ := Aside0.mk (below_drew1 HB.out)
              clear HO_7
              clear HO_8
              clear BK233
              clear HB
              have HO_7 := n0_
              have HO_8 := n1_
              have BK233 := n2_
              have HB := n3_
              clear n0_ n1_ n2_ n3_
              have p246 : 0 ≤ (0 : Int) := (by omega)
              have q246 : 0 < (x7_1.length : Int) := of_decide_eq_true (by first | (with_reducible assumption) | assumption)
              obtain ⟨ad246, e246, hx246_0⟩ := Kd.at_int (Kd.R_reads' HO_7.out).2.2 0 p246 q246
              obtain rfl : ad244 = ad246 := (by injection e246)
              have qi246 : (0 < x7_1.length) = True := eq_true (by omega)
              (try rw [show ((0 : Int)).toNat = 0 from rfl] at hx246_0)
              (try rw [Addr.add_zero'] at hx246_0)
              replace p246 := eq_true p246
              replace q246 := eq_true q246
              have p247 : 0 ≤ (1 : Int) := (by omega)
              have q247 : 1 < (x7_1.length : Int) := of_decide_eq_true (by first | (with_reducible assumption) | assumption)
              obtain ⟨ad247, e247, hx247_0⟩ := Kd.at_int (Kd.R_reads' HO_7.out).2.2 1 p247 q247
              obtain rfl : ad244 = ad247 := (by injection e247)
              (try simp only [show (1 : Int).toNat = 1 from rfl, Nat.reduceMul, Nat.reduceEqDiff, Go.Addr.add, ↓reduceIte] at hx247_0)
              have qi247 : (1 < x7_1.length) = True := eq_true (by omega)
              (try rw [show ((1 : Int)).toNat = 1 from rfl] at hx247_0)
              replace p247 := eq_true p247
              replace q247 := eq_true q247
              have p248 : 0 ≤ (2 : Int) := (by omega)
              have q248 : 2 < (x7_1.length : Int) := of_decide_eq_true (by first | (with_reducible assumption) | assumption)
              obtain ⟨ad248, e248, hx248_0⟩ := Kd.at_int (Kd.R_reads' HO_7.out).2.2 2 p248 q248
              obtain rfl : ad244 = ad248 := (by injection e248)
              (try simp only [show (2 : Int).toNat = 2 from rfl, Nat.reduceMul, Nat.reduceEqDiff, Go.Addr.add, ↓reduceIte] at hx248_0)
              have qi248 : (2 < x7_1.length) = True := eq_true (by omega)
              (try rw [show ((2 : Int)).toNat = 2 from rfl] at hx248_0)
              replace p248 := eq_true p248
              replace q248 := eq_true q248
              have p249 : 0 ≤ (3 : Int) := (by omega)
              have q249 : 3 < (x7_1.length : Int) := of_decide_eq_true (by first | (with_reducible assumption) | assumption)
              obtain ⟨ad249, e249, hx249_0⟩ := Kd.at_int (Kd.R_reads' HO_7.out).2.2 3 p249 q249
              obtain rfl : ad244 = ad249 := (by injection e249)
              (try simp only [show (3 : Int).toNat = 3 from rfl, Nat.reduceMul, Nat.reduceEqDiff, Go.Addr.add, ↓reduceIte] at hx249_0)
              have qi249 : (3 < x7_1.length) = True := eq_true (by omega)
              (try rw [show ((3 : Int)).toNat = 3 from rfl] at hx249_0)
              replace p249 := eq_true p249
              replace q249 := eq_true q249
              have p250 : 0 ≤ (4 : Int) := (by omega)
              have q250 : 4 < (x7_1.length : Int) := of_decide_eq_true (by first | (with_reducible assumption) | assumption)
              obtain ⟨ad250, e250, hx250_0⟩ := Kd.at_int (Kd.R_reads' HO_7.out).2.2 4 p250 q250
              obtain rfl : ad244 = ad250 := (by injection e250)
              (try simp only [show (4 : Int).toNat = 4 from rfl, Nat.reduceMul, Nat.reduceEqDiff, Go.Addr.add, ↓reduceIte] at hx250_0)
              have qi250 : (4 < x7_1.length) = True := eq_true (by omega)
              (try rw [show ((4 : Int)).toNat = 4 from rfl] at hx250_0)
              replace p250 := eq_true p250
              replace q250 := eq_true q250
              obtain ⟨i034, hi034, _, hsz34, _⟩ := info_parts info5
              obtain ⟨A34, hcut34, hA34, hC34⟩ := print_mid_of (P := Try.prog) (Value.int .u8) 0 24 5 .i64 .i64 Try.underlying24 hi034 hsz34 A0 c0 l0 x1_1 (wrap64 (x1_1 + (rd x7_1 4))) (of_decide_eq_true (by first | (with_reducible assumption) | assumption)) (by first | omega | exact of_decide_eq_true (by first | (with_reducible assumption) | assumption)) (of_decide_eq_true (by first | (with_reducible assumption) | assumption)) HC0.out
              have HR251 := Aside0.mk (Kd.C_of_reads (h1 := fun _ => rfl) (hA34 _ (Kd.reads_of_C HR0.out)))
              have HC251 := Aside0.mk hC34
              clear hA34 hC34 hi034 hsz34
              refine start_ (n := 24) (S := fun w' => w'.cell? ad244 = some (.int .i64 (rd x7_1 0)) ∧ w'.cell? ⟨ad244.block, ad244.off + 1, none⟩ = some (.int .i64 (rd x7_1 1)) ∧ w'.cell? ⟨ad244.block, ad244.off + 2, none⟩ = some (.int .i64 (rd x7_1 2)) ∧ w'.cell? ⟨ad244.block, ad244.off + 3, none⟩ = some (.int .i64 (rd x7_1 3)) ∧ w'.cell? ⟨ad244.block, ad244.off + 4, none⟩ = some (.int .i64 (rd x7_1 4)) ∧ (convert 24 9 (.slice A34 _ (c0 - x1_1.toNat))).run Try.prog w' = .ok (.string (strOfNums ((l0.take ((wrap64 (x1_1 + (rd x7_1 4))) : Int).toNat).drop (x1_1 : Int).toNat))) w') (ds := []) #[false, false, false, false, false, false, false, false, false, false, false, false, false, false, false, false, false, false, false, false, false, false, false, false] (by kernel_rfl) rfl rfl ⟨hx246_0, hx247_0, hx248_0, hx249_0, hx250_0, (Kd.C_string (P := Try.prog) (A := A34) (c := (c0 - x1_1.toNat)) Try.underlying24 Try.underlying5 Try.underlying9 (Kd.C_below HR251.out HB.out))⟩ (fun hHeld => ?_); refine with_tabW thalwegref08_Parse.tab15 thalwegref08_Parse.bits15 (fun HT_ HW_ => ?_)
              generalize wr.drew = w33 at HO_7 HO_8 BK233 HB HR251 hx246_0 hx247_0 hx248_0 hx249_0 hx250_0 hHeld ⊢
              refine pure_ (i := 0) (N := some 53) (v := ?_) (a' := ?_) #[true, false, false, false, false, false, false, false, false, false, false, false, false, false, false, false, false, false, false, false, false, false, false, false] rfl rfl (any_of HT_.out (by kernel_rfl)) (fun _ _ _ h => h) (Or.inl ⟨by rfl, ?_⟩) ?_ ?_
              rotate_left
              · intro w'
                go_simp
                with_reducible rfl
              rotate_left
              · simp only [Act.put, List.setIfInBounds_toArray, List.set_cons_zero, List.set_cons_succ, i64_w, i32_w]
                rfl
              refine pure_ (i := 1) (N := some 54) (v := ?_) (a' := ?_) #[true, true, false, false, false, false, false, false, false, false, false, false, false, false, false, false, false, false, false, false, false, false, false, false] rfl rfl (any_of HT_.out (by kernel_rfl)) (fun _ _ _ h => h) (Or.inl ⟨by rfl, ?_⟩) ?_ ?_
              rotate_left
              · intro w'
                go_simp
                with_reducible rfl
              rotate_left
              · simp only [Act.put, List.setIfInBounds_toArray, List.set_cons_zero, List.set_cons_succ, i64_w, i32_w]
                rfl
              refine pure_ (i := 3) (N := some 56) (v := ?_) (a' := ?_) #[true, true, false, true, false, false, false, false, false, false, false, false, false, false, false, false, false, false, false, false, false, false, false, false] rfl rfl (any_of HT_.out (by kernel_rfl)) (fun _ _ _ h => h) (Or.inl ⟨by rfl, ?_⟩) ?_ ?_
              rotate_left
              · intro w'
                go_simp
                with_reducible rfl
              rotate_left
              · simp only [Act.put, List.setIfInBounds_toArray, List.set_cons_zero, List.set_cons_succ, i64_w, i32_w]
                rfl
              refine pure_ (i := 4) (N := some 57) (v := ?_) (a' := ?_) #[true, true, false, true, true, false, false, false, false, false, false, false, false, false, false, false, false, false, false, false, false, false, false, false] rfl rfl (any_of HT_.out (by kernel_rfl)) (fun _ _ _ h => h) (Or.inl ⟨by rfl, ?_⟩) ?_ ?_
              rotate_left
              · intro w'
                go_simp
                with_reducible rfl
              rotate_left
              · simp only [Act.put, List.setIfInBounds_toArray, List.set_cons_zero, List.set_cons_succ, i64_w, i32_w]
                rfl
              refine pure_ (i := 6) (N := some 59) (v := ?_) (a' := ?_) #[true, true, false, true, true, false, true, false, false, false, false, false, false, false, false, false, false, false, false, false, false, false, false, false] rfl rfl (any_of HT_.out (by kernel_rfl)) (fun _ _ _ h => h) (Or.inl ⟨by rfl, ?_⟩) ?_ ?_
              rotate_left
              · intro w'
                go_simp
                with_reducible rfl
              rotate_left
              · simp only [Act.put, List.setIfInBounds_toArray, List.set_cons_zero, List.set_cons_succ, i64_w, i32_w]
                rfl
              refine pure_ (i := 7) (N := some 60) (v := ?_) (a' := ?_) #[true, true, false, true, true, false, true, true, false, false, false, false, false, false, false, false, false, false, false, false, false, false, false, false] rfl rfl (any_of HT_.out (by kernel_rfl)) (fun _ _ _ h => h) (Or.inl ⟨by rfl, ?_⟩) ?_ ?_
              rotate_left
              · intro w'
                go_simp
                with_reducible rfl
              rotate_left
              · simp only [Act.put, List.setIfInBounds_toArray, List.set_cons_zero, List.set_cons_succ, i64_w, i32_w]
                rfl
              refine pure_ (i := 9) (N := some 62) (v := ?_) (a' := ?_) #[true, true, false, true, true, false, true, true, false, true, false, false, false, false, false, false, false, false, false, false, false, false, false, false] rfl rfl (any_of HT_.out (by kernel_rfl)) (fun _ _ _ h => h) (Or.inl ⟨by rfl, ?_⟩) ?_ ?_
              rotate_left
              · intro w'
                go_simp
                with_reducible rfl
              rotate_left
              · simp only [Act.put, List.setIfInBounds_toArray, List.set_cons_zero, List.set_cons_succ, i64_w, i32_w]
                rfl
              refine pure_ (i := 10) (N := some 63) (v := ?_) (a' := ?_) #[true, true, false, true, true, false, true, true, false, true, true, false, false, false, false, false, false, false, false, false, false, false, false, false] rfl rfl (any_of HT_.out (by kernel_rfl)) (fun _ _ _ h => h) (Or.inl ⟨by rfl, ?_⟩) ?_ ?_
              rotate_left
              · intro w'
                go_simp
                with_reducible rfl
              rotate_left
              · simp only [Act.put, List.setIfInBounds_toArray, List.set_cons_zero, List.set_cons_succ, i64_w, i32_w]
                rfl
              refine pure_ (i := 12) (N := some 65) (v := ?_) (a' := ?_) #[true, true, false, true, true, false, true, true, false, true, true, false, true, false, false, false, false, false, false, false, false, false, false, false] rfl rfl (any_of HT_.out (by kernel_rfl)) (fun _ _ _ h => h) (Or.inl ⟨by rfl, ?_⟩) ?_ ?_
              rotate_left
              · intro w'
                go_simp
                with_reducible rfl
              rotate_left
              · simp only [Act.put, List.setIfInBounds_toArray, List.set_cons_zero, List.set_cons_succ, i64_w, i32_w]
                rfl
              refine pure_ (i := 13) (N := some 66) (v := ?_) (a' := ?_) #[true, true, false, true, true, false, true, true, false, true, true, false, true, true, false, false, false, false, false, false, false, false, false, false] rfl rfl (any_of HT_.out (by kernel_rfl)) (fun _ _ _ h => h) (Or.inl ⟨by rfl, ?_⟩) ?_ ?_
              rotate_left
              · intro w'
                go_simp
                with_reducible rfl
              rotate_left
              · simp only [Act.put, List.setIfInBounds_toArray, List.set_cons_zero, List.set_cons_succ, i64_w, i32_w]
                rfl
              refine pure_ (i := 14) (N := some 67) (v := ?_) (a' := ?_) #[true, true, false, true, true, false, true, true, false, true, true, false, true, true, true, false, false, false, false, false, false, false, false, false] rfl rfl (any_of HT_.out (by kernel_rfl)) (fun _ _ _ h => h) (Or.inl ⟨by rfl, ?_⟩) ?_ ?_
              rotate_left
              · intro w'
                go_simp
                with_reducible rfl
              rotate_left
              · simp only [Act.put, List.setIfInBounds_toArray, List.set_cons_zero, List.set_cons_succ, i64_w, i32_w]
                rfl
              refine pure_ (i := 15) (N := some 68) (v := ?_) (a' := ?_) #[true, true, false, true, true, false, true, true, false, true, true, false, true, true, true, true, false, false, false, false, false, false, false, false] rfl rfl (any_of HT_.out (by kernel_rfl)) (fun _ _ _ h => h) (Or.inl ⟨by rfl, ?_⟩) ?_ ?_
              rotate_left
              · intro w'
                go_simp
                with_reducible rfl
              rotate_left
              · simp only [Act.put, List.setIfInBounds_toArray, List.set_cons_zero, List.set_cons_succ, i64_w, i32_w]
                rfl
              refine pure_ (i := 16) (N := some 69) (v := ?_) (a' := ?_) #[true, true, false, true, true, false, true, true, false, true, true, false, true, true, true, true, true, false, false, false, false, false, false, false] rfl rfl (any_of HT_.out (by kernel_rfl)) (fun _ _ _ h => h) (Or.inl ⟨by rfl, ?_⟩) ?_ ?_
              rotate_left
              · intro w'
                go_simp
                with_reducible rfl
              rotate_left
              · simp only [Act.put, List.setIfInBounds_toArray, List.set_cons_zero, List.set_cons_succ, i64_w, i32_w]
                rfl
              refine take_ (i := 2) (N := some 55) (v := ?_) (a' := ?_) #[true, true, true, true, true, false, true, true, false, true, true, false, true, true, true, true, true, false, false, false, false, false, false, false] rfl rfl (take_ofW HT_.out HW_.out (by kernel_rfl)) (fun _ _ _ h => h) (Or.inl ⟨by rfl, ?_⟩) hHeld ?_ ?_
              rotate_left
              · rintro w' ⟨s0, s1, s2, s3, s4, s5⟩
                first | (go_simp; with_reducible rfl) | ((try simp [*] at s5); go_simp; with_reducible rfl)
              rotate_left
              · simp only [Act.put, List.setIfInBounds_toArray, List.set_cons_zero, List.set_cons_succ, i64_w, i32_w]
                rfl
              refine take_ (i := 5) (N := some 58) (v := ?_) (a' := ?_) #[true, true, true, true, true, true, true, true, false, true, true, false, true, true, true, true, true, false, false, false, false, false, false, false] rfl rfl (take_ofW HT_.out HW_.out (by kernel_rfl)) (fun _ _ _ h => h) (Or.inl ⟨by rfl, ?_⟩) hHeld ?_ ?_
              rotate_left
              · rintro w' ⟨s0, s1, s2, s3, s4, s5⟩
                first | (go_simp; with_reducible rfl) | ((try simp [*] at s5); go_simp; with_reducible rfl)
              rotate_left
              · simp only [Act.put, List.setIfInBounds_toArray, List.set_cons_zero, List.set_cons_succ, i64_w, i32_w]
                rfl
              refine take_ (i := 8) (N := some 61) (v := ?_) (a' := ?_) #[true, true, true, true, true, true, true, true, true, true, true, false, true, true, true, true, true, false, false, false, false, false, false, false] rfl rfl (take_ofW HT_.out HW_.out (by kernel_rfl)) (fun _ _ _ h => h) (Or.inl ⟨by rfl, ?_⟩) hHeld ?_ ?_
              rotate_left
              · rintro w' ⟨s0, s1, s2, s3, s4, s5⟩
                first | (go_simp; with_reducible rfl) | ((try simp [*] at s5); go_simp; with_reducible rfl)
              rotate_left
              · simp only [Act.put, List.setIfInBounds_toArray, List.set_cons_zero, List.set_cons_succ, i64_w, i32_w]
                rfl
              refine take_ (i := 11) (N := some 64) (v := ?_) (a' := ?_) #[true, true, true, true, true, true, true, true, true, true, true, true, true, true, true, true, true, false, false, false, false, false, false, false] rfl rfl (take_ofW HT_.out HW_.out (by kernel_rfl)) (fun _ _ _ h => h) (Or.inl ⟨by rfl, ?_⟩) hHeld ?_ ?_
              rotate_left
              · rintro w' ⟨s0, s1, s2, s3, s4, s5⟩
                first | (go_simp; with_reducible rfl) | ((try simp [*] at s5); go_simp; with_reducible rfl)
              rotate_left
              · simp only [Act.put, List.setIfInBounds_toArray, List.set_cons_zero, List.set_cons_succ, i64_w, i32_w]
                rfl
              refine take_ (i := 17) (N := some 70) (v := ?_) (a' := ?_) #[true, true, true, true, true, true, true, true, true, true, true, true, true, true, true, true, true, true, false, false, false, false, false, false] rfl rfl (take_ofW HT_.out HW_.out (by kernel_rfl)) (fun _ _ _ h => h) (Or.inl ⟨by rfl, ?_⟩) hHeld ?_ ?_
              rotate_left
              · rintro w' ⟨s0, s1, s2, s3, s4, s5⟩
                first | (go_simp; with_reducible rfl) | ((try simp [*] at s5); go_simp; with_reducible rfl)
              rotate_left
              · simp only [Act.put, List.setIfInBounds_toArray, List.set_cons_zero, List.set_cons_succ, i64_w, i32_w]
                rfl
              refine pure_ (i := 18) (N := some 71) (v := ?_) (a' := ?_) #[true, true, true, true, true, true, true, true, true, true, true, true, true, true, true, true, true, true, true, false, false, false, false, false] rfl rfl (any_of HT_.out (by kernel_rfl)) (fun _ _ _ h => h) (Or.inl ⟨by rfl, ?_⟩) ?_ ?_
              rotate_left
              · intro w'
                go_simp
                with_reducible rfl
              rotate_left
              · simp only [Act.put, List.setIfInBounds_toArray, List.set_cons_zero, List.set_cons_succ, i64_w, i32_w]
                rfl
              refine pure_ (i := 19) (N := some 72) (v := ?_) (a' := ?_) #[true, true, true, true, true, true, true, true, true, true, true, true, true, true, true, true, true, true, true, true, false, false, false, false] rfl rfl (any_of HT_.out (by kernel_rfl)) (fun _ _ _ h => h) (Or.inl ⟨by rfl, ?_⟩) ?_ ?_
              rotate_left
              · intro w'
                go_simp
                with_reducible rfl
              rotate_left
              · simp only [Act.put, List.setIfInBounds_toArray, List.set_cons_zero, List.set_cons_succ, i64_w, i32_w]
                rfl
              refine take_ (i := 20) (N := some 73) (v := ?_) (a' := ?_) #[true, true, true, true, true, true, true, true, true, true, true, true, true, true, true, true, true, true, true, true, true, false, false, false] rfl rfl (take_ofW HT_.out HW_.out (by kernel_rfl)) (fun _ _ _ h => h) (Or.inl ⟨by rfl, ?_⟩) hHeld ?_ ?_
              rotate_left
              · rintro w' ⟨s0, s1, s2, s3, s4, s5⟩
                first | (go_simp; with_reducible rfl) | ((try simp [*] at s5); go_simp; with_reducible rfl)
              rotate_left
              · simp only [Act.put, List.setIfInBounds_toArray, List.set_cons_zero, List.set_cons_succ, i64_w, i32_w]
                rfl
              refine pure_ (i := 21) (N := some 74) (v := ?_) (a' := ?_) #[true, true, true, true, true, true, true, true, true, true, true, true, true, true, true, true, true, true, true, true, true, true, false, false] rfl rfl (any_of HT_.out (by kernel_rfl)) (fun _ _ _ h => h) (Or.inl ⟨by rfl, ?_⟩) ?_ ?_
              rotate_left
              · intro w'
                go_simp
                with_reducible rfl
              rotate_left
              · simp only [Act.put, List.setIfInBounds_toArray, List.set_cons_zero, List.set_cons_succ, i64_w, i32_w]
                rfl
              refine one_ (i := 22) (N := some 13) #[true, true, true, true, true, true, true, true, true, true, true, true, true, true, true, true, true, true, true, true, true, true, true, false] rfl rfl (one_of HT_.out (by kernel_rfl)) (by decide) (fun K hK => ?_)
              refine box_step ?hg (N := 13) ?hd (cs := #[.int .i64 0, .int .i64 0, .int .i64 0, .int .i64 0, .string (⟨#[]⟩ : ByteArray)]) (t := 23) ?hr ?_; (case hd => rfl); (case hg => rfl); (case hr => first | (go_simp; done) | (go_simp; rfl))
              intro gb252 hg w36 hbox hb
              have HS0_ := (hb.cell (World.block_lt_of_cell? _ _ (hHeld.1))).trans (hHeld.1)
              have HS1_ := (hb.cell (World.block_lt_of_cell? _ _ (hHeld.2.1))).trans (hHeld.2.1)
              have HS2_ := (hb.cell (World.block_lt_of_cell? _ _ (hHeld.2.2.1))).trans (hHeld.2.2.1)
              have HS3_ := (hb.cell (World.block_lt_of_cell? _ _ (hHeld.2.2.2.1))).trans (hHeld.2.2.2.1)
              have HS4_ := (hb.cell (World.block_lt_of_cell? _ _ (hHeld.2.2.2.2.1))).trans (hHeld.2.2.2.2.1)
              have n0_ := Aside0.mk (Kd.R_below (by (with_reducible repeat (first | apply Kd.R_alloc | apply Kd.R_drewN | apply Kd.R_drew)); exact HO_7.out) hb)
              have n1_ := Aside0.mk (Kd.R_below (by (with_reducible repeat (first | apply Kd.R_alloc | apply Kd.R_drewN | apply Kd.R_drew)); exact HO_8.out) hb)
              have n2_ := Aside0.mk (blk_below (g := gb233) (o := .cells #[.int .i64 x234000_1, .int .i64 x234001_1, .int .i64 x234002_1, .int .i64 x234003_1, .string x234004_1] 23 (0, 0)) (by (with_reducible repeat (first | refine blk_drewN ?_ _ | refine blk_drew ?_ | refine blk_alloc ?_ _)); exact BK233.out) hb)
              have n3_ := Aside0.mk (below_step (by repeat (first | (with_reducible first | exact HB.out | apply below_alloc | apply pw_below_drewN | apply below_drew1 | refine below_set ?_ GE233.out) | exact HB.out)) hb)
              have n4_ := Aside0.mk (hbox)
              have n5_ := Aside0.mk ((by rw [hg]; exact (below_size (by repeat (first | (with_reducible first | exact HB.out | apply below_alloc | apply pw_below_drewN | apply below_drew1 | refine below_set ?_ GE233.out) | exact HB.out))) : w.heap.size ≤ gb252))
              have n6_ := Aside0.mk ((by rw [hg]; exact (below_size (by repeat (first | (with_reducible first | exact HB.out | apply below_alloc | apply pw_below_drewN | apply below_drew1 | refine below_set ?_ GE233.out) | exact HB.out))) : w.heap.size ≤ gb252))
              have n7_ := Aside0.mk ((by rw [hg]; exact Nat.ne_of_lt (blk_lt (g := gb233) (o := .cells #[.int .i64 x234000_1, .int .i64 x234001_1, .int .i64 x234002_1, .int .i64 x234003_1, .string x234004_1] 23 (0, 0)) (by (with_reducible repeat (first | refine blk_drewN ?_ _ | refine blk_drew ?_ | refine blk_alloc ?_ _)); exact BK233.out)) : gb233 ≠ gb252))
              have n8_ := Aside0.mk ((by rw [hg]; exact Nat.ne_of_gt (blk_lt (g := gb233) (o := .cells #[.int .i64 x234000_1, .int .i64 x234001_1, .int .i64 x234002_1, .int .i64 x234003_1, .string x234004_1] 23 (0, 0)) (by (with_reducible repeat (first | refine blk_drewN ?_ _ | refine blk_drew ?_ | refine blk_alloc ?_ _)); exact BK233.out)) : gb252 ≠ gb233))
              clear HO_7
              clear HO_8
              clear BK233
              clear HB
              have HO_7 := n0_
              have HO_8 := n1_
              have BK233 := n2_
              have HB := n3_
              have BK252 := n4_
              have GW252 := n5_
              have GE252 := n6_
              have NB233_252 := n7_
              have NB252_233 := n8_
              clear n0_ n1_ n2_ n3_ n4_ n5_ n6_ n7_ n8_
              clear hb hbox hg
              refine hK.out _ _ ⟨HS0_, HS1_, HS2_, HS3_, HS4_, (Kd.C_string (P := Try.prog) (A := A34) (c := (c0 - x1_1.toNat)) Try.underlying24 Try.underlying5 Try.underlying9 (Kd.C_below HR251.out HB.out))⟩ (fun hHeld => ?_)
              clear hK K
              refine norm_ (a' := ?_) ?_ ?_
              rotate_left
              · show Act.put _ (some 13) _ = _
                simp only [Act.put, List.setIfInBounds_toArray, List.set_cons_zero, List.set_cons_succ, i64_w, i32_w]
                rfl
              refine one_ (i := 23) (N := none) #[true, true, true, true, true, true, true, true, true, true, true, true, true, true, true, true, true, true, true, true, true, true, true, true] rfl rfl (one_of HT_.out (by kernel_rfl)) (by decide) (fun K hK => ?_)
              have hs37 : w36.cell? ⟨gb252, 0, none⟩ = some (.int .i64 0) := (blk_cell BK252.out 0).trans rfl
              have hfs37 := blk_frozen BK252.out 0
              have hns37_0 := NB233_252.out
              have hms37_0 := NB252_233.out
              have hs38 : w36.cell? ⟨gb252, 1, none⟩ = some (.int .i64 0) := (blk_cell BK252.out 1).trans rfl
              have hfs38 := blk_frozen BK252.out 1
              have hns38_0 := NB233_252.out
              have hms38_0 := NB252_233.out
              have hs39 : w36.cell? ⟨gb252, 2, none⟩ = some (.int .i64 0) := (blk_cell BK252.out 2).trans rfl
              have hfs39 := blk_frozen BK252.out 2
              have hns39_0 := NB233_252.out
              have hms39_0 := NB252_233.out
              have hs40 : w36.cell? ⟨gb252, 3, none⟩ = some (.int .i64 0) := (blk_cell BK252.out 3).trans rfl
              have hfs40 := blk_frozen BK252.out 3
              have hns40_0 := NB233_252.out
              have hms40_0 := NB252_233.out
              have hs41 : w36.cell? ⟨gb252, 4, none⟩ = some (.string (⟨#[]⟩ : ByteArray)) := (blk_cell BK252.out 4).trans rfl
              have hfs41 := blk_frozen BK252.out 4
              have hns41_0 := NB233_252.out
              have hms41_0 := NB252_233.out
              refine skip_ (w1 := ?_) (by rfl) rfl ?_ ?_
              rotate_left
              · go_simp
                rfl
              have hA_ : ad244.block ≠ gb252 := by first | exact Kd.own_blk (Kd.R_ne HO_7.out BK252.out (by decide)) | (rw [add_block]; exact Kd.own_blk (Kd.R_ne HO_7.out BK252.out (by decide))) | (show (Addr.add _ _).block ≠ _; rw [add_block]; exact Kd.own_blk (Kd.R_ne HO_7.out BK252.out (by decide))) | (dsimp only; exact Kd.own_blk (Kd.R_ne HO_7.out BK252.out (by decide)))
              refine hK.out _ _ ?_ (fun hHeld2 => ?_)
              · refine ⟨?_, ?_, ?_, ?_, ?_, ?_⟩
                · (repeat (refine (cell_far hA_ _).trans ?_)); exact hHeld.1
                · (repeat (refine (cell_far hA_ _).trans ?_)); exact hHeld.2.1
                · (repeat (refine (cell_far hA_ _).trans ?_)); exact hHeld.2.2.1
                · (repeat (refine (cell_far hA_ _).trans ?_)); exact hHeld.2.2.2.1
                · (repeat (refine (cell_far hA_ _).trans ?_)); exact hHeld.2.2.2.2.1
                · exact Kd.C_string (P := Try.prog) (A := A34) (c := (c0 - x1_1.toNat)) Try.underlying24 Try.underlying5 Try.underlying9 (Kd.C_below HR251.out (by repeat (first | exact HB.out | refine below_set ?_ GE252.out)))
              clear hHeld
              have hHeld := hHeld2
              clear hHeld2
              clear hK K
              refine done_ (done_of HT_.out (by kernel_rfl)) ?_
              have hnb42 := NB252_233.out
              have hnc42 := NB233_252.out
              have hcz43_0 : w36.cell? ⟨gb252, 0, none⟩ = some (.int .i64 0) := (blk_cell BK252.out 0).trans rfl
              have hcz43_1 : w36.cell? ⟨gb252, 1, none⟩ = some (.int .i64 0) := (blk_cell BK252.out 1).trans rfl
              have hcz43_2 : w36.cell? ⟨gb252, 2, none⟩ = some (.int .i64 0) := (blk_cell BK252.out 2).trans rfl
              have hcz43_3 : w36.cell? ⟨gb252, 3, none⟩ = some (.int .i64 0) := (blk_cell BK252.out 3).trans rfl
              have hcz43_4 : w36.cell? ⟨gb252, 4, none⟩ = some (.string (⟨#[]⟩ : ByteArray)) := (blk_cell BK252.out 4).trans rfl
              have hfz43_0 := blk_frozen BK252.out 0
              have hfz43_1 := blk_frozen BK252.out 1
              have hfz43_2 := blk_frozen BK252.out 2
              have hfz43_3 := blk_frozen BK252.out 3
              have hfz43_4 := blk_frozen BK252.out 4
              try go_wp2_with (first | ((with_reducible refine gate_callee (f := 14) rfl ?_); refine goesL_ (some 76) rfl rfl Try.func14 (by kernel_rfl) rfl #[.agg #[.int .i64 (rd x7_1 0), .int .i64 (rd x7_1 1), .int .i64 (rd x7_1 2), .int .i64 (rd x7_1 3), .string (strOfNums ((l0.take ((wrap64 (x1_1 + (rd x7_1 4))) : Int).toNat).drop (x1_1 : Int).toNat))]] rfl (by (try simp only [List.map_toArray, List.map_cons, List.map_nil]); first | done | rfl | (simp only [List.length_drop, List.length_take]; rfl)) ?_; (with_reducible refine (thalwegref08_Right.calls (rd x7_1 0) (rd x7_1 1) (rd x7_1 2) (rd x7_1 3) (strOfNums ((l0.take ((wrap64 (x1_1 + (rd x7_1 4))) : Int).toNat).drop (x1_1 : Int).toNat)) true _ A30.out).mono ?_); rintro e w44 ⟨rfl, hb⟩; refine ⟨_, rfl, ?_⟩; have n0_ := Aside0.mk (Kd.R_below (by (with_reducible repeat (first | apply Kd.R_alloc | apply Kd.R_drewN | apply Kd.R_drew)); exact (Kd.R_mono (Kd.R_far (p := ⟨gb252, 4, none⟩) (Kd.R_far (p := ⟨gb252, 3, none⟩) (Kd.R_far (p := ⟨gb252, 2, none⟩) (Kd.R_far (p := ⟨gb252, 1, none⟩) (Kd.R_far (p := ⟨gb252, 0, none⟩) (Kd.R_types HO_7.out BK252.out (by decide)) (fun _ hk => hk.2) (.int .i64 (rd x7_1 0))) (fun _ hk => hk.2) (.int .i64 (rd x7_1 1))) (fun _ hk => hk.2) (.int .i64 (rd x7_1 2))) (fun _ hk => hk.2) (.int .i64 (rd x7_1 3))) (fun _ hk => hk.2) (.string (strOfNums ((l0.take ((wrap64 (x1_1 + (rd x7_1 4))) : Int).toNat).drop (x1_1 : Int).toNat)))) (fun _ h_ => h_.1))) hb); have n1_ := Aside0.mk (Kd.R_below (by (with_reducible repeat (first | apply Kd.R_alloc | apply Kd.R_drewN | apply Kd.R_drew)); exact (Kd.R_mono (Kd.R_far (p := ⟨gb252, 4, none⟩) (Kd.R_far (p := ⟨gb252, 3, none⟩) (Kd.R_far (p := ⟨gb252, 2, none⟩) (Kd.R_far (p := ⟨gb252, 1, none⟩) (Kd.R_far (p := ⟨gb252, 0, none⟩) (Kd.R_types HO_8.out BK252.out (by decide)) (fun _ hk => hk.2) (.int .i64 (rd x7_1 0))) (fun _ hk => hk.2) (.int .i64 (rd x7_1 1))) (fun _ hk => hk.2) (.int .i64 (rd x7_1 2))) (fun _ hk => hk.2) (.int .i64 (rd x7_1 3))) (fun _ hk => hk.2) (.string (strOfNums ((l0.take ((wrap64 (x1_1 + (rd x7_1 4))) : Int).toNat).drop (x1_1 : Int).toNat)))) (fun _ h_ => h_.1))) hb); have n2_ := Aside0.mk (blk_below (g := gb233) (o := .cells #[.int .i64 x234000_1, .int .i64 x234001_1, .int .i64 x234002_1, .int .i64 x234003_1, .string x234004_1] 23 (0, 0)) (by (with_reducible repeat (first | refine blk_drewN ?_ _ | refine blk_drew ?_ | refine blk_alloc ?_ _)); refine blk_far ?_ NB233_252.out _; (with_reducible repeat (first | refine blk_drewN ?_ _ | refine blk_drew ?_ | refine blk_alloc ?_ _)); refine blk_far ?_ NB233_252.out _; (with_reducible repeat (first | refine blk_drewN ?_ _ | refine blk_drew ?_ | refine blk_alloc ?_ _)); refine blk_far ?_ NB233_252.out _; (with_reducible repeat (first | refine blk_drewN ?_ _ | refine blk_drew ?_ | refine blk_alloc ?_ _)); refine blk_far ?_ NB233_252.out _; (with_reducible repeat (first | refine blk_drewN ?_ _ | refine blk_drew ?_ | refine blk_alloc ?_ _)); refine blk_far ?_ NB233_252.out _; (with_reducible repeat (first | refine blk_drewN ?_ _ | refine blk_drew ?_ | refine blk_alloc ?_ _)); exact BK233.out) hb); have n3_ := Aside0.mk (blk_below (g := gb252) (o := .cells #[.int .i64 (rd x7_1 0), .int .i64 (rd x7_1 1), .int .i64 (rd x7_1 2), .int .i64 (rd x7_1 3), .string (strOfNums ((l0.take ((wrap64 (x1_1 + (rd x7_1 4))) : Int).toNat).drop (x1_1 : Int).toNat))] 23 (0, 0)) (by (with_reducible repeat (first | refine blk_drewN ?_ _ | refine blk_drew ?_ | refine blk_alloc ?_ _)); refine blk_put (cs := #[.int .i64 (rd x7_1 0), .int .i64 (rd x7_1 1), .int .i64 (rd x7_1 2), .int .i64 (rd x7_1 3), .string (⟨#[]⟩ : ByteArray)]) ?_ 4 _ rfl; (with_reducible repeat (first | refine blk_drewN ?_ _ | refine blk_drew ?_ | refine blk_alloc ?_ _)); refine blk_put (cs := #[.int .i64 (rd x7_1 0), .int .i64 (rd x7_1 1), .int .i64 (rd x7_1 2), .int .i64 0, .string (⟨#[]⟩ : ByteArray)]) ?_ 3 _ rfl; (with_reducible repeat (first | refine blk_drewN ?_ _ | refine blk_drew ?_ | refine blk_alloc ?_ _)); refine blk_put (cs := #[.int .i64 (rd x7_1 0), .int .i64 (rd x7_1 1), .int .i64 0, .int .i64 0, .string (⟨#[]⟩ : ByteArray)]) ?_ 2 _ rfl; (with_reducible repeat (first | refine blk_drewN ?_ _ | refine blk_drew ?_ | refine blk_alloc ?_ _)); refine blk_put (cs := #[.int .i64 (rd x7_1 0), .int .i64 0, .int .i64 0, .int .i64 0, .string (⟨#[]⟩ : ByteArray)]) ?_ 1 _ rfl; (with_reducible repeat (first | refine blk_drewN ?_ _ | refine blk_drew ?_ | refine blk_alloc ?_ _)); refine blk_put (cs := #[.int .i64 0, .int .i64 0, .int .i64 0, .int .i64 0, .string (⟨#[]⟩ : ByteArray)]) ?_ 0 _ rfl; (with_reducible repeat (first | refine blk_drewN ?_ _ | refine blk_drew ?_ | refine blk_alloc ?_ _)); exact BK252.out) hb); have n4_ := Aside0.mk (below_step (by repeat (first | (with_reducible first | exact HB.out | apply below_alloc | apply pw_below_drewN | apply below_drew1 | refine below_set ?_ GE233.out | refine below_set ?_ GE252.out) | exact HB.out)) hb); clear HO_7; clear HO_8; clear BK233; clear BK252; clear HB; have HO_7 := n0_; have HO_8 := n1_; have BK233 := n2_; have BK252 := n3_; have HB := n4_; clear n0_ n1_ n2_ n3_ n4_; (try clear hb); (try clear hb2); (try clear hk); (try clear hi)))
              have n0_ := Aside0.mk (Kd.R_drew HO_7.out)
              have n1_ := Aside0.mk (Kd.R_drew HO_8.out)
              have n2_ := Aside0.mk (blk_drew BK233.out)
              have n3_ := Aside0.mk (blk_drew BK252.out)
              have n4_ := Aside0.mk (below_drew1 HB.out)
              clear HO_7
              clear HO_8
              clear BK233
              clear BK252
              clear HB
              have HO_7 := n0_
              have HO_8 := n1_
              have BK233 := n2_
              have BK252 := n3_
              have HB := n4_
              clear n0_ n1_ n2_ n3_ n4_
              have p254 : 0 ≤ (4 : Int) := (by omega)
              have q254 : 4 < (x7_1.length : Int) := of_decide_eq_true (by first | (with_reducible assumption) | assumption)
              obtain ⟨ad254, e254, hx254_0⟩ := Kd.at_int (Kd.R_reads' HO_7.out).2.2 4 p254 q254
              obtain rfl : ad244 = ad254 := (by injection e254)
              (try simp only [show (4 : Int).toNat = 4 from rfl, Nat.reduceMul, Nat.reduceEqDiff, Go.Addr.add, ↓reduceIte] at hx254_0)
              have qi254 : (4 < x7_1.length) = True := eq_true (by omega)
              (try rw [show ((4 : Int)).toNat = 4 from rfl] at hx254_0)
              replace p254 := eq_true p254
              replace q254 := eq_true q254
              refine start_ (n := 9) (S := fun w' => w'.cell? ⟨gb252, 0, none⟩ = some (.int .i64 (rd x7_1 0)) ∧ w'.cell? ⟨gb252, 1, none⟩ = some (.int .i64 (rd x7_1 1)) ∧ w'.cell? ⟨gb252, 2, none⟩ = some (.int .i64 (rd x7_1 2)) ∧ w'.cell? ⟨gb252, 3, none⟩ = some (.int .i64 (rd x7_1 3)) ∧ w'.cell? ⟨gb252, 4, none⟩ = some (.string (strOfNums ((l0.take ((wrap64 (x1_1 + (rd x7_1 4))) : Int).toNat).drop (x1_1 : Int).toNat))) ∧ w'.cell? ⟨ad244.block, ad244.off + 4, none⟩ = some (.int .i64 (rd x7_1 4))) (ds := []) #[false, false, false, false, false, false, false, false, false] (by kernel_rfl) rfl rfl ⟨(blk_cell BK252.out 0).trans rfl, (blk_cell BK252.out 1).trans rfl, (blk_cell BK252.out 2).trans rfl, (blk_cell BK252.out 3).trans rfl, (blk_cell BK252.out 4).trans rfl, hx254_0⟩ (fun hHeld => ?_); refine with_tabW thalwegref08_Parse.tab18 thalwegref08_Parse.bits18 (fun HT_ HW_ => ?_)
              generalize w44.drew = w45 at HO_7 HO_8 BK233 BK252 HB hx254_0 hHeld ⊢
              refine pure_ (i := 1) (N := some 80) (v := ?_) (a' := ?_) #[false, true, false, false, false, false, false, false, false] rfl rfl (any_of HT_.out (by kernel_rfl)) (fun _ _ _ h => h) (Or.inl ⟨by rfl, ?_⟩) ?_ ?_
              rotate_left
              · intro w'
                go_simp
                with_reducible rfl
              rotate_left
              · simp only [Act.put, List.setIfInBounds_toArray, List.set_cons_zero, List.set_cons_succ, i64_w, i32_w]
                rfl
              refine pure_ (i := 2) (N := some 81) (v := ?_) (a' := ?_) #[false, true, true, false, false, false, false, false, false] rfl rfl (any_of HT_.out (by kernel_rfl)) (fun _ _ _ h => h) (Or.inl ⟨by rfl, ?_⟩) ?_ ?_
              rotate_left
              · intro w'
                go_simp
                with_reducible rfl
              rotate_left
              · simp only [Act.put, List.setIfInBounds_toArray, List.set_cons_zero, List.set_cons_succ, i64_w, i32_w]
                rfl
              refine pure_ (i := 3) (N := some 82) (v := ?_) (a' := ?_) #[false, true, true, true, false, false, false, false, false] rfl rfl (any_of HT_.out (by kernel_rfl)) (fun _ _ _ h => h) (Or.inl ⟨by rfl, ?_⟩) ?_ ?_
              rotate_left
              · intro w'
                go_simp
                with_reducible rfl
              rotate_left
              · simp only [Act.put, List.setIfInBounds_toArray, List.set_cons_zero, List.set_cons_succ, i64_w, i32_w]
                rfl
              refine take_ (i := 0) (N := some 79) (v := ?_) (a' := ?_) #[true, true, true, true, false, false, false, false, false] rfl rfl (take_ofW HT_.out HW_.out (by kernel_rfl)) (fun _ _ _ h => h) (Or.inl ⟨by rfl, ?_⟩) hHeld ?_ ?_
              rotate_left
              · rintro w' ⟨s0, s1, s2, s3, s4, s5⟩
                go_simp
                with_reducible rfl
              rotate_left
              · simp only [Act.put, List.setIfInBounds_toArray, List.set_cons_zero, List.set_cons_succ, i64_w, i32_w]
                rfl
              refine take_ (i := 4) (N := some 83) (v := ?_) (a' := ?_) #[true, true, true, true, true, false, false, false, false] rfl rfl (take_ofW HT_.out HW_.out (by kernel_rfl)) (fun _ _ _ h => h) (Or.inl ⟨by rfl, ?_⟩) hHeld ?_ ?_
              rotate_left
              · rintro w' ⟨s0, s1, s2, s3, s4, s5⟩
                go_simp
                with_reducible rfl
              rotate_left
              · simp only [Act.put, List.setIfInBounds_toArray, List.set_cons_zero, List.set_cons_succ, i64_w, i32_w]
                rfl
              refine pure_ (i := 5) (N := some 84) (v := ?_) (a' := ?_) #[true, true, true, true, true, true, false, false, false] rfl rfl (any_of HT_.out (by kernel_rfl)) (fun _ _ _ h => h) (Or.inl ⟨by rfl, ?_⟩) ?_ ?_
              rotate_left
              · intro w'
                go_simp
                with_reducible rfl
              rotate_left
              · simp only [Act.put, List.setIfInBounds_toArray, List.set_cons_zero, List.set_cons_succ, i64_w, i32_w]
                rfl
              refine one_ (i := 6) (N := none) #[true, true, true, true, true, true, true, false, false] rfl rfl (one_of HT_.out (by kernel_rfl)) (by decide) (fun K hK => ?_)
              have hs46 : w45.cell? ⟨gb233, 0, none⟩ = some (.int .i64 x234000_1) := (blk_cell BK233.out 0).trans rfl
              have hfs46 := blk_frozen BK233.out 0
              have hns46_1 := NB252_233.out
              have hms46_1 := NB233_252.out
              have hs47 : w45.cell? ⟨gb233, 1, none⟩ = some (.int .i64 x234001_1) := (blk_cell BK233.out 1).trans rfl
              have hfs47 := blk_frozen BK233.out 1
              have hns47_1 := NB252_233.out
              have hms47_1 := NB233_252.out
              have hs48 : w45.cell? ⟨gb233, 2, none⟩ = some (.int .i64 x234002_1) := (blk_cell BK233.out 2).trans rfl
              have hfs48 := blk_frozen BK233.out 2
              have hns48_1 := NB252_233.out
              have hms48_1 := NB233_252.out
              have hs49 : w45.cell? ⟨gb233, 3, none⟩ = some (.int .i64 x234003_1) := (blk_cell BK233.out 3).trans rfl
              have hfs49 := blk_frozen BK233.out 3
              have hns49_1 := NB252_233.out
              have hms49_1 := NB233_252.out
              have hs50 : w45.cell? ⟨gb233, 4, none⟩ = some (.string x234004_1) := (blk_cell BK233.out 4).trans rfl
              have hfs50 := blk_frozen BK233.out 4
              have hns50_1 := NB252_233.out
              have hms50_1 := NB233_252.out
              refine skip_ (w1 := ?_) (by rfl) rfl ?_ ?_
              rotate_left
              · go_simp
                rfl
              refine hK.out _ _ ⟨((cell_far (p := ⟨gb233, _, none⟩) NB252_233.out _).trans (((cell_far (p := ⟨gb233, _, none⟩) NB252_233.out _).trans (((cell_far (p := ⟨gb233, _, none⟩) NB252_233.out _).trans (((cell_far (p := ⟨gb233, _, none⟩) NB252_233.out _).trans (((cell_far (p := ⟨gb233, _, none⟩) NB252_233.out _).trans (hHeld.1)))))))))), ((cell_far (p := ⟨gb233, _, none⟩) NB252_233.out _).trans (((cell_far (p := ⟨gb233, _, none⟩) NB252_233.out _).trans (((cell_far (p := ⟨gb233, _, none⟩) NB252_233.out _).trans (((cell_far (p := ⟨gb233, _, none⟩) NB252_233.out _).trans (((cell_far (p := ⟨gb233, _, none⟩) NB252_233.out _).trans (hHeld.2.1)))))))))), ((cell_far (p := ⟨gb233, _, none⟩) NB252_233.out _).trans (((cell_far (p := ⟨gb233, _, none⟩) NB252_233.out _).trans (((cell_far (p := ⟨gb233, _, none⟩) NB252_233.out _).trans (((cell_far (p := ⟨gb233, _, none⟩) NB252_233.out _).trans (((cell_far (p := ⟨gb233, _, none⟩) NB252_233.out _).trans (hHeld.2.2.1)))))))))), ((cell_far (p := ⟨gb233, _, none⟩) NB252_233.out _).trans (((cell_far (p := ⟨gb233, _, none⟩) NB252_233.out _).trans (((cell_far (p := ⟨gb233, _, none⟩) NB252_233.out _).trans (((cell_far (p := ⟨gb233, _, none⟩) NB252_233.out _).trans (((cell_far (p := ⟨gb233, _, none⟩) NB252_233.out _).trans (hHeld.2.2.2.1)))))))))), ((cell_far (p := ⟨gb233, _, none⟩) NB252_233.out _).trans (((cell_far (p := ⟨gb233, _, none⟩) NB252_233.out _).trans (((cell_far (p := ⟨gb233, _, none⟩) NB252_233.out _).trans (((cell_far (p := ⟨gb233, _, none⟩) NB252_233.out _).trans (((cell_far (p := ⟨gb233, _, none⟩) NB252_233.out _).trans (hHeld.2.2.2.2.1)))))))))), ((cell_far (p := ⟨gb233, _, none⟩) (by first | exact Kd.own_blk (Kd.R_ne HO_7.out BK233.out (by decide)) | (rw [add_block]; exact Kd.own_blk (Kd.R_ne HO_7.out BK233.out (by decide))) | (show (Addr.add _ _).block ≠ _; rw [add_block]; exact Kd.own_blk (Kd.R_ne HO_7.out BK233.out (by decide))) | (dsimp only; exact Kd.own_blk (Kd.R_ne HO_7.out BK233.out (by decide)))) _).trans (((cell_far (p := ⟨gb233, _, none⟩) (by first | exact Kd.own_blk (Kd.R_ne HO_7.out BK233.out (by decide)) | (rw [add_block]; exact Kd.own_blk (Kd.R_ne HO_7.out BK233.out (by decide))) | (show (Addr.add _ _).block ≠ _; rw [add_block]; exact Kd.own_blk (Kd.R_ne HO_7.out BK233.out (by decide))) | (dsimp only; exact Kd.own_blk (Kd.R_ne HO_7.out BK233.out (by decide)))) _).trans (((cell_far (p := ⟨gb233, _, none⟩) (by first | exact Kd.own_blk (Kd.R_ne HO_7.out BK233.out (by decide)) | (rw [add_block]; exact Kd.own_blk (Kd.R_ne HO_7.out BK233.out (by decide))) | (show (Addr.add _ _).block ≠ _; rw [add_block]; exact Kd.own_blk (Kd.R_ne HO_7.out BK233.out (by decide))) | (dsimp only; exact Kd.own_blk (Kd.R_ne HO_7.out BK233.out (by decide)))) _).trans (((cell_far (p := ⟨gb233, _, none⟩) (by first | exact Kd.own_blk (Kd.R_ne HO_7.out BK233.out (by decide)) | (rw [add_block]; exact Kd.own_blk (Kd.R_ne HO_7.out BK233.out (by decide))) | (show (Addr.add _ _).block ≠ _; rw [add_block]; exact Kd.own_blk (Kd.R_ne HO_7.out BK233.out (by decide))) | (dsimp only; exact Kd.own_blk (Kd.R_ne HO_7.out BK233.out (by decide)))) _).trans (((cell_far (p := ⟨gb233, _, none⟩) (by first | exact Kd.own_blk (Kd.R_ne HO_7.out BK233.out (by decide)) | (rw [add_block]; exact Kd.own_blk (Kd.R_ne HO_7.out BK233.out (by decide))) | (show (Addr.add _ _).block ≠ _; rw [add_block]; exact Kd.own_blk (Kd.R_ne HO_7.out BK233.out (by decide))) | (dsimp only; exact Kd.own_blk (Kd.R_ne HO_7.out BK233.out (by decide)))) _).trans (hHeld.2.2.2.2.2))))))))))⟩ (fun hHeld => ?_)
              clear hK K
              refine pure_ (i := 7) (N := some 5) (v := ?_) (a' := ?_) #[true, true, true, true, true, true, true, true, false] rfl rfl (any_of HT_.out (by kernel_rfl)) (fun _ _ _ h => h) (Or.inl ⟨by rfl, ?_⟩) ?_ ?_
              rotate_left
              · intro w'
                go_simp
                with_reducible rfl
              rotate_left
              · simp only [Act.put, List.setIfInBounds_toArray, List.set_cons_zero, List.set_cons_succ, i64_w, i32_w]
                rfl
              refine pure_ (i := 8) (N := some 6) (v := ?_) (a' := ?_) #[true, true, true, true, true, true, true, true, true] rfl rfl (any_of HT_.out (by kernel_rfl)) (fun _ _ _ h => h) (Or.inl ⟨by rfl, ?_⟩) ?_ ?_
              rotate_left
              · intro w'
                go_simp
                with_reducible rfl
              rotate_left
              · simp only [Act.put, List.setIfInBounds_toArray, List.set_cons_zero, List.set_cons_succ, i64_w, i32_w]
                rfl
              refine done_ (done_of HT_.out (by kernel_rfl)) ?_
              try go_wp2
              refine bodyPost_ret (results_ctt rfl _ _ gb233 23 #[.int .i64 (rd x7_1 0), .int .i64 (rd x7_1 1), .int .i64 (rd x7_1 2), .int .i64 (rd x7_1 3), .string (strOfNums ((l0.take ((wrap64 (x1_1 + (rd x7_1 4))) : Int).toNat).drop (x1_1 : Int).toNat))] (0, 0) _ rfl (by (with_reducible repeat (first | refine blk_drewN ?_ _ | refine blk_drew ?_ | refine blk_alloc ?_ _)); refine blk_put (cs := #[.int .i64 (rd x7_1 0), .int .i64 (rd x7_1 1), .int .i64 (rd x7_1 2), .int .i64 (rd x7_1 3), .string x234004_1]) ?_ 4 _ rfl; (with_reducible repeat (first | refine blk_drewN ?_ _ | refine blk_drew ?_ | refine blk_alloc ?_ _)); refine blk_put (cs := #[.int .i64 (rd x7_1 0), .int .i64 (rd x7_1 1), .int .i64 (rd x7_1 2), .int .i64 x234003_1, .string x234004_1]) ?_ 3 _ rfl; (with_reducible repeat (first | refine blk_drewN ?_ _ | refine blk_drew ?_ | refine blk_alloc ?_ _)); refine blk_put (cs := #[.int .i64 (rd x7_1 0), .int .i64 (rd x7_1 1), .int .i64 x234002_1, .int .i64 x234003_1, .string x234004_1]) ?_ 2 _ rfl; (with_reducible repeat (first | refine blk_drewN ?_ _ | refine blk_drew ?_ | refine blk_alloc ?_ _)); refine blk_put (cs := #[.int .i64 (rd x7_1 0), .int .i64 x234001_1, .int .i64 x234002_1, .int .i64 x234003_1, .string x234004_1]) ?_ 1 _ rfl; (with_reducible repeat (first | refine blk_drewN ?_ _ | refine blk_drew ?_ | refine blk_alloc ?_ _)); refine blk_put (cs := #[.int .i64 x234000_1, .int .i64 x234001_1, .int .i64 x234002_1, .int .i64 x234003_1, .string x234004_1]) ?_ 0 _ rfl; (with_reducible repeat (first | refine blk_drewN ?_ _ | refine blk_drew ?_ | refine blk_alloc ?_ _)); exact BK233.out) Try.underlying23 rfl (by kernel_rfl)) rfl ?_
              exact ⟨by first | rfl | (simp [errW_none, errW_some] <;> rfl) | (simp [*, errW_none, errW_some] <;> rfl), by repeat (first | (with_reducible first | exact HB.out | apply below_alloc | apply pw_below_drewN | apply below_drew1 | refine below_set ?_ GE233.out | refine below_set ?_ GE252.out) | exact HB.out)⟩
            · replace c31 := Bool.eq_false_iff.mpr c31
              subst c31
              have H1 : (some (0, 0, 0, 0, (⟨#[]⟩ : ByteArray), 0, 4)) = some (r1, r2, r3, r4, r5, r6, r7) := by rw [if_neg (show ¬ (false = true) by decide)] at H; exact H
              clear H
              have H := H1
              clear H1
              simp only [Option.some.injEq, Prod.mk.injEq] at H
              obtain ⟨rfl, rfl, rfl, rfl, rfl, rfl, rfl⟩ := H
              obtain ⟨Ao51, co51, eo51⟩ := Kd.R_slice HO_7.out
              subst eo51
              have p244 : 0 ≤ (4 : Int) := (by omega)
              have q244 : 4 < (x7_1.length : Int) := of_decide_eq_true (by first | (with_reducible assumption) | assumption)
              obtain ⟨ad244, e244, hx244_0⟩ := Kd.at_int (Kd.R_reads' HO_7.out).2.2 4 p244 q244
              cases e244
              (try simp only [show (4 : Int).toNat = 4 from rfl, Nat.reduceMul, Nat.reduceEqDiff, Go.Addr.add, ↓reduceIte] at hx244_0)
              have qi244 : (4 < x7_1.length) = True := eq_true (by omega)
              (try rw [show ((4 : Int)).toNat = 4 from rfl] at hx244_0)
              replace p244 := eq_true p244
              replace q244 := eq_true q244
              have p245 : 0 ≤ (4 : Int) := (by omega)
              have q245 : 4 < (x7_1.length : Int) := of_decide_eq_true (by first | (with_reducible assumption) | assumption)
              obtain ⟨ad245, e245, hx245_0⟩ := Kd.at_int (Kd.R_reads' HO_7.out).2.2 4 p245 q245
              obtain rfl : ad244 = ad245 := (by injection e245)
              (try simp only [show (4 : Int).toNat = 4 from rfl, Nat.reduceMul, Nat.reduceEqDiff, Go.Addr.add, ↓reduceIte] at hx245_0)
              have qi245 : (4 < x7_1.length) = True := eq_true (by omega)
              (try rw [show ((4 : Int)).toNat = 4 from rfl] at hx245_0)
              replace p245 := eq_true p245
              replace q245 := eq_true q245
              try go_wp2
              have n0_ := Aside0.mk (Kd.R_drew HO_7.out)
              have n1_ := Aside0.mk (Kd.R_drew HO_8.out)
              have n2_ := Aside0.mk (blk_drew BK233.out)
              have n3_ := Aside0.mk (below_drew1 HB.out)
              clear HO_7
              clear HO_8
              clear BK233
              clear HB
              have HO_7 := n0_
              have HO_8 := n1_
              have BK233 := n2_
              have HB := n3_
              clear n0_ n1_ n2_ n3_
              have p246 : 0 ≤ (0 : Int) := (by omega)
              have q246 : 0 < (x7_1.length : Int) := of_decide_eq_true (by first | (with_reducible assumption) | assumption)
              obtain ⟨ad246, e246, hx246_0⟩ := Kd.at_int (Kd.R_reads' HO_7.out).2.2 0 p246 q246
              obtain rfl : ad244 = ad246 := (by injection e246)
              have qi246 : (0 < x7_1.length) = True := eq_true (by omega)
              (try rw [show ((0 : Int)).toNat = 0 from rfl] at hx246_0)
              (try rw [Addr.add_zero'] at hx246_0)
              replace p246 := eq_true p246
              replace q246 := eq_true q246
              have p247 : 0 ≤ (1 : Int) := (by omega)
              have q247 : 1 < (x7_1.length : Int) := of_decide_eq_true (by first | (with_reducible assumption) | assumption)
              obtain ⟨ad247, e247, hx247_0⟩ := Kd.at_int (Kd.R_reads' HO_7.out).2.2 1 p247 q247
              obtain rfl : ad244 = ad247 := (by injection e247)
              (try simp only [show (1 : Int).toNat = 1 from rfl, Nat.reduceMul, Nat.reduceEqDiff, Go.Addr.add, ↓reduceIte] at hx247_0)
              have qi247 : (1 < x7_1.length) = True := eq_true (by omega)
              (try rw [show ((1 : Int)).toNat = 1 from rfl] at hx247_0)
              replace p247 := eq_true p247
              replace q247 := eq_true q247
              have p248 : 0 ≤ (2 : Int) := (by omega)
              have q248 : 2 < (x7_1.length : Int) := of_decide_eq_true (by first | (with_reducible assumption) | assumption)
              obtain ⟨ad248, e248, hx248_0⟩ := Kd.at_int (Kd.R_reads' HO_7.out).2.2 2 p248 q248
              obtain rfl : ad244 = ad248 := (by injection e248)
              (try simp only [show (2 : Int).toNat = 2 from rfl, Nat.reduceMul, Nat.reduceEqDiff, Go.Addr.add, ↓reduceIte] at hx248_0)
              have qi248 : (2 < x7_1.length) = True := eq_true (by omega)
              (try rw [show ((2 : Int)).toNat = 2 from rfl] at hx248_0)
              replace p248 := eq_true p248
              replace q248 := eq_true q248
              have p249 : 0 ≤ (3 : Int) := (by omega)
              have q249 : 3 < (x7_1.length : Int) := of_decide_eq_true (by first | (with_reducible assumption) | assumption)
              obtain ⟨ad249, e249, hx249_0⟩ := Kd.at_int (Kd.R_reads' HO_7.out).2.2 3 p249 q249
              obtain rfl : ad244 = ad249 := (by injection e249)
              (try simp only [show (3 : Int).toNat = 3 from rfl, Nat.reduceMul, Nat.reduceEqDiff, Go.Addr.add, ↓reduceIte] at hx249_0)
              have qi249 : (3 < x7_1.length) = True := eq_true (by omega)
              (try rw [show ((3 : Int)).toNat = 3 from rfl] at hx249_0)
              replace p249 := eq_true p249
              replace q249 := eq_true q249
              have p250 : 0 ≤ (4 : Int) := (by omega)
              have q250 : 4 < (x7_1.length : Int) := of_decide_eq_true (by first | (with_reducible assumption) | assumption)
              obtain ⟨ad250, e250, hx250_0⟩ := Kd.at_int (Kd.R_reads' HO_7.out).2.2 4 p250 q250
              obtain rfl : ad244 = ad250 := (by injection e250)
              (try simp only [show (4 : Int).toNat = 4 from rfl, Nat.reduceMul, Nat.reduceEqDiff, Go.Addr.add, ↓reduceIte] at hx250_0)
              have qi250 : (4 < x7_1.length) = True := eq_true (by omega)
              (try rw [show ((4 : Int)).toNat = 4 from rfl] at hx250_0)
              replace p250 := eq_true p250
              replace q250 := eq_true q250
              obtain ⟨i053, hi053, _, hsz53, _⟩ := info_parts info5
              obtain ⟨A53, hcut53, hA53, hC53⟩ := print_mid_of (P := Try.prog) (Value.int .u8) 0 24 5 .i64 .i64 Try.underlying24 hi053 hsz53 A0 c0 l0 x1_1 (wrap64 (x1_1 + (rd x7_1 4))) (of_decide_eq_true (by first | (with_reducible assumption) | assumption)) (by first | omega | exact of_decide_eq_true (by first | (with_reducible assumption) | assumption)) (of_decide_eq_true (by first | (with_reducible assumption) | assumption)) HC0.out
              have HR251 := Aside0.mk (Kd.C_of_reads (h1 := fun _ => rfl) (hA53 _ (Kd.reads_of_C HR0.out)))
              have HC251 := Aside0.mk hC53
              clear hA53 hC53 hi053 hsz53
              refine start_ (n := 24) (S := fun w' => w'.cell? ad244 = some (.int .i64 (rd x7_1 0)) ∧ w'.cell? ⟨ad244.block, ad244.off + 1, none⟩ = some (.int .i64 (rd x7_1 1)) ∧ w'.cell? ⟨ad244.block, ad244.off + 2, none⟩ = some (.int .i64 (rd x7_1 2)) ∧ w'.cell? ⟨ad244.block, ad244.off + 3, none⟩ = some (.int .i64 (rd x7_1 3)) ∧ w'.cell? ⟨ad244.block, ad244.off + 4, none⟩ = some (.int .i64 (rd x7_1 4)) ∧ (convert 24 9 (.slice A53 _ (c0 - x1_1.toNat))).run Try.prog w' = .ok (.string (strOfNums ((l0.take ((wrap64 (x1_1 + (rd x7_1 4))) : Int).toNat).drop (x1_1 : Int).toNat))) w') (ds := []) #[false, false, false, false, false, false, false, false, false, false, false, false, false, false, false, false, false, false, false, false, false, false, false, false] (by kernel_rfl) rfl rfl ⟨hx246_0, hx247_0, hx248_0, hx249_0, hx250_0, (Kd.C_string (P := Try.prog) (A := A53) (c := (c0 - x1_1.toNat)) Try.underlying24 Try.underlying5 Try.underlying9 (Kd.C_below HR251.out HB.out))⟩ (fun hHeld => ?_); refine with_tabW thalwegref08_Parse.tab15 thalwegref08_Parse.bits15 (fun HT_ HW_ => ?_)
              generalize wr.drew = w52 at HO_7 HO_8 BK233 HB HR251 hx246_0 hx247_0 hx248_0 hx249_0 hx250_0 hHeld ⊢
              refine pure_ (i := 0) (N := some 53) (v := ?_) (a' := ?_) #[true, false, false, false, false, false, false, false, false, false, false, false, false, false, false, false, false, false, false, false, false, false, false, false] rfl rfl (any_of HT_.out (by kernel_rfl)) (fun _ _ _ h => h) (Or.inl ⟨by rfl, ?_⟩) ?_ ?_
              rotate_left
              · intro w'
                go_simp
                with_reducible rfl
              rotate_left
              · simp only [Act.put, List.setIfInBounds_toArray, List.set_cons_zero, List.set_cons_succ, i64_w, i32_w]
                rfl
              refine pure_ (i := 1) (N := some 54) (v := ?_) (a' := ?_) #[true, true, false, false, false, false, false, false, false, false, false, false, false, false, false, false, false, false, false, false, false, false, false, false] rfl rfl (any_of HT_.out (by kernel_rfl)) (fun _ _ _ h => h) (Or.inl ⟨by rfl, ?_⟩) ?_ ?_
              rotate_left
              · intro w'
                go_simp
                with_reducible rfl
              rotate_left
              · simp only [Act.put, List.setIfInBounds_toArray, List.set_cons_zero, List.set_cons_succ, i64_w, i32_w]
                rfl
              refine pure_ (i := 3) (N := some 56) (v := ?_) (a' := ?_) #[true, true, false, true, false, false, false, false, false, false, false, false, false, false, false, false, false, false, false, false, false, false, false, false] rfl rfl (any_of HT_.out (by kernel_rfl)) (fun _ _ _ h => h) (Or.inl ⟨by rfl, ?_⟩) ?_ ?_
              rotate_left
              · intro w'
                go_simp
                with_reducible rfl
              rotate_left
              · simp only [Act.put, List.setIfInBounds_toArray, List.set_cons_zero, List.set_cons_succ, i64_w, i32_w]
                rfl
              refine pure_ (i := 4) (N := some 57) (v := ?_) (a' := ?_) #[true, true, false, true, true, false, false, false, false, false, false, false, false, false, false, false, false, false, false, false, false, false, false, false] rfl rfl (any_of HT_.out (by kernel_rfl)) (fun _ _ _ h => h) (Or.inl ⟨by rfl, ?_⟩) ?_ ?_
              rotate_left
              · intro w'
                go_simp
                with_reducible rfl
              rotate_left
              · simp only [Act.put, List.setIfInBounds_toArray, List.set_cons_zero, List.set_cons_succ, i64_w, i32_w]
                rfl
              refine pure_ (i := 6) (N := some 59) (v := ?_) (a' := ?_) #[true, true, false, true, true, false, true, false, false, false, false, false, false, false, false, false, false, false, false, false, false, false, false, false] rfl rfl (any_of HT_.out (by kernel_rfl)) (fun _ _ _ h => h) (Or.inl ⟨by rfl, ?_⟩) ?_ ?_
              rotate_left
              · intro w'
                go_simp
                with_reducible rfl
              rotate_left
              · simp only [Act.put, List.setIfInBounds_toArray, List.set_cons_zero, List.set_cons_succ, i64_w, i32_w]
                rfl
              refine pure_ (i := 7) (N := some 60) (v := ?_) (a' := ?_) #[true, true, false, true, true, false, true, true, false, false, false, false, false, false, false, false, false, false, false, false, false, false, false, false] rfl rfl (any_of HT_.out (by kernel_rfl)) (fun _ _ _ h => h) (Or.inl ⟨by rfl, ?_⟩) ?_ ?_
              rotate_left
              · intro w'
                go_simp
                with_reducible rfl
              rotate_left
              · simp only [Act.put, List.setIfInBounds_toArray, List.set_cons_zero, List.set_cons_succ, i64_w, i32_w]
                rfl
              refine pure_ (i := 9) (N := some 62) (v := ?_) (a' := ?_) #[true, true, false, true, true, false, true, true, false, true, false, false, false, false, false, false, false, false, false, false, false, false, false, false] rfl rfl (any_of HT_.out (by kernel_rfl)) (fun _ _ _ h => h) (Or.inl ⟨by rfl, ?_⟩) ?_ ?_
              rotate_left
              · intro w'
                go_simp
                with_reducible rfl
              rotate_left
              · simp only [Act.put, List.setIfInBounds_toArray, List.set_cons_zero, List.set_cons_succ, i64_w, i32_w]
                rfl
              refine pure_ (i := 10) (N := some 63) (v := ?_) (a' := ?_) #[true, true, false, true, true, false, true, true, false, true, true, false, false, false, false, false, false, false, false, false, false, false, false, false] rfl rfl (any_of HT_.out (by kernel_rfl)) (fun _ _ _ h => h) (Or.inl ⟨by rfl, ?_⟩) ?_ ?_
              rotate_left
              · intro w'
                go_simp
                with_reducible rfl
              rotate_left
              · simp only [Act.put, List.setIfInBounds_toArray, List.set_cons_zero, List.set_cons_succ, i64_w, i32_w]
                rfl
              refine pure_ (i := 12) (N := some 65) (v := ?_) (a' := ?_) #[true, true, false, true, true, false, true, true, false, true, true, false, true, false, false, false, false, false, false, false, false, false, false, false] rfl rfl (any_of HT_.out (by kernel_rfl)) (fun _ _ _ h => h) (Or.inl ⟨by rfl, ?_⟩) ?_ ?_
              rotate_left
              · intro w'
                go_simp
                with_reducible rfl
              rotate_left
              · simp only [Act.put, List.setIfInBounds_toArray, List.set_cons_zero, List.set_cons_succ, i64_w, i32_w]
                rfl
              refine pure_ (i := 13) (N := some 66) (v := ?_) (a' := ?_) #[true, true, false, true, true, false, true, true, false, true, true, false, true, true, false, false, false, false, false, false, false, false, false, false] rfl rfl (any_of HT_.out (by kernel_rfl)) (fun _ _ _ h => h) (Or.inl ⟨by rfl, ?_⟩) ?_ ?_
              rotate_left
              · intro w'
                go_simp
                with_reducible rfl
              rotate_left
              · simp only [Act.put, List.setIfInBounds_toArray, List.set_cons_zero, List.set_cons_succ, i64_w, i32_w]
                rfl
              refine pure_ (i := 14) (N := some 67) (v := ?_) (a' := ?_) #[true, true, false, true, true, false, true, true, false, true, true, false, true, true, true, false, false, false, false, false, false, false, false, false] rfl rfl (any_of HT_.out (by kernel_rfl)) (fun _ _ _ h => h) (Or.inl ⟨by rfl, ?_⟩) ?_ ?_
              rotate_left
              · intro w'
                go_simp
                with_reducible rfl
              rotate_left
              · simp only [Act.put, List.setIfInBounds_toArray, List.set_cons_zero, List.set_cons_succ, i64_w, i32_w]
                rfl
              refine pure_ (i := 15) (N := some 68) (v := ?_) (a' := ?_) #[true, true, false, true, true, false, true, true, false, true, true, false, true, true, true, true, false, false, false, false, false, false, false, false] rfl rfl (any_of HT_.out (by kernel_rfl)) (fun _ _ _ h => h) (Or.inl ⟨by rfl, ?_⟩) ?_ ?_
              rotate_left
              · intro w'
                go_simp
                with_reducible rfl
              rotate_left
              · simp only [Act.put, List.setIfInBounds_toArray, List.set_cons_zero, List.set_cons_succ, i64_w, i32_w]
                rfl
              refine pure_ (i := 16) (N := some 69) (v := ?_) (a' := ?_) #[true, true, false, true, true, false, true, true, false, true, true, false, true, true, true, true, true, false, false, false, false, false, false, false] rfl rfl (any_of HT_.out (by kernel_rfl)) (fun _ _ _ h => h) (Or.inl ⟨by rfl, ?_⟩) ?_ ?_
              rotate_left
              · intro w'
                go_simp
                with_reducible rfl
              rotate_left
              · simp only [Act.put, List.setIfInBounds_toArray, List.set_cons_zero, List.set_cons_succ, i64_w, i32_w]
                rfl
              refine take_ (i := 2) (N := some 55) (v := ?_) (a' := ?_) #[true, true, true, true, true, false, true, true, false, true, true, false, true, true, true, true, true, false, false, false, false, false, false, false] rfl rfl (take_ofW HT_.out HW_.out (by kernel_rfl)) (fun _ _ _ h => h) (Or.inl ⟨by rfl, ?_⟩) hHeld ?_ ?_
              rotate_left
              · rintro w' ⟨s0, s1, s2, s3, s4, s5⟩
                first | (go_simp; with_reducible rfl) | ((try simp [*] at s5); go_simp; with_reducible rfl)
              rotate_left
              · simp only [Act.put, List.setIfInBounds_toArray, List.set_cons_zero, List.set_cons_succ, i64_w, i32_w]
                rfl
              refine take_ (i := 5) (N := some 58) (v := ?_) (a' := ?_) #[true, true, true, true, true, true, true, true, false, true, true, false, true, true, true, true, true, false, false, false, false, false, false, false] rfl rfl (take_ofW HT_.out HW_.out (by kernel_rfl)) (fun _ _ _ h => h) (Or.inl ⟨by rfl, ?_⟩) hHeld ?_ ?_
              rotate_left
              · rintro w' ⟨s0, s1, s2, s3, s4, s5⟩
                first | (go_simp; with_reducible rfl) | ((try simp [*] at s5); go_simp; with_reducible rfl)
              rotate_left
              · simp only [Act.put, List.setIfInBounds_toArray, List.set_cons_zero, List.set_cons_succ, i64_w, i32_w]
                rfl
              refine take_ (i := 8) (N := some 61) (v := ?_) (a' := ?_) #[true, true, true, true, true, true, true, true, true, true, true, false, true, true, true, true, true, false, false, false, false, false, false, false] rfl rfl (take_ofW HT_.out HW_.out (by kernel_rfl)) (fun _ _ _ h => h) (Or.inl ⟨by rfl, ?_⟩) hHeld ?_ ?_
              rotate_left
              · rintro w' ⟨s0, s1, s2, s3, s4, s5⟩
                first | (go_simp; with_reducible rfl) | ((try simp [*] at s5); go_simp; with_reducible rfl)
              rotate_left
              · simp only [Act.put, List.setIfInBounds_toArray, List.set_cons_zero, List.set_cons_succ, i64_w, i32_w]
                rfl
              refine take_ (i := 11) (N := some 64) (v := ?_) (a' := ?_) #[true, true, true, true, true, true, true, true, true, true, true, true, true, true, true, true, true, false, false, false, false, false, false, false] rfl rfl (take_ofW HT_.out HW_.out (by kernel_rfl)) (fun _ _ _ h => h) (Or.inl ⟨by rfl, ?_⟩) hHeld ?_ ?_
              rotate_left
              · rintro w' ⟨s0, s1, s2, s3, s4, s5⟩
                first | (go_simp; with_reducible rfl) | ((try simp [*] at s5); go_simp; with_reducible rfl)
              rotate_left
              · simp only [Act.put, List.setIfInBounds_toArray, List.set_cons_zero, List.set_cons_succ, i64_w, i32_w]
                rfl
              refine take_ (i := 17) (N := some 70) (v := ?_) (a' := ?_) #[true, true, true, true, true, true, true, true, true, true, true, true, true, true, true, true, true, true, false, false, false, false, false, false] rfl rfl (take_ofW HT_.out HW_.out (by kernel_rfl)) (fun _ _ _ h => h) (Or.inl ⟨by rfl, ?_⟩) hHeld ?_ ?_
              rotate_left
              · rintro w' ⟨s0, s1, s2, s3, s4, s5⟩
                first | (go_simp; with_reducible rfl) | ((try simp [*] at s5); go_simp; with_reducible rfl)
              rotate_left
              · simp only [Act.put, List.setIfInBounds_toArray, List.set_cons_zero, List.set_cons_succ, i64_w, i32_w]
                rfl
              refine pure_ (i := 18) (N := some 71) (v := ?_) (a' := ?_) #[true, true, true, true, true, true, true, true, true, true, true, true, true, true, true, true, true, true, true, false, false, false, false, false] rfl rfl (any_of HT_.out (by kernel_rfl)) (fun _ _ _ h => h) (Or.inl ⟨by rfl, ?_⟩) ?_ ?_
              rotate_left
              · intro w'
                go_simp
                with_reducible rfl
              rotate_left
              · simp only [Act.put, List.setIfInBounds_toArray, List.set_cons_zero, List.set_cons_succ, i64_w, i32_w]
                rfl
              refine pure_ (i := 19) (N := some 72) (v := ?_) (a' := ?_) #[true, true, true, true, true, true, true, true, true, true, true, true, true, true, true, true, true, true, true, true, false, false, false, false] rfl rfl (any_of HT_.out (by kernel_rfl)) (fun _ _ _ h => h) (Or.inl ⟨by rfl, ?_⟩) ?_ ?_
              rotate_left
              · intro w'
                go_simp
                with_reducible rfl
              rotate_left
              · simp only [Act.put, List.setIfInBounds_toArray, List.set_cons_zero, List.set_cons_succ, i64_w, i32_w]
                rfl
              refine take_ (i := 20) (N := some 73) (v := ?_) (a' := ?_) #[true, true, true, true, true, true, true, true, true, true, true, true, true, true, true, true, true, true, true, true, true, false, false, false] rfl rfl (take_ofW HT_.out HW_.out (by kernel_rfl)) (fun _ _ _ h => h) (Or.inl ⟨by rfl, ?_⟩) hHeld ?_ ?_
              rotate_left
              · rintro w' ⟨s0, s1, s2, s3, s4, s5⟩
                first | (go_simp; with_reducible rfl) | ((try simp [*] at s5); go_simp; with_reducible rfl)
              rotate_left
              · simp only [Act.put, List.setIfInBounds_toArray, List.set_cons_zero, List.set_cons_succ, i64_w, i32_w]
                rfl
              refine pure_ (i := 21) (N := some 74) (v := ?_) (a' := ?_) #[true, true, true, true, true, true, true, true, true, true, true, true, true, true, true, true, true, true, true, true, true, true, false, false] rfl rfl (any_of HT_.out (by kernel_rfl)) (fun _ _ _ h => h) (Or.inl ⟨by rfl, ?_⟩) ?_ ?_
              rotate_left
              · intro w'
                go_simp
                with_reducible rfl
              rotate_left
              · simp only [Act.put, List.setIfInBounds_toArray, List.set_cons_zero, List.set_cons_succ, i64_w, i32_w]
                rfl
              refine one_ (i := 22) (N := some 13) #[true, true, true, true, true, true, true, true, true, true, true, true, true, true, true, true, true, true, true, true, true, true, true, false] rfl rfl (one_of HT_.out (by kernel_rfl)) (by decide) (fun K hK => ?_)
              refine box_step ?hg (N := 13) ?hd (cs := #[.int .i64 0, .int .i64 0, .int .i64 0, .int .i64 0, .string (⟨#[]⟩ : ByteArray)]) (t := 23) ?hr ?_; (case hd => rfl); (case hg => rfl); (case hr => first | (go_simp; done) | (go_simp; rfl))
              intro gb252 hg w55 hbox hb
              have HS0_ := (hb.cell (World.block_lt_of_cell? _ _ (hHeld.1))).trans (hHeld.1)
              have HS1_ := (hb.cell (World.block_lt_of_cell? _ _ (hHeld.2.1))).trans (hHeld.2.1)
              have HS2_ := (hb.cell (World.block_lt_of_cell? _ _ (hHeld.2.2.1))).trans (hHeld.2.2.1)
              have HS3_ := (hb.cell (World.block_lt_of_cell? _ _ (hHeld.2.2.2.1))).trans (hHeld.2.2.2.1)
              have HS4_ := (hb.cell (World.block_lt_of_cell? _ _ (hHeld.2.2.2.2.1))).trans (hHeld.2.2.2.2.1)
              have n0_ := Aside0.mk (Kd.R_below (by (with_reducible repeat (first | apply Kd.R_alloc | apply Kd.R_drewN | apply Kd.R_drew)); exact HO_7.out) hb)
              have n1_ := Aside0.mk (Kd.R_below (by (with_reducible repeat (first | apply Kd.R_alloc | apply Kd.R_drewN | apply Kd.R_drew)); exact HO_8.out) hb)
              have n2_ := Aside0.mk (blk_below (g := gb233) (o := .cells #[.int .i64 x234000_1, .int .i64 x234001_1, .int .i64 x234002_1, .int .i64 x234003_1, .string x234004_1] 23 (0, 0)) (by (with_reducible repeat (first | refine blk_drewN ?_ _ | refine blk_drew ?_ | refine blk_alloc ?_ _)); exact BK233.out) hb)
              have n3_ := Aside0.mk (below_step (by repeat (first | (with_reducible first | exact HB.out | apply below_alloc | apply pw_below_drewN | apply below_drew1 | refine below_set ?_ GE233.out) | exact HB.out)) hb)
              have n4_ := Aside0.mk (hbox)
              have n5_ := Aside0.mk ((by rw [hg]; exact (below_size (by repeat (first | (with_reducible first | exact HB.out | apply below_alloc | apply pw_below_drewN | apply below_drew1 | refine below_set ?_ GE233.out) | exact HB.out))) : w.heap.size ≤ gb252))
              have n6_ := Aside0.mk ((by rw [hg]; exact (below_size (by repeat (first | (with_reducible first | exact HB.out | apply below_alloc | apply pw_below_drewN | apply below_drew1 | refine below_set ?_ GE233.out) | exact HB.out))) : w.heap.size ≤ gb252))
              have n7_ := Aside0.mk ((by rw [hg]; exact Nat.ne_of_lt (blk_lt (g := gb233) (o := .cells #[.int .i64 x234000_1, .int .i64 x234001_1, .int .i64 x234002_1, .int .i64 x234003_1, .string x234004_1] 23 (0, 0)) (by (with_reducible repeat (first | refine blk_drewN ?_ _ | refine blk_drew ?_ | refine blk_alloc ?_ _)); exact BK233.out)) : gb233 ≠ gb252))
              have n8_ := Aside0.mk ((by rw [hg]; exact Nat.ne_of_gt (blk_lt (g := gb233) (o := .cells #[.int .i64 x234000_1, .int .i64 x234001_1, .int .i64 x234002_1, .int .i64 x234003_1, .string x234004_1] 23 (0, 0)) (by (with_reducible repeat (first | refine blk_drewN ?_ _ | refine blk_drew ?_ | refine blk_alloc ?_ _)); exact BK233.out)) : gb252 ≠ gb233))
              clear HO_7
              clear HO_8
              clear BK233
              clear HB
              have HO_7 := n0_
              have HO_8 := n1_
              have BK233 := n2_
              have HB := n3_
              have BK252 := n4_
              have GW252 := n5_
              have GE252 := n6_
              have NB233_252 := n7_
              have NB252_233 := n8_
              clear n0_ n1_ n2_ n3_ n4_ n5_ n6_ n7_ n8_
              clear hb hbox hg
              refine hK.out _ _ ⟨HS0_, HS1_, HS2_, HS3_, HS4_, (Kd.C_string (P := Try.prog) (A := A53) (c := (c0 - x1_1.toNat)) Try.underlying24 Try.underlying5 Try.underlying9 (Kd.C_below HR251.out HB.out))⟩ (fun hHeld => ?_)
              clear hK K
              refine norm_ (a' := ?_) ?_ ?_
              rotate_left
              · show Act.put _ (some 13) _ = _
                simp only [Act.put, List.setIfInBounds_toArray, List.set_cons_zero, List.set_cons_succ, i64_w, i32_w]
                rfl
              refine one_ (i := 23) (N := none) #[true, true, true, true, true, true, true, true, true, true, true, true, true, true, true, true, true, true, true, true, true, true, true, true] rfl rfl (one_of HT_.out (by kernel_rfl)) (by decide) (fun K hK => ?_)
              have hs56 : w55.cell? ⟨gb252, 0, none⟩ = some (.int .i64 0) := (blk_cell BK252.out 0).trans rfl
              have hfs56 := blk_frozen BK252.out 0
              have hns56_0 := NB233_252.out
              have hms56_0 := NB252_233.out
              have hs57 : w55.cell? ⟨gb252, 1, none⟩ = some (.int .i64 0) := (blk_cell BK252.out 1).trans rfl
              have hfs57 := blk_frozen BK252.out 1
              have hns57_0 := NB233_252.out
              have hms57_0 := NB252_233.out
              have hs58 : w55.cell? ⟨gb252, 2, none⟩ = some (.int .i64 0) := (blk_cell BK252.out 2).trans rfl
              have hfs58 := blk_frozen BK252.out 2
              have hns58_0 := NB233_252.out
              have hms58_0 := NB252_233.out
              have hs59 : w55.cell? ⟨gb252, 3, none⟩ = some (.int .i64 0) := (blk_cell BK252.out 3).trans rfl
              have hfs59 := blk_frozen BK252.out 3
              have hns59_0 := NB233_252.out
              have hms59_0 := NB252_233.out
              have hs60 : w55.cell? ⟨gb252, 4, none⟩ = some (.string (⟨#[]⟩ : ByteArray)) := (blk_cell BK252.out 4).trans rfl
              have hfs60 := blk_frozen BK252.out 4
              have hns60_0 := NB233_252.out
              have hms60_0 := NB252_233.out
              refine skip_ (w1 := ?_) (by rfl) rfl ?_ ?_
              rotate_left
              · go_simp
                rfl
              have hA_ : ad244.block ≠ gb252 := by first | exact Kd.own_blk (Kd.R_ne HO_7.out BK252.out (by decide)) | (rw [add_block]; exact Kd.own_blk (Kd.R_ne HO_7.out BK252.out (by decide))) | (show (Addr.add _ _).block ≠ _; rw [add_block]; exact Kd.own_blk (Kd.R_ne HO_7.out BK252.out (by decide))) | (dsimp only; exact Kd.own_blk (Kd.R_ne HO_7.out BK252.out (by decide)))
              refine hK.out _ _ ?_ (fun hHeld2 => ?_)
              · refine ⟨?_, ?_, ?_, ?_, ?_, ?_⟩
                · (repeat (refine (cell_far hA_ _).trans ?_)); exact hHeld.1
                · (repeat (refine (cell_far hA_ _).trans ?_)); exact hHeld.2.1
                · (repeat (refine (cell_far hA_ _).trans ?_)); exact hHeld.2.2.1
                · (repeat (refine (cell_far hA_ _).trans ?_)); exact hHeld.2.2.2.1
                · (repeat (refine (cell_far hA_ _).trans ?_)); exact hHeld.2.2.2.2.1
                · exact Kd.C_string (P := Try.prog) (A := A53) (c := (c0 - x1_1.toNat)) Try.underlying24 Try.underlying5 Try.underlying9 (Kd.C_below HR251.out (by repeat (first | exact HB.out | refine below_set ?_ GE252.out)))
              clear hHeld
              have hHeld := hHeld2
              clear hHeld2
              clear hK K
              refine done_ (done_of HT_.out (by kernel_rfl)) ?_
              have hnb61 := NB252_233.out
              have hnc61 := NB233_252.out
              have hcz62_0 : w55.cell? ⟨gb252, 0, none⟩ = some (.int .i64 0) := (blk_cell BK252.out 0).trans rfl
              have hcz62_1 : w55.cell? ⟨gb252, 1, none⟩ = some (.int .i64 0) := (blk_cell BK252.out 1).trans rfl
              have hcz62_2 : w55.cell? ⟨gb252, 2, none⟩ = some (.int .i64 0) := (blk_cell BK252.out 2).trans rfl
              have hcz62_3 : w55.cell? ⟨gb252, 3, none⟩ = some (.int .i64 0) := (blk_cell BK252.out 3).trans rfl
              have hcz62_4 : w55.cell? ⟨gb252, 4, none⟩ = some (.string (⟨#[]⟩ : ByteArray)) := (blk_cell BK252.out 4).trans rfl
              have hfz62_0 := blk_frozen BK252.out 0
              have hfz62_1 := blk_frozen BK252.out 1
              have hfz62_2 := blk_frozen BK252.out 2
              have hfz62_3 := blk_frozen BK252.out 3
              have hfz62_4 := blk_frozen BK252.out 4
              try go_wp2_with (first | ((with_reducible refine gate_callee (f := 14) rfl ?_); refine goesL_ (some 76) rfl rfl Try.func14 (by kernel_rfl) rfl #[.agg #[.int .i64 (rd x7_1 0), .int .i64 (rd x7_1 1), .int .i64 (rd x7_1 2), .int .i64 (rd x7_1 3), .string (strOfNums ((l0.take ((wrap64 (x1_1 + (rd x7_1 4))) : Int).toNat).drop (x1_1 : Int).toNat))]] rfl (by (try simp only [List.map_toArray, List.map_cons, List.map_nil]); first | done | rfl | (simp only [List.length_drop, List.length_take]; rfl)) ?_; (with_reducible refine (thalwegref08_Right.calls (rd x7_1 0) (rd x7_1 1) (rd x7_1 2) (rd x7_1 3) (strOfNums ((l0.take ((wrap64 (x1_1 + (rd x7_1 4))) : Int).toNat).drop (x1_1 : Int).toNat)) false _ A30.out).mono ?_); rintro e w63 ⟨rfl, hb⟩; refine ⟨_, rfl, ?_⟩; have n0_ := Aside0.mk (Kd.R_below (by (with_reducible repeat (first | apply Kd.R_alloc | apply Kd.R_drewN | apply Kd.R_drew)); exact (Kd.R_mono (Kd.R_far (p := ⟨gb252, 4, none⟩) (Kd.R_far (p := ⟨gb252, 3, none⟩) (Kd.R_far (p := ⟨gb252, 2, none⟩) (Kd.R_far (p := ⟨gb252, 1, none⟩) (Kd.R_far (p := ⟨gb252, 0, none⟩) (Kd.R_types HO_7.out BK252.out (by decide)) (fun _ hk => hk.2) (.int .i64 (rd x7_1 0))) (fun _ hk => hk.2) (.int .i64 (rd x7_1 1))) (fun _ hk => hk.2) (.int .i64 (rd x7_1 2))) (fun _ hk => hk.2) (.int .i64 (rd x7_1 3))) (fun _ hk => hk.2) (.string (strOfNums ((l0.take ((wrap64 (x1_1 + (rd x7_1 4))) : Int).toNat).drop (x1_1 : Int).toNat)))) (fun _ h_ => h_.1))) hb); have n1_ := Aside0.mk (Kd.R_below (by (with_reducible repeat (first | apply Kd.R_alloc | apply Kd.R_drewN | apply Kd.R_drew)); exact (Kd.R_mono (Kd.R_far (p := ⟨gb252, 4, none⟩) (Kd.R_far (p := ⟨gb252, 3, none⟩) (Kd.R_far (p := ⟨gb252, 2, none⟩) (Kd.R_far (p := ⟨gb252, 1, none⟩) (Kd.R_far (p := ⟨gb252, 0, none⟩) (Kd.R_types HO_8.out BK252.out (by decide)) (fun _ hk => hk.2) (.int .i64 (rd x7_1 0))) (fun _ hk => hk.2) (.int .i64 (rd x7_1 1))) (fun _ hk => hk.2) (.int .i64 (rd x7_1 2))) (fun _ hk => hk.2) (.int .i64 (rd x7_1 3))) (fun _ hk => hk.2) (.string (strOfNums ((l0.take ((wrap64 (x1_1 + (rd x7_1 4))) : Int).toNat).drop (x1_1 : Int).toNat)))) (fun _ h_ => h_.1))) hb); have n2_ := Aside0.mk (blk_below (g := gb233) (o := .cells #[.int .i64 x234000_1, .int .i64 x234001_1, .int .i64 x234002_1, .int .i64 x234003_1, .string x234004_1] 23 (0, 0)) (by (with_reducible repeat (first | refine blk_drewN ?_ _ | refine blk_drew ?_ | refine blk_alloc ?_ _)); refine blk_far ?_ NB233_252.out _; (with_reducible repeat (first | refine blk_drewN ?_ _ | refine blk_drew ?_ | refine blk_alloc ?_ _)); refine blk_far ?_ NB233_252.out _; (with_reducible repeat (first | refine blk_drewN ?_ _ | refine blk_drew ?_ | refine blk_alloc ?_ _)); refine blk_far ?_ NB233_252.out _; (with_reducible repeat (first | refine blk_drewN ?_ _ | refine blk_drew ?_ | refine blk_alloc ?_ _)); refine blk_far ?_ NB233_252.out _; (with_reducible repeat (first | refine blk_drewN ?_ _ | refine blk_drew ?_ | refine blk_alloc ?_ _)); refine blk_far ?_ NB233_252.out _; (with_reducible repeat (first | refine blk_drewN ?_ _ | refine blk_drew ?_ | refine blk_alloc ?_ _)); exact BK233.out) hb); have n3_ := Aside0.mk (blk_below (g := gb252) (o := .cells #[.int .i64 (rd x7_1 0), .int .i64 (rd x7_1 1), .int .i64 (rd x7_1 2), .int .i64 (rd x7_1 3), .string (strOfNums ((l0.take ((wrap64 (x1_1 + (rd x7_1 4))) : Int).toNat).drop (x1_1 : Int).toNat))] 23 (0, 0)) (by (with_reducible repeat (first | refine blk_drewN ?_ _ | refine blk_drew ?_ | refine blk_alloc ?_ _)); refine blk_put (cs := #[.int .i64 (rd x7_1 0), .int .i64 (rd x7_1 1), .int .i64 (rd x7_1 2), .int .i64 (rd x7_1 3), .string (⟨#[]⟩ : ByteArray)]) ?_ 4 _ rfl; (with_reducible repeat (first | refine blk_drewN ?_ _ | refine blk_drew ?_ | refine blk_alloc ?_ _)); refine blk_put (cs := #[.int .i64 (rd x7_1 0), .int .i64 (rd x7_1 1), .int .i64 (rd x7_1 2), .int .i64 0, .string (⟨#[]⟩ : ByteArray)]) ?_ 3 _ rfl; (with_reducible repeat (first | refine blk_drewN ?_ _ | refine blk_drew ?_ | refine blk_alloc ?_ _)); refine blk_put (cs := #[.int .i64 (rd x7_1 0), .int .i64 (rd x7_1 1), .int .i64 0, .int .i64 0, .string (⟨#[]⟩ : ByteArray)]) ?_ 2 _ rfl; (with_reducible repeat (first | refine blk_drewN ?_ _ | refine blk_drew ?_ | refine blk_alloc ?_ _)); refine blk_put (cs := #[.int .i64 (rd x7_1 0), .int .i64 0, .int .i64 0, .int .i64 0, .string (⟨#[]⟩ : ByteArray)]) ?_ 1 _ rfl; (with_reducible repeat (first | refine blk_drewN ?_ _ | refine blk_drew ?_ | refine blk_alloc ?_ _)); refine blk_put (cs := #[.int .i64 0, .int .i64 0, .int .i64 0, .int .i64 0, .string (⟨#[]⟩ : ByteArray)]) ?_ 0 _ rfl; (with_reducible repeat (first | refine blk_drewN ?_ _ | refine blk_drew ?_ | refine blk_alloc ?_ _)); exact BK252.out) hb); have n4_ := Aside0.mk (below_step (by repeat (first | (with_reducible first | exact HB.out | apply below_alloc | apply pw_below_drewN | apply below_drew1 | refine below_set ?_ GE233.out | refine below_set ?_ GE252.out) | exact HB.out)) hb); clear HO_7; clear HO_8; clear BK233; clear BK252; clear HB; have HO_7 := n0_; have HO_8 := n1_; have BK233 := n2_; have BK252 := n3_; have HB := n4_; clear n0_ n1_ n2_ n3_ n4_; (try clear hb); (try clear hb2); (try clear hk); (try clear hi); have hcz64_0 : w63.cell? ⟨gb233, 0, none⟩ = some (.int .i64 x234000_1) := (blk_cell BK233.out 0).trans rfl; have hcz64_1 : w63.cell? ⟨gb233, 1, none⟩ = some (.int .i64 x234001_1) := (blk_cell BK233.out 1).trans rfl; have hcz64_2 : w63.cell? ⟨gb233, 2, none⟩ = some (.int .i64 x234002_1) := (blk_cell BK233.out 2).trans rfl; have hcz64_3 : w63.cell? ⟨gb233, 3, none⟩ = some (.int .i64 x234003_1) := (blk_cell BK233.out 3).trans rfl; have hcz64_4 : w63.cell? ⟨gb233, 4, none⟩ = some (.string x234004_1) := (blk_cell BK233.out 4).trans rfl; have hfz64_0 := blk_frozen BK233.out 0; have hfz64_1 := blk_frozen BK233.out 1; have hfz64_2 := blk_frozen BK233.out 2; have hfz64_3 := blk_frozen BK233.out 3; have hfz64_4 := blk_frozen BK233.out 4))
              refine bodyPost_ret (results_ctt rfl _ _ gb233 23 #[.int .i64 0, .int .i64 0, .int .i64 0, .int .i64 0, .string (⟨#[]⟩ : ByteArray)] (0, 0) _ rfl (by (with_reducible repeat (first | refine blk_drewN ?_ _ | refine blk_drew ?_ | refine blk_alloc ?_ _)); refine blk_put (cs := #[.int .i64 0, .int .i64 0, .int .i64 0, .int .i64 0, .string x234004_1]) ?_ 4 _ rfl; (with_reducible repeat (first | refine blk_drewN ?_ _ | refine blk_drew ?_ | refine blk_alloc ?_ _)); refine blk_put (cs := #[.int .i64 0, .int .i64 0, .int .i64 0, .int .i64 x234003_1, .string x234004_1]) ?_ 3 _ rfl; (with_reducible repeat (first | refine blk_drewN ?_ _ | refine blk_drew ?_ | refine blk_alloc ?_ _)); refine blk_put (cs := #[.int .i64 0, .int .i64 0, .int .i64 x234002_1, .int .i64 x234003_1, .string x234004_1]) ?_ 2 _ rfl; (with_reducible repeat (first | refine blk_drewN ?_ _ | refine blk_drew ?_ | refine blk_alloc ?_ _)); refine blk_put (cs := #[.int .i64 0, .int .i64 x234001_1, .int .i64 x234002_1, .int .i64 x234003_1, .string x234004_1]) ?_ 1 _ rfl; (with_reducible repeat (first | refine blk_drewN ?_ _ | refine blk_drew ?_ | refine blk_alloc ?_ _)); refine blk_put (cs := #[.int .i64 x234000_1, .int .i64 x234001_1, .int .i64 x234002_1, .int .i64 x234003_1, .string x234004_1]) ?_ 0 _ rfl; (with_reducible repeat (first | refine blk_drewN ?_ _ | refine blk_drew ?_ | refine blk_alloc ?_ _)); exact BK233.out) Try.underlying23 rfl (by kernel_rfl)) rfl ?_
              exact ⟨by first | rfl | (simp [errW_none, errW_some] <;> rfl) | (simp [*, errW_none, errW_some] <;> rfl), by repeat (first | (with_reducible first | exact HB.out | apply below_alloc | apply pw_below_drewN | apply below_drew1 | refine below_set ?_ GE233.out | refine below_set ?_ GE252.out) | exact HB.out)⟩

end Go.Proofs.Ythfbnlimoagihaa.P
