/- Walks. -/
import Derived.Test.YtaiklcpmlkpfjaaXBeaconDoesa
set_option linter.unusedVariables false
set_option linter.unusedSimpArgs false
set_option maxHeartbeats 8000000
set_option maxRecDepth 100000
namespace Go.Proofs.Ytaiklcpmlkpfjaa.P
open Go.RowKit YtaiklcpmlkpfjaaW.PrintWords YtaiklcpmlkpfjaaW.PrintLast YtaiklcpmlkpfjaaW.PrintMore
open YtaiklcpmlkpfjaaW.PrintWords renaming below_alloc → YA, pw_below_drewN → YB, below_drew1 → YC, below_step → YD, below_size → YE, blk_drewN → YF, blk_drew → YG, blk_alloc → YH, blk_cell → YI, blk_frozen → YJ, blk_below → YK
open YtaiklcpmlkpfjaaW.PrintWords.Aside0 renaming mk → YL
open List renaming setIfInBounds_toArray → YM, set_cons_zero → YN, set_cons_succ → YO, map_toArray → YP, length_take → YQ, length_drop → YR
attribute [local go_sem] max2_int min2_int max_two min_two max_three min_three max_four min_four
def thalwegref06_Right.l0 : Nat → Int → Int → List (S59) → Option (Bool)
 | 0, _, _, _ => none
 | k + 1, x3, x111000, x111001 => if x3 < (x111001.length : Int) then (if 0 ≤ x3 then (if ((rd_T59 x111001 x3).f0) < 0 then (some false) else (if ((rd_T59 x111001 x3).f0) ≥ 64 then (some false) else (if x3 > 0 then (if 0 ≤ (wrap64 (x3 - 1)) then (if (wrap64 (x3 - 1)) < (x111001.length : Int) then (if ((rd_T59 x111001 (wrap64 (x3 - 1))).f0) ≥ ((rd_T59 x111001 x3).f0) then (some false) else ((thalwegref06_Epoch.f ((rd_T59 x111001 x3).f1)).bind fun t114 => (if t114 = true then (thalwegref06_Right.l0 k (wrap64 (x3 + 1)) x111000 x111001) else (some false)))) else (none)) else (none)) else ((thalwegref06_Epoch.f ((rd_T59 x111001 x3).f1)).bind fun t115 => (if t115 = true then (thalwegref06_Right.l0 k (wrap64 (x3 + 1)) x111000 x111001) else (some false)))))) else (none)) else ((thalwegref06_Epoch.f x111000).bind fun t116 => (some t116))
def thalwegref06_Right.f (k : Nat) (a0_0 : Int) (l0_1 : List (S59)) : Option (Bool) := thalwegref06_Right.l0 k 0 a0_0 l0_1
theorem thalwegref06_Right.mono_l : ∀ k, (∀ y0 y1 y2, LeO (thalwegref06_Right.l0 k y0 y1 y2) (thalwegref06_Right.l0 (k + 1) y0 y1 y2))
 | 0 => fun _ _ _ r h => by simp [thalwegref06_Right.l0] at h
 | k + 1 => by
  have ih0 := thalwegref06_Right.mono_l k
  ·intro y0 y1 y2
   unfold thalwegref06_Right.l0
   repeat' first
   | (with_reducible exact ih0 _ _ _)
   | (with_reducible exact LeO.refl _)
   | (with_reducible exact LeO.none _)
   | (with_reducible refine LeO.ite ?_ ?_)
   | (with_reducible refine LeO.bind ?_ (fun _ => ?_))
   | exact ih0 _ _ _
   | exact LeO.none _
   | refine LeO.ite ?_ ?_
   | refine LeO.bind ?_ (fun _ => ?_)
theorem thalwegref06_Right.mono : ∀ a0 a1 k, LeO (thalwegref06_Right.f k a0 a1) (thalwegref06_Right.f (k + 1) a0 a1) := by
 intro a0 a1 k
 have ih0 := thalwegref06_Right.mono_l k
 unfold thalwegref06_Right.f
 repeat' first
   | (with_reducible exact ih0 _ _ _)
   | (with_reducible exact LeO.refl _)
   | (with_reducible exact LeO.none _)
   | (with_reducible refine LeO.ite ?_ ?_)
   | (with_reducible refine LeO.bind ?_ (fun _ => ?_))
   | exact ih0 _ _ _
   | exact LeO.none _
   | refine LeO.ite ?_ ?_
   | refine LeO.bind ?_ (fun _ => ?_)
def thalwegref06_Right.T5 : Bool × List (List Nat × List Nat) := (true, [([], []), ([0], [0]), ([1], [1]), ([2], [2]), ([3], [3]), ([4, 3], [3, 4]), ([5, 3], [3, 5]), ([3, 6], [3, 6]), ([7, 3], [7]), ([8], [8]), ([9, 8], [8, 9]), ([10, 8, 8], [8, 10]), ([11], [11]), ([12, 11], [11, 12]), ([11], [11]), ([14, 11], [11, 14]), ([13, 15, 11], [11, 13, 15]), ([16, 11], [11, 16]), ([17, 11], [11, 17]), ([11], [11]), ([19, 11], [11, 19]), ([18, 20, 11], [11, 18, 20]), ([11, 21, 8], [8, 11, 21]), ([8, 22], [8, 22]), ([23, 11], [23]), ([24], [24]), ([25, 24], [24, 25]), ([26, 24, 24], [24, 26]), ([27, 24], [24, 27]), ([24, 28], [24, 28])])
def thalwegref06_Right.B5 : List Nat := [0, 1, 3, 7, 15, 31, 63, 127, 255, 511, 1023, 2047, 4095, 8191, 4095, 20479, 65535, 131071, 262143, 4095, 528383, 2097151, 4194303, 8388607, 16777215, 33554431, 67108863, 134217727, 268435455, 536870911]
theorem thalwegref06_Right.tab5 : rtab .any (opsOf Try.f23 5) = thalwegref06_Right.T5 := by kernel_rfl
theorem thalwegref06_Right.bits5 : waitsOk thalwegref06_Right.T5.2 thalwegref06_Right.B5 = true := by kernel_rfl
theorem thalwegref06_Right.calls (k : Nat) (a0_0 : Int) (A0_1 : Option Addr) (c0_1 : Nat) (l0_1 : List (S59)) (r : Bool) (w : World) (hr0_1 : Kd.C k59 w A0_1 l0_1.length l0_1) (hc0_1 : l0_1.length ≤ c0_1) (h : thalwegref06_Right.f k a0_0 l0_1 = some r) :
  Calls Try.prog 23 #[.agg #[.int .i64 a0_0, .slice A0_1 l0_1.length c0_1]] w fun e w' => e = .returned (.bool r) ∧ Below w.heap.size w w' := by
 have hu25 := Try.underlying25
 have hu59 := Try.underlying59
 have HR0_1 := YL hr0_1; have HC0_1 := YL hc0_1; clear hr0_1 hc0_1
 have HB := YL (Below.refl w.heap.size w)
 have H : (thalwegref06_Right.l0 k 0 a0_0 l0_1) = some r := h
 clear h
 have H' := YL H
 clear H
 go_enter Try.func23, Try.ntmps23
 go_wp2_with (first | ((with_reducible refine gate_dst (N := 1) rfl ?_); refine box_event ?hg (N := 1) ?hd (cs := #[.int .i64 a0_0, .slice A0_1 l0_1.length c0_1]) (t := 25) ?hr ?_; (case hd => rfl); (case hg => rfl); (case hr => first | (go_simp; done) | (go_simp; rfl)); intro gb110 hg w2 hbox hb; have n0_ := YL (YD (by repeat (first | (with_reducible first | exact HB.out | apply YA | apply YB | apply YC) | exact HB.out)) hb); have n1_ := YL (hbox); have n2_ := YL ((by rw [hg]; exact (YE (by repeat (first | (with_reducible first | exact HB.out | apply YA | apply YB | apply YC) | exact HB.out))) : w.heap.size ≤ gb110)); have n3_ := YL ((by rw [hg]; exact (YE (by repeat (first | (with_reducible first | exact HB.out | apply YA | apply YB | apply YC) | exact HB.out))) : w.heap.size ≤ gb110)); clear HB; have HB := n0_; have BK110 := n1_; have GW110 := n2_; have GE110 := n3_; clear n0_ n1_ n2_ n3_; clear hb hbox hg))
 go_loopg [3] k (fun kq v3 w' => ∃ (x3_1 : Int), v3 = .int .i64 x3_1 ∧ Aside0 (thalwegref06_Right.l0 kq x3_1 a0_0 l0_1 = some r) ∧ Aside0 (kq ≤ k) ∧ Aside0 (w'.heap[gb110]? = some (.cells #[.int .i64 a0_0, (.slice A0_1 l0_1.length c0_1)] 25 (0, 0))) ∧ Aside0 (Below w.heap.size w w'))
 case atStart => exact ⟨(0), (by first | rfl | (simp; done) | (simp [*]; done)), H', ⟨Nat.le_refl _⟩, ⟨by (with_reducible repeat (first | refine YF ?_ _ | refine YG ?_ | refine YH ?_ _)); exact BK110.out⟩, ⟨by repeat (first | (with_reducible first | exact HB.out | apply YA | apply YB | apply YC | refine below_set ?_ GE110.out) | exact HB.out)⟩⟩
 case round =>
  clear H'
  try clear c2; try clear p2
  obtain ⟨x3_1, rfl, HA, HK1, BK110, HB⟩ := hrel
  cases gk with
  | zero => exact absurd HA.out (by simp [thalwegref06_Right.l0])
  | succ k1 =>
   have H := HA.out
   clear HA
   simp only [thalwegref06_Right.l0] at H
   by_cases c3 : x3_1 < (l0_1.length : Int)
   ·rw [if_pos c3] at H
    have c3b0 : decide (x3_1 < (l0_1.length : Int)) = true := decide_eq_true c3
    clear c3
    by_cases c4 : 0 ≤ x3_1
    rotate_left
    ·rw [if_neg c4] at H
     exact absurd H (by simp)
    rw [if_pos c4] at H; have c4b0 : decide (0 ≤ x3_1) = true := decide_eq_true c4; clear c4
    by_cases c5 : ((rd_T59 l0_1 x3_1).f0) < 0
    ·rw [if_pos c5] at H
     have c5b0 : decide (((rd_T59 l0_1 x3_1).f0) < 0) = true := decide_eq_true c5; clear c5
     obtain rfl := Option.some.inj H
     have q6_0 : wr.cell? ⟨gb110, 0, none⟩ = some (.int .i64 a0_0) := (YI BK110.out 0).trans rfl
     have q6_1 : wr.cell? ⟨gb110, 1, none⟩ = some (.slice A0_1 l0_1.length c0_1) := (YI BK110.out 1).trans rfl
     have f6_0 := YJ BK110.out 0
     have f6_1 := YJ BK110.out 1
     have p111 : 0 ≤ (x3_1 : Int) := of_decide_eq_true (by first | (with_reducible assumption) | assumption)
     have q111 : x3_1 < (l0_1.length : Int) := of_decide_eq_true (by first | (with_reducible assumption) | assumption)
     obtain ⟨ad111, e111, hx111_0, hx111_1⟩ := at_T59 HR0_1.out x3_1 p111 q111
     cases e111
     replace hx111_0 := (HB.out.cell (World.block_lt_of_cell? w _ hx111_0)).trans hx111_0
     replace hx111_1 := (HB.out.cell (World.block_lt_of_cell? w _ hx111_1)).trans hx111_1
     replace p111 := eq_true p111
     replace q111 := eq_true q111
     try go_wp2_with (first | ((with_reducible refine gate_dst (N := 4) rfl ?_); refine box_event ?hg (N := 4) ?hd (cs := #[.int .i64 0, .int .i64 0]) (t := 59) ?hr ?_; (case hd => rfl); (case hg => rfl); (case hr => first | (go_simp; done) | (go_simp; rfl)); intro gb112 hg w7 hbox hb; have n0_ := YL (YK (g := gb110) (o := .cells #[.int .i64 a0_0, .slice (some ad111) l0_1.length c0_1] 25 (0, 0)) (by (with_reducible repeat (first | refine YF ?_ _ | refine YG ?_ | refine YH ?_ _)); exact BK110.out) hb); have n1_ := YL (YD (by repeat (first | (with_reducible first | exact HB.out | apply YA | apply YB | apply YC | refine below_set ?_ GE110.out) | exact HB.out)) hb); have n2_ := YL (hbox); have n3_ := YL ((by rw [hg]; exact (YE (by repeat (first | (with_reducible first | exact HB.out | apply YA | apply YB | apply YC | refine below_set ?_ GE110.out) | exact HB.out))) : w.heap.size ≤ gb112)); have n4_ := YL ((by rw [hg]; exact (YE (by repeat (first | (with_reducible first | exact HB.out | apply YA | apply YB | apply YC | refine below_set ?_ GE110.out) | exact HB.out))) : w.heap.size ≤ gb112)); have n5_ := YL ((by rw [hg]; exact Nat.ne_of_lt (blk_lt (g := gb110) (o := .cells #[.int .i64 a0_0, .slice (some ad111) l0_1.length c0_1] 25 (0, 0)) (by (with_reducible repeat (first | refine YF ?_ _ | refine YG ?_ | refine YH ?_ _)); exact BK110.out)) : gb110 ≠ gb112)); have n6_ := YL ((by rw [hg]; exact Nat.ne_of_gt (blk_lt (g := gb110) (o := .cells #[.int .i64 a0_0, .slice (some ad111) l0_1.length c0_1] 25 (0, 0)) (by (with_reducible repeat (first | refine YF ?_ _ | refine YG ?_ | refine YH ?_ _)); exact BK110.out)) : gb112 ≠ gb110)); clear BK110; clear HB; have BK110 := n0_; have HB := n1_; have BK112 := n2_; have GW112 := n3_; have GE112 := n4_; have NB110_112 := n5_; have NB112_110 := n6_; clear n0_ n1_ n2_ n3_ n4_ n5_ n6_; clear hb hbox hg; have hnb8 := NB112_110.out; have hnc8 := NB110_112.out; have q9_0 : w7.cell? ⟨gb112, 0, none⟩ = some (.int .i64 0) := (YI BK112.out 0).trans rfl; have q9_1 : w7.cell? ⟨gb112, 1, none⟩ = some (.int .i64 0) := (YI BK112.out 1).trans rfl; have f9_0 := YJ BK112.out 0; have f9_1 := YJ BK112.out 1))
     have n0_ : Aside0 (((w7.setCell ⟨gb112, 0, none⟩ (.int .i64 ((rd_T59 l0_1 x3_1).f0))).setCell ⟨gb112, 1, none⟩ (.int .i64 ((rd_T59 l0_1 x3_1).f1))).heap[gb110]? = some (.cells #[.int .i64 a0_0, .slice (some ad111) l0_1.length c0_1] 25 (0, 0))) := ⟨by (with_reducible repeat (first | refine YF ?_ _ | refine YG ?_ | refine YH ?_ _)); refine blk_far ?_ NB110_112.out _; (with_reducible repeat (first | refine YF ?_ _ | refine YG ?_ | refine YH ?_ _)); refine blk_far ?_ NB110_112.out _; (with_reducible repeat (first | refine YF ?_ _ | refine YG ?_ | refine YH ?_ _)); exact BK110.out⟩
     have n1_ : Aside0 (((w7.setCell ⟨gb112, 0, none⟩ (.int .i64 ((rd_T59 l0_1 x3_1).f0))).setCell ⟨gb112, 1, none⟩ (.int .i64 ((rd_T59 l0_1 x3_1).f1))).heap[gb112]? = some (.cells #[.int .i64 ((rd_T59 l0_1 x3_1).f0), .int .i64 ((rd_T59 l0_1 x3_1).f1)] 59 (0, 0))) := ⟨by (with_reducible repeat (first | refine YF ?_ _ | refine YG ?_ | refine YH ?_ _)); refine blk_put (cs := #[.int .i64 ((rd_T59 l0_1 x3_1).f0), .int .i64 0]) ?_ 1 _ rfl; (with_reducible repeat (first | refine YF ?_ _ | refine YG ?_ | refine YH ?_ _)); refine blk_put (cs := #[.int .i64 0, .int .i64 0]) ?_ 0 _ rfl; (with_reducible repeat (first | refine YF ?_ _ | refine YG ?_ | refine YH ?_ _)); exact BK112.out⟩
     have n2_ : Aside0 (Below w.heap.size w ((w7.setCell ⟨gb112, 0, none⟩ (.int .i64 ((rd_T59 l0_1 x3_1).f0))).setCell ⟨gb112, 1, none⟩ (.int .i64 ((rd_T59 l0_1 x3_1).f1)))) := ⟨by repeat (first | (with_reducible first | exact HB.out | apply YA | apply YB | apply YC | refine below_set ?_ GE110.out | refine below_set ?_ GE112.out) | exact HB.out)⟩
     (try clear BK110); (try clear BK112); (try clear HB)
     generalize ((w7.setCell ⟨gb112, 0, none⟩ (.int .i64 ((rd_T59 l0_1 x3_1).f0))).setCell ⟨gb112, 1, none⟩ (.int .i64 ((rd_T59 l0_1 x3_1).f1))) = w10 at n0_ n1_ n2_ ⊢
     have BK110 := n0_; have BK112 := n1_; have HB := n2_; clear n0_ n1_ n2_
     have n0_ := YL (YG BK110.out)
     have n1_ := YL (YG BK112.out)
     have n2_ := YL (YC HB.out)
     clear BK110; clear BK112; clear HB; have BK110 := n0_; have BK112 := n1_; have HB := n2_; clear n0_ n1_ n2_
     refine start_ (n := 30) (S := fun w' => w'.cell? ⟨gb112, 0, none⟩ = some (.int .i64 ((rd_T59 l0_1 x3_1).f0)) ∧ w'.cell? ⟨gb112, 1, none⟩ = some (.int .i64 ((rd_T59 l0_1 x3_1).f1))) (ds := []) #[false, false, false, false, false, false, false, false, false, false, false, false, false, false, false, false, false, false, false, false, false, false, false, false, false, false, false, false, false, false] (by kernel_rfl) rfl rfl ⟨(YI BK112.out 0).trans rfl, (YI BK112.out 1).trans rfl⟩ (fun hHeld => ?_); refine with_tabW thalwegref06_Right.tab5 thalwegref06_Right.bits5 (fun HT_ HW_ => ?_)
     generalize w10.drew = w11 at BK110 BK112 HB hHeld ⊢
     refine pure_ (i := 0) (N := some 17) (v := ?_) (a' := ?_) #[true, false, false, false, false, false, false, false, false, false, false, false, false, false, false, false, false, false, false, false, false, false, false, false, false, false, false, false, false, false] rfl rfl (any_of HT_.out (by kernel_rfl)) (fun _ _ _ h => h) (Or.inl ⟨by rfl, ?_⟩) ?_ ?_
     rotate_left
     ·intro w'
      go_simp; with_reducible rfl
     rotate_left
     ·simp only [Act.put, YM, YN, YO, i64_w, i32_w]
      rfl
     refine take_ (i := 1) (N := some 18) (v := ?_) (a' := ?_) #[true, true, false, false, false, false, false, false, false, false, false, false, false, false, false, false, false, false, false, false, false, false, false, false, false, false, false, false, false, false] rfl rfl (take_ofW HT_.out HW_.out (by kernel_rfl)) (fun _ _ _ h => h) (Or.inl ⟨by rfl, ?_⟩) hHeld ?_ ?_
     rotate_left
     ·rintro w' ⟨s0, s1⟩
      go_simp; with_reducible rfl
     rotate_left
     ·simp only [Act.put, YM, YN, YO, i64_w, i32_w]
      rfl
     refine pure_ (i := 2) (N := some 19) (v := ?_) (a' := ?_) #[true, true, true, false, false, false, false, false, false, false, false, false, false, false, false, false, false, false, false, false, false, false, false, false, false, false, false, false, false, false] rfl rfl (any_of HT_.out (by kernel_rfl)) (fun _ _ _ h => h) (Or.inl ⟨by rfl, ?_⟩) ?_ ?_
     rotate_left
     ·intro w'
      go_simp; with_reducible rfl
     rotate_left
     ·simp only [Act.put, YM, YN, YO, i64_w, i32_w]
      rfl
     refine pure_ (i := 3) (N := some 20) (v := ?_) (a' := ?_) #[true, true, true, true, false, false, false, false, false, false, false, false, false, false, false, false, false, false, false, false, false, false, false, false, false, false, false, false, false, false] rfl rfl (any_of HT_.out (by kernel_rfl)) (fun _ _ _ h => h) (Or.inl ⟨by rfl, ?_⟩) ?_ ?_
     rotate_left
     ·intro w'
      go_simp; with_reducible rfl
     rotate_left
     ·simp only [Act.put, YM, YN, YO, i64_w, i32_w]
      rfl
     refine pure_ (i := 4) (N := some 21) (v := undef) (a' := ?_) #[true, true, true, true, true, false, false, false, false, false, false, false, false, false, false, false, false, false, false, false, false, false, false, false, false, false, false, false, false, false] rfl rfl (any_of HT_.out (by kernel_rfl)) (fun _ _ _ h => h) (Or.inr ⟨by rfl, rfl⟩) ?_ ?_
     rotate_left
     ·simp only [Act.put, YM, YN, YO, i64_w, i32_w]
      rfl
     refine pure_ (i := 5) (N := some 22) (v := undef) (a' := ?_) #[true, true, true, true, true, true, false, false, false, false, false, false, false, false, false, false, false, false, false, false, false, false, false, false, false, false, false, false, false, false] rfl rfl (any_of HT_.out (by kernel_rfl)) (fun _ _ _ h => h) (Or.inr ⟨by rfl, rfl⟩) ?_ ?_
     rotate_left
     ·simp only [Act.put, YM, YN, YO, i64_w, i32_w]
      rfl
     refine pure_ (i := 6) (N := some 23) (v := undef) (a' := ?_) #[true, true, true, true, true, true, true, false, false, false, false, false, false, false, false, false, false, false, false, false, false, false, false, false, false, false, false, false, false, false] rfl rfl (any_of HT_.out (by kernel_rfl)) (fun _ _ _ h => h) (Or.inr ⟨by rfl, rfl⟩) ?_ ?_
     rotate_left
     ·simp only [Act.put, YM, YN, YO, i64_w, i32_w]
      rfl
     refine pure_ (i := 7) (N := some 24) (v := ?_) (a' := ?_) #[true, true, true, true, true, true, true, true, false, false, false, false, false, false, false, false, false, false, false, false, false, false, false, false, false, false, false, false, false, false] rfl rfl (any_of HT_.out (by kernel_rfl)) (fun _ _ _ h => h) (Or.inl ⟨by rfl, ?_⟩) ?_ ?_
     rotate_left
     ·intro w'
      go_simp; with_reducible rfl
     rotate_left
     ·simp only [Act.put, YM, YN, YO, i64_w, i32_w]
      rfl
     refine pure_ (i := 8) (N := some 25) (v := ?_) (a' := ?_) #[true, true, true, true, true, true, true, true, true, false, false, false, false, false, false, false, false, false, false, false, false, false, false, false, false, false, false, false, false, false] rfl rfl (any_of HT_.out (by kernel_rfl)) (fun _ _ _ h => h) (Or.inl ⟨by rfl, ?_⟩) ?_ ?_
     rotate_left
     ·intro w'
      go_simp; with_reducible rfl
     rotate_left
     ·simp only [Act.put, YM, YN, YO, i64_w, i32_w]
      rfl
     refine pure_ (i := 9) (N := some 26) (v := undef) (a' := ?_) #[true, true, true, true, true, true, true, true, true, true, false, false, false, false, false, false, false, false, false, false, false, false, false, false, false, false, false, false, false, false] rfl rfl (any_of HT_.out (by kernel_rfl)) (fun _ _ _ h => h) (Or.inr ⟨by rfl, rfl⟩) ?_ ?_
     rotate_left
     ·simp only [Act.put, YM, YN, YO, i64_w, i32_w]
      rfl
     refine pure_ (i := 10) (N := some 27) (v := undef) (a' := ?_) #[true, true, true, true, true, true, true, true, true, true, true, false, false, false, false, false, false, false, false, false, false, false, false, false, false, false, false, false, false, false] rfl rfl (any_of HT_.out (by kernel_rfl)) (fun _ _ _ h => h) (Or.inr ⟨by rfl, rfl⟩) ?_ ?_
     rotate_left
     ·simp only [Act.put, YM, YN, YO, i64_w, i32_w]
      rfl
     refine pure_ (i := 11) (N := some 28) (v := undef) (a' := ?_) #[true, true, true, true, true, true, true, true, true, true, true, true, false, false, false, false, false, false, false, false, false, false, false, false, false, false, false, false, false, false] rfl rfl (any_of HT_.out (by kernel_rfl)) (fun _ _ _ h => h) (Or.inr ⟨by rfl, rfl⟩) ?_ ?_
     rotate_left
     ·simp only [Act.put, YM, YN, YO, i64_w, i32_w]
      rfl
     refine pure_ (i := 12) (N := some 29) (v := undef) (a' := ?_) #[true, true, true, true, true, true, true, true, true, true, true, true, true, false, false, false, false, false, false, false, false, false, false, false, false, false, false, false, false, false] rfl rfl (any_of HT_.out (by kernel_rfl)) (fun _ _ _ h => h) (Or.inr ⟨by rfl, rfl⟩) ?_ ?_
     rotate_left
     ·simp only [Act.put, YM, YN, YO, i64_w, i32_w]
      rfl
     refine pure_ (i := 13) (N := some 30) (v := undef) (a' := ?_) #[true, true, true, true, true, true, true, true, true, true, true, true, true, true, false, false, false, false, false, false, false, false, false, false, false, false, false, false, false, false] rfl rfl (any_of HT_.out (by kernel_rfl)) (fun _ _ _ h => h) (Or.inr ⟨by rfl, rfl⟩) ?_ ?_
     rotate_left
     ·simp only [Act.put, YM, YN, YO, i64_w, i32_w]
      rfl
     refine pure_ (i := 14) (N := some 31) (v := undef) (a' := ?_) #[true, true, true, true, true, true, true, true, true, true, true, true, true, true, true, false, false, false, false, false, false, false, false, false, false, false, false, false, false, false] rfl rfl (any_of HT_.out (by kernel_rfl)) (fun _ _ _ h => h) (Or.inr ⟨by rfl, rfl⟩) ?_ ?_
     rotate_left
     ·simp only [Act.put, YM, YN, YO, i64_w, i32_w]
      rfl
     refine pure_ (i := 15) (N := some 32) (v := undef) (a' := ?_) #[true, true, true, true, true, true, true, true, true, true, true, true, true, true, true, true, false, false, false, false, false, false, false, false, false, false, false, false, false, false] rfl rfl (any_of HT_.out (by kernel_rfl)) (fun _ _ _ h => h) (Or.inr ⟨by rfl, rfl⟩) ?_ ?_
     rotate_left
     ·simp only [Act.put, YM, YN, YO, i64_w, i32_w]
      rfl
     refine pure_ (i := 16) (N := some 33) (v := undef) (a' := ?_) #[true, true, true, true, true, true, true, true, true, true, true, true, true, true, true, true, true, false, false, false, false, false, false, false, false, false, false, false, false, false] rfl rfl (any_of HT_.out (by kernel_rfl)) (fun _ _ _ h => h) (Or.inr ⟨by rfl, rfl⟩) ?_ ?_
     rotate_left
     ·simp only [Act.put, YM, YN, YO, i64_w, i32_w]
      rfl
     refine pure_ (i := 17) (N := some 34) (v := undef) (a' := ?_) #[true, true, true, true, true, true, true, true, true, true, true, true, true, true, true, true, true, true, false, false, false, false, false, false, false, false, false, false, false, false] rfl rfl (any_of HT_.out (by kernel_rfl)) (fun _ _ _ h => h) (Or.inr ⟨by rfl, rfl⟩) ?_ ?_
     rotate_left
     ·simp only [Act.put, YM, YN, YO, i64_w, i32_w]
      rfl
     refine pure_ (i := 18) (N := some 35) (v := undef) (a' := ?_) #[true, true, true, true, true, true, true, true, true, true, true, true, true, true, true, true, true, true, true, false, false, false, false, false, false, false, false, false, false, false] rfl rfl (any_of HT_.out (by kernel_rfl)) (fun _ _ _ h => h) (Or.inr ⟨by rfl, rfl⟩) ?_ ?_
     rotate_left
     ·simp only [Act.put, YM, YN, YO, i64_w, i32_w]
      rfl
     refine pure_ (i := 19) (N := some 36) (v := undef) (a' := ?_) #[true, true, true, true, true, true, true, true, true, true, true, true, true, true, true, true, true, true, true, true, false, false, false, false, false, false, false, false, false, false] rfl rfl (any_of HT_.out (by kernel_rfl)) (fun _ _ _ h => h) (Or.inr ⟨by rfl, rfl⟩) ?_ ?_
     rotate_left
     ·simp only [Act.put, YM, YN, YO, i64_w, i32_w]
      rfl
     refine pure_ (i := 20) (N := some 37) (v := undef) (a' := ?_) #[true, true, true, true, true, true, true, true, true, true, true, true, true, true, true, true, true, true, true, true, true, false, false, false, false, false, false, false, false, false] rfl rfl (any_of HT_.out (by kernel_rfl)) (fun _ _ _ h => h) (Or.inr ⟨by rfl, rfl⟩) ?_ ?_
     rotate_left
     ·simp only [Act.put, YM, YN, YO, i64_w, i32_w]
      rfl
     refine pure_ (i := 21) (N := some 38) (v := undef) (a' := ?_) #[true, true, true, true, true, true, true, true, true, true, true, true, true, true, true, true, true, true, true, true, true, true, false, false, false, false, false, false, false, false] rfl rfl (any_of HT_.out (by kernel_rfl)) (fun _ _ _ h => h) (Or.inr ⟨by rfl, rfl⟩) ?_ ?_
     rotate_left
     ·simp only [Act.put, YM, YN, YO, i64_w, i32_w]
      rfl
     refine pure_ (i := 22) (N := some 39) (v := undef) (a' := ?_) #[true, true, true, true, true, true, true, true, true, true, true, true, true, true, true, true, true, true, true, true, true, true, true, false, false, false, false, false, false, false] rfl rfl (any_of HT_.out (by kernel_rfl)) (fun _ _ _ h => h) (Or.inr ⟨by rfl, rfl⟩) ?_ ?_
     rotate_left
     ·simp only [Act.put, YM, YN, YO, i64_w, i32_w]
      rfl
     refine pure_ (i := 23) (N := some 40) (v := ?_) (a' := ?_) #[true, true, true, true, true, true, true, true, true, true, true, true, true, true, true, true, true, true, true, true, true, true, true, true, false, false, false, false, false, false] rfl rfl (any_of HT_.out (by kernel_rfl)) (fun _ _ _ h => h) (Or.inl ⟨by rfl, ?_⟩) ?_ ?_
     rotate_left
     ·intro w'
      go_simp; with_reducible rfl
     rotate_left
     ·simp only [Act.put, YM, YN, YO, i64_w, i32_w]
      rfl
     refine pure_ (i := 24) (N := some 41) (v := ?_) (a' := ?_) #[true, true, true, true, true, true, true, true, true, true, true, true, true, true, true, true, true, true, true, true, true, true, true, true, true, false, false, false, false, false] rfl rfl (any_of HT_.out (by kernel_rfl)) (fun _ _ _ h => h) (Or.inl ⟨by rfl, ?_⟩) ?_ ?_
     rotate_left
     ·intro w'
      go_simp; with_reducible rfl
     rotate_left
     ·simp only [Act.put, YM, YN, YO, i64_w, i32_w]
      rfl
     refine pure_ (i := 25) (N := some 42) (v := undef) (a' := ?_) #[true, true, true, true, true, true, true, true, true, true, true, true, true, true, true, true, true, true, true, true, true, true, true, true, true, true, false, false, false, false] rfl rfl (any_of HT_.out (by kernel_rfl)) (fun _ _ _ h => h) (Or.inr ⟨by rfl, rfl⟩) ?_ ?_
     rotate_left
     ·simp only [Act.put, YM, YN, YO, i64_w, i32_w]
      rfl
     refine pure_ (i := 26) (N := some 43) (v := undef) (a' := ?_) #[true, true, true, true, true, true, true, true, true, true, true, true, true, true, true, true, true, true, true, true, true, true, true, true, true, true, true, false, false, false] rfl rfl (any_of HT_.out (by kernel_rfl)) (fun _ _ _ h => h) (Or.inr ⟨by rfl, rfl⟩) ?_ ?_
     rotate_left
     ·simp only [Act.put, YM, YN, YO, i64_w, i32_w]
      rfl
     refine pure_ (i := 27) (N := some 44) (v := undef) (a' := ?_) #[true, true, true, true, true, true, true, true, true, true, true, true, true, true, true, true, true, true, true, true, true, true, true, true, true, true, true, true, false, false] rfl rfl (any_of HT_.out (by kernel_rfl)) (fun _ _ _ h => h) (Or.inr ⟨by rfl, rfl⟩) ?_ ?_
     rotate_left
     ·simp only [Act.put, YM, YN, YO, i64_w, i32_w]
      rfl
     refine pure_ (i := 28) (N := some 45) (v := undef) (a' := ?_) #[true, true, true, true, true, true, true, true, true, true, true, true, true, true, true, true, true, true, true, true, true, true, true, true, true, true, true, true, true, false] rfl rfl (any_of HT_.out (by kernel_rfl)) (fun _ _ _ h => h) (Or.inr ⟨by rfl, rfl⟩) ?_ ?_
     rotate_left
     ·simp only [Act.put, YM, YN, YO, i64_w, i32_w]
      rfl
     refine pure_ (i := 29) (N := some 46) (v := ?_) (a' := ?_) #[true, true, true, true, true, true, true, true, true, true, true, true, true, true, true, true, true, true, true, true, true, true, true, true, true, true, true, true, true, true] rfl rfl (any_of HT_.out (by kernel_rfl)) (fun _ _ _ h => h) (Or.inl ⟨by rfl, ?_⟩) ?_ ?_
     rotate_left
     ·intro w'
      go_simp; with_reducible rfl
     rotate_left
     ·simp only [Act.put, YM, YN, YO, i64_w, i32_w]
      rfl
     refine done_ (done_of HT_.out (by kernel_rfl)) ?_
     try go_wp2
     go_ret
     exact ⟨by first | rfl | (simp [errW_none, errW_some] <;> rfl) | (simp [*, errW_none, errW_some] <;> rfl), by repeat (first | (with_reducible first | exact HB.out | apply YA | apply YB | apply YC | refine below_set ?_ GE110.out | refine below_set ?_ GE112.out) | exact HB.out)⟩
    rw [if_neg c5] at H; have c5b0 : decide (((rd_T59 l0_1 x3_1).f0) < 0) = false := decide_eq_false c5; clear c5
    by_cases c12 : ((rd_T59 l0_1 x3_1).f0) ≥ 64
    ·rw [if_pos c12] at H
     have c12b0 : decide (64 ≤ ((rd_T59 l0_1 x3_1).f0)) = true := decide_eq_true c12; clear c12
     obtain rfl := Option.some.inj H
     have q13_0 : wr.cell? ⟨gb110, 0, none⟩ = some (.int .i64 a0_0) := (YI BK110.out 0).trans rfl
     have q13_1 : wr.cell? ⟨gb110, 1, none⟩ = some (.slice A0_1 l0_1.length c0_1) := (YI BK110.out 1).trans rfl
     have f13_0 := YJ BK110.out 0
     have f13_1 := YJ BK110.out 1
     have p111 : 0 ≤ (x3_1 : Int) := of_decide_eq_true (by first | (with_reducible assumption) | assumption)
     have q111 : x3_1 < (l0_1.length : Int) := of_decide_eq_true (by first | (with_reducible assumption) | assumption)
     obtain ⟨ad111, e111, hx111_0, hx111_1⟩ := at_T59 HR0_1.out x3_1 p111 q111
     cases e111
     replace hx111_0 := (HB.out.cell (World.block_lt_of_cell? w _ hx111_0)).trans hx111_0
     replace hx111_1 := (HB.out.cell (World.block_lt_of_cell? w _ hx111_1)).trans hx111_1
     replace p111 := eq_true p111
     replace q111 := eq_true q111
     try go_wp2_with (first | ((with_reducible refine gate_dst (N := 4) rfl ?_); refine box_event ?hg (N := 4) ?hd (cs := #[.int .i64 0, .int .i64 0]) (t := 59) ?hr ?_; (case hd => rfl); (case hg => rfl); (case hr => first | (go_simp; done) | (go_simp; rfl)); intro gb112 hg w14 hbox hb; have n0_ := YL (YK (g := gb110) (o := .cells #[.int .i64 a0_0, .slice (some ad111) l0_1.length c0_1] 25 (0, 0)) (by (with_reducible repeat (first | refine YF ?_ _ | refine YG ?_ | refine YH ?_ _)); exact BK110.out) hb); have n1_ := YL (YD (by repeat (first | (with_reducible first | exact HB.out | apply YA | apply YB | apply YC | refine below_set ?_ GE110.out) | exact HB.out)) hb); have n2_ := YL (hbox); have n3_ := YL ((by rw [hg]; exact (YE (by repeat (first | (with_reducible first | exact HB.out | apply YA | apply YB | apply YC | refine below_set ?_ GE110.out) | exact HB.out))) : w.heap.size ≤ gb112)); have n4_ := YL ((by rw [hg]; exact (YE (by repeat (first | (with_reducible first | exact HB.out | apply YA | apply YB | apply YC | refine below_set ?_ GE110.out) | exact HB.out))) : w.heap.size ≤ gb112)); have n5_ := YL ((by rw [hg]; exact Nat.ne_of_lt (blk_lt (g := gb110) (o := .cells #[.int .i64 a0_0, .slice (some ad111) l0_1.length c0_1] 25 (0, 0)) (by (with_reducible repeat (first | refine YF ?_ _ | refine YG ?_ | refine YH ?_ _)); exact BK110.out)) : gb110 ≠ gb112)); have n6_ := YL ((by rw [hg]; exact Nat.ne_of_gt (blk_lt (g := gb110) (o := .cells #[.int .i64 a0_0, .slice (some ad111) l0_1.length c0_1] 25 (0, 0)) (by (with_reducible repeat (first | refine YF ?_ _ | refine YG ?_ | refine YH ?_ _)); exact BK110.out)) : gb112 ≠ gb110)); clear BK110; clear HB; have BK110 := n0_; have HB := n1_; have BK112 := n2_; have GW112 := n3_; have GE112 := n4_; have NB110_112 := n5_; have NB112_110 := n6_; clear n0_ n1_ n2_ n3_ n4_ n5_ n6_; clear hb hbox hg; have hnb15 := NB112_110.out; have hnc15 := NB110_112.out; have q16_0 : w14.cell? ⟨gb112, 0, none⟩ = some (.int .i64 0) := (YI BK112.out 0).trans rfl; have q16_1 : w14.cell? ⟨gb112, 1, none⟩ = some (.int .i64 0) := (YI BK112.out 1).trans rfl; have f16_0 := YJ BK112.out 0; have f16_1 := YJ BK112.out 1))
     have n0_ : Aside0 (((w14.setCell ⟨gb112, 0, none⟩ (.int .i64 ((rd_T59 l0_1 x3_1).f0))).setCell ⟨gb112, 1, none⟩ (.int .i64 ((rd_T59 l0_1 x3_1).f1))).heap[gb110]? = some (.cells #[.int .i64 a0_0, .slice (some ad111) l0_1.length c0_1] 25 (0, 0))) := ⟨by (with_reducible repeat (first | refine YF ?_ _ | refine YG ?_ | refine YH ?_ _)); refine blk_far ?_ NB110_112.out _; (with_reducible repeat (first | refine YF ?_ _ | refine YG ?_ | refine YH ?_ _)); refine blk_far ?_ NB110_112.out _; (with_reducible repeat (first | refine YF ?_ _ | refine YG ?_ | refine YH ?_ _)); exact BK110.out⟩
     have n1_ : Aside0 (((w14.setCell ⟨gb112, 0, none⟩ (.int .i64 ((rd_T59 l0_1 x3_1).f0))).setCell ⟨gb112, 1, none⟩ (.int .i64 ((rd_T59 l0_1 x3_1).f1))).heap[gb112]? = some (.cells #[.int .i64 ((rd_T59 l0_1 x3_1).f0), .int .i64 ((rd_T59 l0_1 x3_1).f1)] 59 (0, 0))) := ⟨by (with_reducible repeat (first | refine YF ?_ _ | refine YG ?_ | refine YH ?_ _)); refine blk_put (cs := #[.int .i64 ((rd_T59 l0_1 x3_1).f0), .int .i64 0]) ?_ 1 _ rfl; (with_reducible repeat (first | refine YF ?_ _ | refine YG ?_ | refine YH ?_ _)); refine blk_put (cs := #[.int .i64 0, .int .i64 0]) ?_ 0 _ rfl; (with_reducible repeat (first | refine YF ?_ _ | refine YG ?_ | refine YH ?_ _)); exact BK112.out⟩
     have n2_ : Aside0 (Below w.heap.size w ((w14.setCell ⟨gb112, 0, none⟩ (.int .i64 ((rd_T59 l0_1 x3_1).f0))).setCell ⟨gb112, 1, none⟩ (.int .i64 ((rd_T59 l0_1 x3_1).f1)))) := ⟨by repeat (first | (with_reducible first | exact HB.out | apply YA | apply YB | apply YC | refine below_set ?_ GE110.out | refine below_set ?_ GE112.out) | exact HB.out)⟩
     (try clear BK110); (try clear BK112); (try clear HB)
     generalize ((w14.setCell ⟨gb112, 0, none⟩ (.int .i64 ((rd_T59 l0_1 x3_1).f0))).setCell ⟨gb112, 1, none⟩ (.int .i64 ((rd_T59 l0_1 x3_1).f1))) = w17 at n0_ n1_ n2_ ⊢
     have BK110 := n0_; have BK112 := n1_; have HB := n2_; clear n0_ n1_ n2_
     have n0_ := YL (YG BK110.out)
     have n1_ := YL (YG BK112.out)
     have n2_ := YL (YC HB.out)
     clear BK110; clear BK112; clear HB; have BK110 := n0_; have BK112 := n1_; have HB := n2_; clear n0_ n1_ n2_
     refine start_ (n := 30) (S := fun w' => w'.cell? ⟨gb112, 0, none⟩ = some (.int .i64 ((rd_T59 l0_1 x3_1).f0)) ∧ w'.cell? ⟨gb112, 1, none⟩ = some (.int .i64 ((rd_T59 l0_1 x3_1).f1))) (ds := []) #[false, false, false, false, false, false, false, false, false, false, false, false, false, false, false, false, false, false, false, false, false, false, false, false, false, false, false, false, false, false] (by kernel_rfl) rfl rfl ⟨(YI BK112.out 0).trans rfl, (YI BK112.out 1).trans rfl⟩ (fun hHeld => ?_); refine with_tabW thalwegref06_Right.tab5 thalwegref06_Right.bits5 (fun HT_ HW_ => ?_)
     generalize w17.drew = w18 at BK110 BK112 HB hHeld ⊢
     refine pure_ (i := 0) (N := some 17) (v := ?_) (a' := ?_) #[true, false, false, false, false, false, false, false, false, false, false, false, false, false, false, false, false, false, false, false, false, false, false, false, false, false, false, false, false, false] rfl rfl (any_of HT_.out (by kernel_rfl)) (fun _ _ _ h => h) (Or.inl ⟨by rfl, ?_⟩) ?_ ?_
     rotate_left
     ·intro w'
      go_simp; with_reducible rfl
     rotate_left
     ·simp only [Act.put, YM, YN, YO, i64_w, i32_w]
      rfl
     refine take_ (i := 1) (N := some 18) (v := ?_) (a' := ?_) #[true, true, false, false, false, false, false, false, false, false, false, false, false, false, false, false, false, false, false, false, false, false, false, false, false, false, false, false, false, false] rfl rfl (take_ofW HT_.out HW_.out (by kernel_rfl)) (fun _ _ _ h => h) (Or.inl ⟨by rfl, ?_⟩) hHeld ?_ ?_
     rotate_left
     ·rintro w' ⟨s0, s1⟩
      go_simp; with_reducible rfl
     rotate_left
     ·simp only [Act.put, YM, YN, YO, i64_w, i32_w]
      rfl
     refine pure_ (i := 2) (N := some 19) (v := ?_) (a' := ?_) #[true, true, true, false, false, false, false, false, false, false, false, false, false, false, false, false, false, false, false, false, false, false, false, false, false, false, false, false, false, false] rfl rfl (any_of HT_.out (by kernel_rfl)) (fun _ _ _ h => h) (Or.inl ⟨by rfl, ?_⟩) ?_ ?_
     rotate_left
     ·intro w'
      go_simp; with_reducible rfl
     rotate_left
     ·simp only [Act.put, YM, YN, YO, i64_w, i32_w]
      rfl
     refine pure_ (i := 3) (N := some 20) (v := ?_) (a' := ?_) #[true, true, true, true, false, false, false, false, false, false, false, false, false, false, false, false, false, false, false, false, false, false, false, false, false, false, false, false, false, false] rfl rfl (any_of HT_.out (by kernel_rfl)) (fun _ _ _ h => h) (Or.inl ⟨by rfl, ?_⟩) ?_ ?_
     rotate_left
     ·intro w'
      go_simp; with_reducible rfl
     rotate_left
     ·simp only [Act.put, YM, YN, YO, i64_w, i32_w]
      rfl
     refine pure_ (i := 4) (N := some 21) (v := ?_) (a' := ?_) #[true, true, true, true, true, false, false, false, false, false, false, false, false, false, false, false, false, false, false, false, false, false, false, false, false, false, false, false, false, false] rfl rfl (any_of HT_.out (by kernel_rfl)) (fun _ _ _ h => h) (Or.inl ⟨by rfl, ?_⟩) ?_ ?_
     rotate_left
     ·intro w'
      go_simp; with_reducible rfl
     rotate_left
     ·simp only [Act.put, YM, YN, YO, i64_w, i32_w]
      rfl
     refine take_ (i := 5) (N := some 22) (v := ?_) (a' := ?_) #[true, true, true, true, true, true, false, false, false, false, false, false, false, false, false, false, false, false, false, false, false, false, false, false, false, false, false, false, false, false] rfl rfl (take_ofW HT_.out HW_.out (by kernel_rfl)) (fun _ _ _ h => h) (Or.inl ⟨by rfl, ?_⟩) hHeld ?_ ?_
     rotate_left
     ·rintro w' ⟨s0, s1⟩
      go_simp; with_reducible rfl
     rotate_left
     ·simp only [Act.put, YM, YN, YO, i64_w, i32_w]
      rfl
     refine pure_ (i := 6) (N := some 23) (v := ?_) (a' := ?_) #[true, true, true, true, true, true, true, false, false, false, false, false, false, false, false, false, false, false, false, false, false, false, false, false, false, false, false, false, false, false] rfl rfl (any_of HT_.out (by kernel_rfl)) (fun _ _ _ h => h) (Or.inl ⟨by rfl, ?_⟩) ?_ ?_
     rotate_left
     ·intro w'
      go_simp; with_reducible rfl
     rotate_left
     ·simp only [Act.put, YM, YN, YO, i64_w, i32_w]
      rfl
     refine pure_ (i := 7) (N := some 24) (v := ?_) (a' := ?_) #[true, true, true, true, true, true, true, true, false, false, false, false, false, false, false, false, false, false, false, false, false, false, false, false, false, false, false, false, false, false] rfl rfl (any_of HT_.out (by kernel_rfl)) (fun _ _ _ h => h) (Or.inl ⟨by rfl, ?_⟩) ?_ ?_
     rotate_left
     ·intro w'
      go_simp; with_reducible rfl
     rotate_left
     ·simp only [Act.put, YM, YN, YO, i64_w, i32_w]
      rfl
     refine pure_ (i := 8) (N := some 25) (v := ?_) (a' := ?_) #[true, true, true, true, true, true, true, true, true, false, false, false, false, false, false, false, false, false, false, false, false, false, false, false, false, false, false, false, false, false] rfl rfl (any_of HT_.out (by kernel_rfl)) (fun _ _ _ h => h) (Or.inl ⟨by rfl, ?_⟩) ?_ ?_
     rotate_left
     ·intro w'
      go_simp; with_reducible rfl
     rotate_left
     ·simp only [Act.put, YM, YN, YO, i64_w, i32_w]
      rfl
     refine pure_ (i := 9) (N := some 26) (v := undef) (a' := ?_) #[true, true, true, true, true, true, true, true, true, true, false, false, false, false, false, false, false, false, false, false, false, false, false, false, false, false, false, false, false, false] rfl rfl (any_of HT_.out (by kernel_rfl)) (fun _ _ _ h => h) (Or.inr ⟨by rfl, rfl⟩) ?_ ?_
     rotate_left
     ·simp only [Act.put, YM, YN, YO, i64_w, i32_w]
      rfl
     refine pure_ (i := 10) (N := some 27) (v := undef) (a' := ?_) #[true, true, true, true, true, true, true, true, true, true, true, false, false, false, false, false, false, false, false, false, false, false, false, false, false, false, false, false, false, false] rfl rfl (any_of HT_.out (by kernel_rfl)) (fun _ _ _ h => h) (Or.inr ⟨by rfl, rfl⟩) ?_ ?_
     rotate_left
     ·simp only [Act.put, YM, YN, YO, i64_w, i32_w]
      rfl
     refine pure_ (i := 11) (N := some 28) (v := undef) (a' := ?_) #[true, true, true, true, true, true, true, true, true, true, true, true, false, false, false, false, false, false, false, false, false, false, false, false, false, false, false, false, false, false] rfl rfl (any_of HT_.out (by kernel_rfl)) (fun _ _ _ h => h) (Or.inr ⟨by rfl, rfl⟩) ?_ ?_
     rotate_left
     ·simp only [Act.put, YM, YN, YO, i64_w, i32_w]
      rfl
     refine pure_ (i := 12) (N := some 29) (v := undef) (a' := ?_) #[true, true, true, true, true, true, true, true, true, true, true, true, true, false, false, false, false, false, false, false, false, false, false, false, false, false, false, false, false, false] rfl rfl (any_of HT_.out (by kernel_rfl)) (fun _ _ _ h => h) (Or.inr ⟨by rfl, rfl⟩) ?_ ?_
     rotate_left
     ·simp only [Act.put, YM, YN, YO, i64_w, i32_w]
      rfl
     refine pure_ (i := 13) (N := some 30) (v := undef) (a' := ?_) #[true, true, true, true, true, true, true, true, true, true, true, true, true, true, false, false, false, false, false, false, false, false, false, false, false, false, false, false, false, false] rfl rfl (any_of HT_.out (by kernel_rfl)) (fun _ _ _ h => h) (Or.inr ⟨by rfl, rfl⟩) ?_ ?_
     rotate_left
     ·simp only [Act.put, YM, YN, YO, i64_w, i32_w]
      rfl
     refine pure_ (i := 14) (N := some 31) (v := undef) (a' := ?_) #[true, true, true, true, true, true, true, true, true, true, true, true, true, true, true, false, false, false, false, false, false, false, false, false, false, false, false, false, false, false] rfl rfl (any_of HT_.out (by kernel_rfl)) (fun _ _ _ h => h) (Or.inr ⟨by rfl, rfl⟩) ?_ ?_
     rotate_left
     ·simp only [Act.put, YM, YN, YO, i64_w, i32_w]
      rfl
     refine pure_ (i := 15) (N := some 32) (v := undef) (a' := ?_) #[true, true, true, true, true, true, true, true, true, true, true, true, true, true, true, true, false, false, false, false, false, false, false, false, false, false, false, false, false, false] rfl rfl (any_of HT_.out (by kernel_rfl)) (fun _ _ _ h => h) (Or.inr ⟨by rfl, rfl⟩) ?_ ?_
     rotate_left
     ·simp only [Act.put, YM, YN, YO, i64_w, i32_w]
      rfl
     refine pure_ (i := 16) (N := some 33) (v := undef) (a' := ?_) #[true, true, true, true, true, true, true, true, true, true, true, true, true, true, true, true, true, false, false, false, false, false, false, false, false, false, false, false, false, false] rfl rfl (any_of HT_.out (by kernel_rfl)) (fun _ _ _ h => h) (Or.inr ⟨by rfl, rfl⟩) ?_ ?_
     rotate_left
     ·simp only [Act.put, YM, YN, YO, i64_w, i32_w]
      rfl
     refine pure_ (i := 17) (N := some 34) (v := undef) (a' := ?_) #[true, true, true, true, true, true, true, true, true, true, true, true, true, true, true, true, true, true, false, false, false, false, false, false, false, false, false, false, false, false] rfl rfl (any_of HT_.out (by kernel_rfl)) (fun _ _ _ h => h) (Or.inr ⟨by rfl, rfl⟩) ?_ ?_
     rotate_left
     ·simp only [Act.put, YM, YN, YO, i64_w, i32_w]
      rfl
     refine pure_ (i := 18) (N := some 35) (v := undef) (a' := ?_) #[true, true, true, true, true, true, true, true, true, true, true, true, true, true, true, true, true, true, true, false, false, false, false, false, false, false, false, false, false, false] rfl rfl (any_of HT_.out (by kernel_rfl)) (fun _ _ _ h => h) (Or.inr ⟨by rfl, rfl⟩) ?_ ?_
     rotate_left
     ·simp only [Act.put, YM, YN, YO, i64_w, i32_w]
      rfl
     refine pure_ (i := 19) (N := some 36) (v := undef) (a' := ?_) #[true, true, true, true, true, true, true, true, true, true, true, true, true, true, true, true, true, true, true, true, false, false, false, false, false, false, false, false, false, false] rfl rfl (any_of HT_.out (by kernel_rfl)) (fun _ _ _ h => h) (Or.inr ⟨by rfl, rfl⟩) ?_ ?_
     rotate_left
     ·simp only [Act.put, YM, YN, YO, i64_w, i32_w]
      rfl
     refine pure_ (i := 20) (N := some 37) (v := undef) (a' := ?_) #[true, true, true, true, true, true, true, true, true, true, true, true, true, true, true, true, true, true, true, true, true, false, false, false, false, false, false, false, false, false] rfl rfl (any_of HT_.out (by kernel_rfl)) (fun _ _ _ h => h) (Or.inr ⟨by rfl, rfl⟩) ?_ ?_
     rotate_left
     ·simp only [Act.put, YM, YN, YO, i64_w, i32_w]
      rfl
     refine pure_ (i := 21) (N := some 38) (v := undef) (a' := ?_) #[true, true, true, true, true, true, true, true, true, true, true, true, true, true, true, true, true, true, true, true, true, true, false, false, false, false, false, false, false, false] rfl rfl (any_of HT_.out (by kernel_rfl)) (fun _ _ _ h => h) (Or.inr ⟨by rfl, rfl⟩) ?_ ?_
     rotate_left
     ·simp only [Act.put, YM, YN, YO, i64_w, i32_w]
      rfl
     refine pure_ (i := 22) (N := some 39) (v := undef) (a' := ?_) #[true, true, true, true, true, true, true, true, true, true, true, true, true, true, true, true, true, true, true, true, true, true, true, false, false, false, false, false, false, false] rfl rfl (any_of HT_.out (by kernel_rfl)) (fun _ _ _ h => h) (Or.inr ⟨by rfl, rfl⟩) ?_ ?_
     rotate_left
     ·simp only [Act.put, YM, YN, YO, i64_w, i32_w]
      rfl
     refine pure_ (i := 23) (N := some 40) (v := ?_) (a' := ?_) #[true, true, true, true, true, true, true, true, true, true, true, true, true, true, true, true, true, true, true, true, true, true, true, true, false, false, false, false, false, false] rfl rfl (any_of HT_.out (by kernel_rfl)) (fun _ _ _ h => h) (Or.inl ⟨by rfl, ?_⟩) ?_ ?_
     rotate_left
     ·intro w'
      go_simp; with_reducible rfl
     rotate_left
     ·simp only [Act.put, YM, YN, YO, i64_w, i32_w]
      rfl
     refine pure_ (i := 24) (N := some 41) (v := ?_) (a' := ?_) #[true, true, true, true, true, true, true, true, true, true, true, true, true, true, true, true, true, true, true, true, true, true, true, true, true, false, false, false, false, false] rfl rfl (any_of HT_.out (by kernel_rfl)) (fun _ _ _ h => h) (Or.inl ⟨by rfl, ?_⟩) ?_ ?_
     rotate_left
     ·intro w'
      go_simp; with_reducible rfl
     rotate_left
     ·simp only [Act.put, YM, YN, YO, i64_w, i32_w]
      rfl
     refine pure_ (i := 25) (N := some 42) (v := undef) (a' := ?_) #[true, true, true, true, true, true, true, true, true, true, true, true, true, true, true, true, true, true, true, true, true, true, true, true, true, true, false, false, false, false] rfl rfl (any_of HT_.out (by kernel_rfl)) (fun _ _ _ h => h) (Or.inr ⟨by rfl, rfl⟩) ?_ ?_
     rotate_left
     ·simp only [Act.put, YM, YN, YO, i64_w, i32_w]
      rfl
     refine pure_ (i := 26) (N := some 43) (v := undef) (a' := ?_) #[true, true, true, true, true, true, true, true, true, true, true, true, true, true, true, true, true, true, true, true, true, true, true, true, true, true, true, false, false, false] rfl rfl (any_of HT_.out (by kernel_rfl)) (fun _ _ _ h => h) (Or.inr ⟨by rfl, rfl⟩) ?_ ?_
     rotate_left
     ·simp only [Act.put, YM, YN, YO, i64_w, i32_w]
      rfl
     refine pure_ (i := 27) (N := some 44) (v := undef) (a' := ?_) #[true, true, true, true, true, true, true, true, true, true, true, true, true, true, true, true, true, true, true, true, true, true, true, true, true, true, true, true, false, false] rfl rfl (any_of HT_.out (by kernel_rfl)) (fun _ _ _ h => h) (Or.inr ⟨by rfl, rfl⟩) ?_ ?_
     rotate_left
     ·simp only [Act.put, YM, YN, YO, i64_w, i32_w]
      rfl
     refine pure_ (i := 28) (N := some 45) (v := undef) (a' := ?_) #[true, true, true, true, true, true, true, true, true, true, true, true, true, true, true, true, true, true, true, true, true, true, true, true, true, true, true, true, true, false] rfl rfl (any_of HT_.out (by kernel_rfl)) (fun _ _ _ h => h) (Or.inr ⟨by rfl, rfl⟩) ?_ ?_
     rotate_left
     ·simp only [Act.put, YM, YN, YO, i64_w, i32_w]
      rfl
     refine pure_ (i := 29) (N := some 46) (v := ?_) (a' := ?_) #[true, true, true, true, true, true, true, true, true, true, true, true, true, true, true, true, true, true, true, true, true, true, true, true, true, true, true, true, true, true] rfl rfl (any_of HT_.out (by kernel_rfl)) (fun _ _ _ h => h) (Or.inl ⟨by rfl, ?_⟩) ?_ ?_
     rotate_left
     ·intro w'
      go_simp; with_reducible rfl
     rotate_left
     ·simp only [Act.put, YM, YN, YO, i64_w, i32_w]
      rfl
     refine done_ (done_of HT_.out (by kernel_rfl)) ?_
     try go_wp2
     go_ret
     exact ⟨by first | rfl | (simp [errW_none, errW_some] <;> rfl) | (simp [*, errW_none, errW_some] <;> rfl), by repeat (first | (with_reducible first | exact HB.out | apply YA | apply YB | apply YC | refine below_set ?_ GE110.out | refine below_set ?_ GE112.out) | exact HB.out)⟩
    rw [if_neg c12] at H; have c12b0 : decide (64 ≤ ((rd_T59 l0_1 x3_1).f0)) = false := decide_eq_false c12; clear c12
    by_cases c19 : x3_1 > 0
    ·rw [if_pos c19] at H
     have c19b0 : decide (0 < x3_1) = true := decide_eq_true c19; clear c19
     obtain ⟨ji20, hji20⟩ : ∃ j_ : Int, (wrap64 (x3_1 - 1)) = j_ := ⟨_, rfl⟩
     replace H : (if 0 ≤ (ji20) then (if (ji20) < (l0_1.length : Int) then (if ((rd_T59 l0_1 (ji20)).f0) ≥ ((rd_T59 l0_1 x3_1).f0) then (some false) else ((thalwegref06_Epoch.f ((rd_T59 l0_1 x3_1).f1)).bind fun t114 => (if t114 = true then (thalwegref06_Right.l0 k1 (wrap64 (x3_1 + 1)) a0_0 l0_1) else (some false)))) else (none)) else (none)) = some r := by first | (rw [hji20] at H; exact H) | (simp only [hji20] at H ⊢; exact H)
     have hji20w : (IntKind.i64.wrap (x3_1 - 1)) = ji20 := (i64_w _).trans hji20
     by_cases c21 : 0 ≤ (ji20)
     rotate_left
     ·rw [if_neg c21] at H
      exact absurd H (by simp)
     rw [if_pos c21] at H; have c21b0 : decide (0 ≤ (ji20)) = true := decide_eq_true c21; clear c21
     by_cases c22 : (ji20) < (l0_1.length : Int)
     rotate_left
     ·rw [if_neg c22] at H
      exact absurd H (by simp)
     rw [if_pos c22] at H
     have c22b0 : decide ((ji20) < (l0_1.length : Int)) = true := decide_eq_true c22
     clear c22
     by_cases c23 : ((rd_T59 l0_1 (ji20)).f0) ≥ ((rd_T59 l0_1 x3_1).f0)
     ·rw [if_pos c23] at H
      have c23b0 : decide (((rd_T59 l0_1 x3_1).f0) ≤ ((rd_T59 l0_1 (ji20)).f0)) = true := decide_eq_true c23; clear c23
      obtain rfl := Option.some.inj H
      have q24_0 : wr.cell? ⟨gb110, 0, none⟩ = some (.int .i64 a0_0) := (YI BK110.out 0).trans rfl
      have q24_1 : wr.cell? ⟨gb110, 1, none⟩ = some (.slice A0_1 l0_1.length c0_1) := (YI BK110.out 1).trans rfl
      have f24_0 := YJ BK110.out 0
      have f24_1 := YJ BK110.out 1
      have p111 : 0 ≤ (x3_1 : Int) := of_decide_eq_true (by first | (with_reducible assumption) | assumption)
      have q111 : x3_1 < (l0_1.length : Int) := of_decide_eq_true (by first | (with_reducible assumption) | assumption)
      obtain ⟨ad111, e111, hx111_0, hx111_1⟩ := at_T59 HR0_1.out x3_1 p111 q111
      cases e111
      replace hx111_0 := (HB.out.cell (World.block_lt_of_cell? w _ hx111_0)).trans hx111_0
      replace hx111_1 := (HB.out.cell (World.block_lt_of_cell? w _ hx111_1)).trans hx111_1
      replace p111 := eq_true p111
      replace q111 := eq_true q111
      try go_wp2_with (first | ((with_reducible refine gate_dst (N := 4) rfl ?_); refine box_event ?hg (N := 4) ?hd (cs := #[.int .i64 0, .int .i64 0]) (t := 59) ?hr ?_; (case hd => rfl); (case hg => rfl); (case hr => first | (go_simp; done) | (go_simp; rfl)); intro gb112 hg w25 hbox hb; have n0_ := YL (YK (g := gb110) (o := .cells #[.int .i64 a0_0, .slice (some ad111) l0_1.length c0_1] 25 (0, 0)) (by (with_reducible repeat (first | refine YF ?_ _ | refine YG ?_ | refine YH ?_ _)); exact BK110.out) hb); have n1_ := YL (YD (by repeat (first | (with_reducible first | exact HB.out | apply YA | apply YB | apply YC | refine below_set ?_ GE110.out) | exact HB.out)) hb); have n2_ := YL (hbox); have n3_ := YL ((by rw [hg]; exact (YE (by repeat (first | (with_reducible first | exact HB.out | apply YA | apply YB | apply YC | refine below_set ?_ GE110.out) | exact HB.out))) : w.heap.size ≤ gb112)); have n4_ := YL ((by rw [hg]; exact (YE (by repeat (first | (with_reducible first | exact HB.out | apply YA | apply YB | apply YC | refine below_set ?_ GE110.out) | exact HB.out))) : w.heap.size ≤ gb112)); have n5_ := YL ((by rw [hg]; exact Nat.ne_of_lt (blk_lt (g := gb110) (o := .cells #[.int .i64 a0_0, .slice (some ad111) l0_1.length c0_1] 25 (0, 0)) (by (with_reducible repeat (first | refine YF ?_ _ | refine YG ?_ | refine YH ?_ _)); exact BK110.out)) : gb110 ≠ gb112)); have n6_ := YL ((by rw [hg]; exact Nat.ne_of_gt (blk_lt (g := gb110) (o := .cells #[.int .i64 a0_0, .slice (some ad111) l0_1.length c0_1] 25 (0, 0)) (by (with_reducible repeat (first | refine YF ?_ _ | refine YG ?_ | refine YH ?_ _)); exact BK110.out)) : gb112 ≠ gb110)); clear BK110; clear HB; have BK110 := n0_; have HB := n1_; have BK112 := n2_; have GW112 := n3_; have GE112 := n4_; have NB110_112 := n5_; have NB112_110 := n6_; clear n0_ n1_ n2_ n3_ n4_ n5_ n6_; clear hb hbox hg; have hnb26 := NB112_110.out; have hnc26 := NB110_112.out; have q27_0 : w25.cell? ⟨gb112, 0, none⟩ = some (.int .i64 0) := (YI BK112.out 0).trans rfl; have q27_1 : w25.cell? ⟨gb112, 1, none⟩ = some (.int .i64 0) := (YI BK112.out 1).trans rfl; have f27_0 := YJ BK112.out 0; have f27_1 := YJ BK112.out 1))
      have n0_ : Aside0 (((w25.setCell ⟨gb112, 0, none⟩ (.int .i64 ((rd_T59 l0_1 x3_1).f0))).setCell ⟨gb112, 1, none⟩ (.int .i64 ((rd_T59 l0_1 x3_1).f1))).heap[gb110]? = some (.cells #[.int .i64 a0_0, .slice (some ad111) l0_1.length c0_1] 25 (0, 0))) := ⟨by (with_reducible repeat (first | refine YF ?_ _ | refine YG ?_ | refine YH ?_ _)); refine blk_far ?_ NB110_112.out _; (with_reducible repeat (first | refine YF ?_ _ | refine YG ?_ | refine YH ?_ _)); refine blk_far ?_ NB110_112.out _; (with_reducible repeat (first | refine YF ?_ _ | refine YG ?_ | refine YH ?_ _)); exact BK110.out⟩
      have n1_ : Aside0 (((w25.setCell ⟨gb112, 0, none⟩ (.int .i64 ((rd_T59 l0_1 x3_1).f0))).setCell ⟨gb112, 1, none⟩ (.int .i64 ((rd_T59 l0_1 x3_1).f1))).heap[gb112]? = some (.cells #[.int .i64 ((rd_T59 l0_1 x3_1).f0), .int .i64 ((rd_T59 l0_1 x3_1).f1)] 59 (0, 0))) := ⟨by (with_reducible repeat (first | refine YF ?_ _ | refine YG ?_ | refine YH ?_ _)); refine blk_put (cs := #[.int .i64 ((rd_T59 l0_1 x3_1).f0), .int .i64 0]) ?_ 1 _ rfl; (with_reducible repeat (first | refine YF ?_ _ | refine YG ?_ | refine YH ?_ _)); refine blk_put (cs := #[.int .i64 0, .int .i64 0]) ?_ 0 _ rfl; (with_reducible repeat (first | refine YF ?_ _ | refine YG ?_ | refine YH ?_ _)); exact BK112.out⟩
      have n2_ : Aside0 (Below w.heap.size w ((w25.setCell ⟨gb112, 0, none⟩ (.int .i64 ((rd_T59 l0_1 x3_1).f0))).setCell ⟨gb112, 1, none⟩ (.int .i64 ((rd_T59 l0_1 x3_1).f1)))) := ⟨by repeat (first | (with_reducible first | exact HB.out | apply YA | apply YB | apply YC | refine below_set ?_ GE110.out | refine below_set ?_ GE112.out) | exact HB.out)⟩
      (try clear BK110); (try clear BK112); (try clear HB)
      generalize ((w25.setCell ⟨gb112, 0, none⟩ (.int .i64 ((rd_T59 l0_1 x3_1).f0))).setCell ⟨gb112, 1, none⟩ (.int .i64 ((rd_T59 l0_1 x3_1).f1))) = w28 at n0_ n1_ n2_ ⊢
      have BK110 := n0_; have BK112 := n1_; have HB := n2_; clear n0_ n1_ n2_
      have n0_ := YL (YG BK110.out)
      have n1_ := YL (YG BK112.out)
      have n2_ := YL (YC HB.out)
      clear BK110; clear BK112; clear HB; have BK110 := n0_; have BK112 := n1_; have HB := n2_; clear n0_ n1_ n2_
      have p113 : 0 ≤ ((ji20) : Int) := of_decide_eq_true (by first | (with_reducible assumption) | assumption)
      have q113 : (ji20) < (l0_1.length : Int) := of_decide_eq_true (by first | (with_reducible assumption) | assumption)
      obtain ⟨ad113, e113, hx113_0, hx113_1⟩ := at_T59 HR0_1.out (ji20) p113 q113
      have hw113_1 := hx113_1
      have hw113_0 := hx113_0
      obtain rfl : ad111 = ad113 := (by injection e113)
      replace hx113_0 := (HB.out.cell (World.block_lt_of_cell? w _ hx113_0)).trans hx113_0
      replace hx113_1 := (HB.out.cell (World.block_lt_of_cell? w _ hx113_1)).trans hx113_1
      replace p113 := eq_true p113
      replace q113 := eq_true q113
      refine start_ (n := 30) (S := fun w' => w'.cell? ⟨gb112, 0, none⟩ = some (.int .i64 ((rd_T59 l0_1 x3_1).f0)) ∧ w'.cell? ⟨gb112, 1, none⟩ = some (.int .i64 ((rd_T59 l0_1 x3_1).f1)) ∧ w'.cell? ⟨gb110, 0, none⟩ = some (.int .i64 a0_0) ∧ w'.cell? ⟨gb110, 1, none⟩ = some (.slice (some ad111) l0_1.length c0_1) ∧ w'.cell? (ad111.add (((ji20)).toNat * 2)) = some (.int .i64 ((rd_T59 l0_1 (ji20)).f0)) ∧ w'.cell? ⟨(ad111.add (((ji20)).toNat * 2)).block, (ad111.add (((ji20)).toNat * 2)).off + 1, none⟩ = some (.int .i64 ((rd_T59 l0_1 (ji20)).f1))) (ds := []) #[false, false, false, false, false, false, false, false, false, false, false, false, false, false, false, false, false, false, false, false, false, false, false, false, false, false, false, false, false, false] (by kernel_rfl) rfl rfl ⟨(YI BK112.out 0).trans rfl, (YI BK112.out 1).trans rfl, (YI BK110.out 0).trans rfl, (YI BK110.out 1).trans rfl, ((HB.out.cell (World.block_lt_of_cell? w _ hw113_0)).trans hw113_0), ((HB.out.cell (World.block_lt_of_cell? w _ hw113_1)).trans hw113_1)⟩ (fun hHeld => ?_); refine with_tabW thalwegref06_Right.tab5 thalwegref06_Right.bits5 (fun HT_ HW_ => ?_)
      generalize w28.drew = w29 at BK110 BK112 HB hx113_0 hx113_1 hHeld ⊢
      refine pure_ (i := 0) (N := some 17) (v := ?_) (a' := ?_) #[true, false, false, false, false, false, false, false, false, false, false, false, false, false, false, false, false, false, false, false, false, false, false, false, false, false, false, false, false, false] rfl rfl (any_of HT_.out (by kernel_rfl)) (fun _ _ _ h => h) (Or.inl ⟨by rfl, ?_⟩) ?_ ?_
      rotate_left
      ·intro w'
       go_simp; with_reducible rfl
      rotate_left
      ·simp only [Act.put, YM, YN, YO, i64_w, i32_w]
       rfl
      refine take_ (i := 1) (N := some 18) (v := ?_) (a' := ?_) #[true, true, false, false, false, false, false, false, false, false, false, false, false, false, false, false, false, false, false, false, false, false, false, false, false, false, false, false, false, false] rfl rfl (take_ofW HT_.out HW_.out (by kernel_rfl)) (fun _ _ _ h => h) (Or.inl ⟨by rfl, ?_⟩) hHeld ?_ ?_
      rotate_left
      ·rintro w' ⟨s0, s1, s2, s3, s4, s5⟩
       go_simp; with_reducible rfl
      rotate_left
      ·simp only [Act.put, YM, YN, YO, i64_w, i32_w]
       rfl
      refine pure_ (i := 2) (N := some 19) (v := ?_) (a' := ?_) #[true, true, true, false, false, false, false, false, false, false, false, false, false, false, false, false, false, false, false, false, false, false, false, false, false, false, false, false, false, false] rfl rfl (any_of HT_.out (by kernel_rfl)) (fun _ _ _ h => h) (Or.inl ⟨by rfl, ?_⟩) ?_ ?_
      rotate_left
      ·intro w'
       go_simp; with_reducible rfl
      rotate_left
      ·simp only [Act.put, YM, YN, YO, i64_w, i32_w]
       rfl
      refine pure_ (i := 3) (N := some 20) (v := ?_) (a' := ?_) #[true, true, true, true, false, false, false, false, false, false, false, false, false, false, false, false, false, false, false, false, false, false, false, false, false, false, false, false, false, false] rfl rfl (any_of HT_.out (by kernel_rfl)) (fun _ _ _ h => h) (Or.inl ⟨by rfl, ?_⟩) ?_ ?_
      rotate_left
      ·intro w'
       go_simp; with_reducible rfl
      rotate_left
      ·simp only [Act.put, YM, YN, YO, i64_w, i32_w]
       rfl
      refine pure_ (i := 4) (N := some 21) (v := ?_) (a' := ?_) #[true, true, true, true, true, false, false, false, false, false, false, false, false, false, false, false, false, false, false, false, false, false, false, false, false, false, false, false, false, false] rfl rfl (any_of HT_.out (by kernel_rfl)) (fun _ _ _ h => h) (Or.inl ⟨by rfl, ?_⟩) ?_ ?_
      rotate_left
      ·intro w'
       go_simp; with_reducible rfl
      rotate_left
      ·simp only [Act.put, YM, YN, YO, i64_w, i32_w]
       rfl
      refine take_ (i := 5) (N := some 22) (v := ?_) (a' := ?_) #[true, true, true, true, true, true, false, false, false, false, false, false, false, false, false, false, false, false, false, false, false, false, false, false, false, false, false, false, false, false] rfl rfl (take_ofW HT_.out HW_.out (by kernel_rfl)) (fun _ _ _ h => h) (Or.inl ⟨by rfl, ?_⟩) hHeld ?_ ?_
      rotate_left
      ·rintro w' ⟨s0, s1, s2, s3, s4, s5⟩
       go_simp; with_reducible rfl
      rotate_left
      ·simp only [Act.put, YM, YN, YO, i64_w, i32_w]
       rfl
      refine pure_ (i := 6) (N := some 23) (v := ?_) (a' := ?_) #[true, true, true, true, true, true, true, false, false, false, false, false, false, false, false, false, false, false, false, false, false, false, false, false, false, false, false, false, false, false] rfl rfl (any_of HT_.out (by kernel_rfl)) (fun _ _ _ h => h) (Or.inl ⟨by rfl, ?_⟩) ?_ ?_
      rotate_left
      ·intro w'
       go_simp; with_reducible rfl
      rotate_left
      ·simp only [Act.put, YM, YN, YO, i64_w, i32_w]
       rfl
      refine pure_ (i := 7) (N := some 24) (v := ?_) (a' := ?_) #[true, true, true, true, true, true, true, true, false, false, false, false, false, false, false, false, false, false, false, false, false, false, false, false, false, false, false, false, false, false] rfl rfl (any_of HT_.out (by kernel_rfl)) (fun _ _ _ h => h) (Or.inl ⟨by rfl, ?_⟩) ?_ ?_
      rotate_left
      ·intro w'
       go_simp; with_reducible rfl
      rotate_left
      ·simp only [Act.put, YM, YN, YO, i64_w, i32_w]
       rfl
      refine pure_ (i := 8) (N := some 25) (v := ?_) (a' := ?_) #[true, true, true, true, true, true, true, true, true, false, false, false, false, false, false, false, false, false, false, false, false, false, false, false, false, false, false, false, false, false] rfl rfl (any_of HT_.out (by kernel_rfl)) (fun _ _ _ h => h) (Or.inl ⟨by rfl, ?_⟩) ?_ ?_
      rotate_left
      ·intro w'
       go_simp; with_reducible rfl
      rotate_left
      ·simp only [Act.put, YM, YN, YO, i64_w, i32_w]
       rfl
      refine pure_ (i := 9) (N := some 26) (v := ?_) (a' := ?_) #[true, true, true, true, true, true, true, true, true, true, false, false, false, false, false, false, false, false, false, false, false, false, false, false, false, false, false, false, false, false] rfl rfl (any_of HT_.out (by kernel_rfl)) (fun _ _ _ h => h) (Or.inl ⟨by rfl, ?_⟩) ?_ ?_
      rotate_left
      ·intro w'
       go_simp; with_reducible rfl
      rotate_left
      ·simp only [Act.put, YM, YN, YO, i64_w, i32_w]
       rfl
      refine pure_ (i := 10) (N := some 27) (v := ?_) (a' := ?_) #[true, true, true, true, true, true, true, true, true, true, true, false, false, false, false, false, false, false, false, false, false, false, false, false, false, false, false, false, false, false] rfl rfl (any_of HT_.out (by kernel_rfl)) (fun _ _ _ h => h) (Or.inl ⟨by rfl, ?_⟩) ?_ ?_
      rotate_left
      ·intro w'
       go_simp; with_reducible rfl
      rotate_left
      ·simp only [Act.put, YM, YN, YO, i64_w, i32_w]
       rfl
      refine pure_ (i := 11) (N := some 28) (v := ?_) (a' := ?_) #[true, true, true, true, true, true, true, true, true, true, true, true, false, false, false, false, false, false, false, false, false, false, false, false, false, false, false, false, false, false] rfl rfl (any_of HT_.out (by kernel_rfl)) (fun _ _ _ h => h) (Or.inl ⟨by rfl, ?_⟩) ?_ ?_
      rotate_left
      ·intro w'
       go_simp; with_reducible rfl
      rotate_left
      ·simp only [Act.put, YM, YN, YO, i64_w, i32_w]
       rfl
      refine pure_ (i := 12) (N := some 29) (v := ?_) (a' := ?_) #[true, true, true, true, true, true, true, true, true, true, true, true, true, false, false, false, false, false, false, false, false, false, false, false, false, false, false, false, false, false] rfl rfl (any_of HT_.out (by kernel_rfl)) (fun _ _ _ h => h) (Or.inl ⟨by rfl, ?_⟩) ?_ ?_
      rotate_left
      ·intro w'
       go_simp; with_reducible rfl
      rotate_left
      ·simp only [Act.put, YM, YN, YO, i64_w, i32_w]
       rfl
      refine pure_ (i := 14) (N := some 31) (v := ?_) (a' := ?_) #[true, true, true, true, true, true, true, true, true, true, true, true, true, false, true, false, false, false, false, false, false, false, false, false, false, false, false, false, false, false] rfl rfl (any_of HT_.out (by kernel_rfl)) (fun _ _ _ h => h) (Or.inl ⟨by rfl, ?_⟩) ?_ ?_
      rotate_left
      ·intro w'
       go_simp; with_reducible rfl
      rotate_left
      ·simp only [Act.put, YM, YN, YO, i64_w, i32_w]
       rfl
      refine pure_ (i := 15) (N := some 32) (v := ?_) (a' := ?_) #[true, true, true, true, true, true, true, true, true, true, true, true, true, false, true, true, false, false, false, false, false, false, false, false, false, false, false, false, false, false] rfl rfl (any_of HT_.out (by kernel_rfl)) (fun _ _ _ h => h) (Or.inl ⟨by rfl, ?_⟩) ?_ ?_
      rotate_left
      ·intro w'
       go_simp; with_reducible rfl
      rotate_left
      ·simp only [Act.put, YM, YN, YO, i64_w, i32_w]
       rfl
      refine pure_ (i := 19) (N := some 36) (v := ?_) (a' := ?_) #[true, true, true, true, true, true, true, true, true, true, true, true, true, false, true, true, false, false, false, true, false, false, false, false, false, false, false, false, false, false] rfl rfl (any_of HT_.out (by kernel_rfl)) (fun _ _ _ h => h) (Or.inl ⟨by rfl, ?_⟩) ?_ ?_
      rotate_left
      ·intro w'
       go_simp; with_reducible rfl
      rotate_left
      ·simp only [Act.put, YM, YN, YO, i64_w, i32_w]
       rfl
      refine take_ (i := 13) (N := some 30) (v := ?_) (a' := ?_) #[true, true, true, true, true, true, true, true, true, true, true, true, true, true, true, true, false, false, false, true, false, false, false, false, false, false, false, false, false, false] rfl rfl (take_ofW HT_.out HW_.out (by kernel_rfl)) (fun _ _ _ h => h) (Or.inl ⟨by rfl, ?_⟩) hHeld ?_ ?_
      rotate_left
      ·rintro w' ⟨s0, s1, s2, s3, s4, s5⟩
       go_simp; with_reducible rfl
      rotate_left
      ·simp only [Act.put, YM, YN, YO, i64_w, i32_w]
       rfl
      refine pure_ (i := 16) (N := some 33) (v := ?_) (a' := ?_) #[true, true, true, true, true, true, true, true, true, true, true, true, true, true, true, true, true, false, false, true, false, false, false, false, false, false, false, false, false, false] rfl rfl (any_of HT_.out (by kernel_rfl)) (fun _ _ _ h => h) (Or.inl ⟨by rfl, ?_⟩) ?_ ?_
      rotate_left
      ·intro w'
       go_simp; with_reducible rfl
      rotate_left
      ·simp only [Act.put, YM, YN, YO, i64_w, i32_w]
       rfl
      refine pure_ (i := 17) (N := some 34) (v := ?_) (a' := ?_) #[true, true, true, true, true, true, true, true, true, true, true, true, true, true, true, true, true, true, false, true, false, false, false, false, false, false, false, false, false, false] rfl rfl (any_of HT_.out (by kernel_rfl)) (fun _ _ _ h => h) (Or.inl ⟨by rfl, ?_⟩) ?_ ?_
      rotate_left
      ·intro w'
       go_simp; with_reducible rfl
      rotate_left
      ·simp only [Act.put, YM, YN, YO, i64_w, i32_w]
       rfl
      refine take_ (i := 18) (N := some 35) (v := ?_) (a' := ?_) #[true, true, true, true, true, true, true, true, true, true, true, true, true, true, true, true, true, true, true, true, false, false, false, false, false, false, false, false, false, false] rfl rfl (take_ofW HT_.out HW_.out (by kernel_rfl)) (fun _ _ _ h => h) (Or.inl ⟨by rfl, ?_⟩) hHeld ?_ ?_
      rotate_left
      ·rintro w' ⟨s0, s1, s2, s3, s4, s5⟩
       go_simp; with_reducible rfl
      rotate_left
      ·simp only [Act.put, YM, YN, YO, i64_w, i32_w]
       rfl
      refine take_ (i := 20) (N := some 37) (v := ?_) (a' := ?_) #[true, true, true, true, true, true, true, true, true, true, true, true, true, true, true, true, true, true, true, true, true, false, false, false, false, false, false, false, false, false] rfl rfl (take_ofW HT_.out HW_.out (by kernel_rfl)) (fun _ _ _ h => h) (Or.inl ⟨by rfl, ?_⟩) hHeld ?_ ?_
      rotate_left
      ·rintro w' ⟨s0, s1, s2, s3, s4, s5⟩
       go_simp; with_reducible rfl
      rotate_left
      ·simp only [Act.put, YM, YN, YO, i64_w, i32_w]
       rfl
      refine pure_ (i := 21) (N := some 38) (v := ?_) (a' := ?_) #[true, true, true, true, true, true, true, true, true, true, true, true, true, true, true, true, true, true, true, true, true, true, false, false, false, false, false, false, false, false] rfl rfl (any_of HT_.out (by kernel_rfl)) (fun _ _ _ h => h) (Or.inl ⟨by rfl, ?_⟩) ?_ ?_
      rotate_left
      ·intro w'
       go_simp; with_reducible rfl
      rotate_left
      ·simp only [Act.put, YM, YN, YO, i64_w, i32_w]
       rfl
      refine pure_ (i := 22) (N := some 39) (v := ?_) (a' := ?_) #[true, true, true, true, true, true, true, true, true, true, true, true, true, true, true, true, true, true, true, true, true, true, true, false, false, false, false, false, false, false] rfl rfl (any_of HT_.out (by kernel_rfl)) (fun _ _ _ h => h) (Or.inl ⟨by rfl, ?_⟩) ?_ ?_
      rotate_left
      ·intro w'
       go_simp; with_reducible rfl
      rotate_left
      ·simp only [Act.put, YM, YN, YO, i64_w, i32_w]
       rfl
      refine pure_ (i := 23) (N := some 40) (v := ?_) (a' := ?_) #[true, true, true, true, true, true, true, true, true, true, true, true, true, true, true, true, true, true, true, true, true, true, true, true, false, false, false, false, false, false] rfl rfl (any_of HT_.out (by kernel_rfl)) (fun _ _ _ h => h) (Or.inl ⟨by rfl, ?_⟩) ?_ ?_
      rotate_left
      ·intro w'
       go_simp; with_reducible rfl
      rotate_left
      ·simp only [Act.put, YM, YN, YO, i64_w, i32_w]
       rfl
      refine pure_ (i := 24) (N := some 41) (v := ?_) (a' := ?_) #[true, true, true, true, true, true, true, true, true, true, true, true, true, true, true, true, true, true, true, true, true, true, true, true, true, false, false, false, false, false] rfl rfl (any_of HT_.out (by kernel_rfl)) (fun _ _ _ h => h) (Or.inl ⟨by rfl, ?_⟩) ?_ ?_
      rotate_left
      ·intro w'
       go_simp; with_reducible rfl
      rotate_left
      ·simp only [Act.put, YM, YN, YO, i64_w, i32_w]
       rfl
      refine pure_ (i := 25) (N := some 42) (v := undef) (a' := ?_) #[true, true, true, true, true, true, true, true, true, true, true, true, true, true, true, true, true, true, true, true, true, true, true, true, true, true, false, false, false, false] rfl rfl (any_of HT_.out (by kernel_rfl)) (fun _ _ _ h => h) (Or.inr ⟨by rfl, rfl⟩) ?_ ?_
      rotate_left
      ·simp only [Act.put, YM, YN, YO, i64_w, i32_w]
       rfl
      refine pure_ (i := 26) (N := some 43) (v := undef) (a' := ?_) #[true, true, true, true, true, true, true, true, true, true, true, true, true, true, true, true, true, true, true, true, true, true, true, true, true, true, true, false, false, false] rfl rfl (any_of HT_.out (by kernel_rfl)) (fun _ _ _ h => h) (Or.inr ⟨by rfl, rfl⟩) ?_ ?_
      rotate_left
      ·simp only [Act.put, YM, YN, YO, i64_w, i32_w]
       rfl
      refine pure_ (i := 27) (N := some 44) (v := undef) (a' := ?_) #[true, true, true, true, true, true, true, true, true, true, true, true, true, true, true, true, true, true, true, true, true, true, true, true, true, true, true, true, false, false] rfl rfl (any_of HT_.out (by kernel_rfl)) (fun _ _ _ h => h) (Or.inr ⟨by rfl, rfl⟩) ?_ ?_
      rotate_left
      ·simp only [Act.put, YM, YN, YO, i64_w, i32_w]
       rfl
      refine pure_ (i := 28) (N := some 45) (v := undef) (a' := ?_) #[true, true, true, true, true, true, true, true, true, true, true, true, true, true, true, true, true, true, true, true, true, true, true, true, true, true, true, true, true, false] rfl rfl (any_of HT_.out (by kernel_rfl)) (fun _ _ _ h => h) (Or.inr ⟨by rfl, rfl⟩) ?_ ?_
      rotate_left
      ·simp only [Act.put, YM, YN, YO, i64_w, i32_w]
       rfl
      refine pure_ (i := 29) (N := some 46) (v := ?_) (a' := ?_) #[true, true, true, true, true, true, true, true, true, true, true, true, true, true, true, true, true, true, true, true, true, true, true, true, true, true, true, true, true, true] rfl rfl (any_of HT_.out (by kernel_rfl)) (fun _ _ _ h => h) (Or.inl ⟨by rfl, ?_⟩) ?_ ?_
      rotate_left
      ·intro w'
       go_simp; with_reducible rfl
      rotate_left
      ·simp only [Act.put, YM, YN, YO, i64_w, i32_w]
       rfl
      refine done_ (done_of HT_.out (by kernel_rfl)) ?_
      try go_wp2
      go_ret
      exact ⟨by first | rfl | (simp [errW_none, errW_some] <;> rfl) | (simp only [← hji20]; first | rfl | (simp [errW_none, errW_some] <;> rfl)) | (simp [*, errW_none, errW_some] <;> rfl), by repeat (first | (with_reducible first | exact HB.out | apply YA | apply YB | apply YC | refine below_set ?_ GE110.out | refine below_set ?_ GE112.out) | exact HB.out)⟩
     rw [if_neg c23] at H; have c23b0 : decide (((rd_T59 l0_1 x3_1).f0) ≤ ((rd_T59 l0_1 (ji20)).f0)) = false := decide_eq_false c23; clear c23; replace H := Option.bind_eq_some_iff.mp H; obtain ⟨t114, A300, H⟩ := H
     replace H : (if t114 = true then (thalwegref06_Right.l0 k1 (wrap64 (x3_1 + 1)) a0_0 l0_1) else (some false)) = some r := H
     have A30 := YL A300; clear A300
     by_cases c31 : t114 = true
     ·subst c31
      have H1 : (thalwegref06_Right.l0 k1 (wrap64 (x3_1 + 1)) a0_0 l0_1) = some r := by rw [if_pos rfl] at H; exact H
      clear H
      have H := H1
      clear H1
      have H' := YL H
      clear H
      have q32_0 : wr.cell? ⟨gb110, 0, none⟩ = some (.int .i64 a0_0) := (YI BK110.out 0).trans rfl
      have q32_1 : wr.cell? ⟨gb110, 1, none⟩ = some (.slice A0_1 l0_1.length c0_1) := (YI BK110.out 1).trans rfl
      have f32_0 := YJ BK110.out 0
      have f32_1 := YJ BK110.out 1
      have p111 : 0 ≤ (x3_1 : Int) := of_decide_eq_true (by first | (with_reducible assumption) | assumption)
      have q111 : x3_1 < (l0_1.length : Int) := of_decide_eq_true (by first | (with_reducible assumption) | assumption)
      obtain ⟨ad111, e111, hx111_0, hx111_1⟩ := at_T59 HR0_1.out x3_1 p111 q111
      cases e111
      replace hx111_0 := (HB.out.cell (World.block_lt_of_cell? w _ hx111_0)).trans hx111_0
      replace hx111_1 := (HB.out.cell (World.block_lt_of_cell? w _ hx111_1)).trans hx111_1
      replace p111 := eq_true p111
      replace q111 := eq_true q111
      try go_wp2_with (first | ((with_reducible refine gate_dst (N := 4) rfl ?_); refine box_event ?hg (N := 4) ?hd (cs := #[.int .i64 0, .int .i64 0]) (t := 59) ?hr ?_; (case hd => rfl); (case hg => rfl); (case hr => first | (go_simp; done) | (go_simp; rfl)); intro gb112 hg w33 hbox hb; have n0_ := YL (YK (g := gb110) (o := .cells #[.int .i64 a0_0, .slice (some ad111) l0_1.length c0_1] 25 (0, 0)) (by (with_reducible repeat (first | refine YF ?_ _ | refine YG ?_ | refine YH ?_ _)); exact BK110.out) hb); have n1_ := YL (YD (by repeat (first | (with_reducible first | exact HB.out | apply YA | apply YB | apply YC | refine below_set ?_ GE110.out) | exact HB.out)) hb); have n2_ := YL (hbox); have n3_ := YL ((by rw [hg]; exact (YE (by repeat (first | (with_reducible first | exact HB.out | apply YA | apply YB | apply YC | refine below_set ?_ GE110.out) | exact HB.out))) : w.heap.size ≤ gb112)); have n4_ := YL ((by rw [hg]; exact (YE (by repeat (first | (with_reducible first | exact HB.out | apply YA | apply YB | apply YC | refine below_set ?_ GE110.out) | exact HB.out))) : w.heap.size ≤ gb112)); have n5_ := YL ((by rw [hg]; exact Nat.ne_of_lt (blk_lt (g := gb110) (o := .cells #[.int .i64 a0_0, .slice (some ad111) l0_1.length c0_1] 25 (0, 0)) (by (with_reducible repeat (first | refine YF ?_ _ | refine YG ?_ | refine YH ?_ _)); exact BK110.out)) : gb110 ≠ gb112)); have n6_ := YL ((by rw [hg]; exact Nat.ne_of_gt (blk_lt (g := gb110) (o := .cells #[.int .i64 a0_0, .slice (some ad111) l0_1.length c0_1] 25 (0, 0)) (by (with_reducible repeat (first | refine YF ?_ _ | refine YG ?_ | refine YH ?_ _)); exact BK110.out)) : gb112 ≠ gb110)); clear BK110; clear HB; have BK110 := n0_; have HB := n1_; have BK112 := n2_; have GW112 := n3_; have GE112 := n4_; have NB110_112 := n5_; have NB112_110 := n6_; clear n0_ n1_ n2_ n3_ n4_ n5_ n6_; clear hb hbox hg; have hnb34 := NB112_110.out; have hnc34 := NB110_112.out; have q35_0 : w33.cell? ⟨gb112, 0, none⟩ = some (.int .i64 0) := (YI BK112.out 0).trans rfl; have q35_1 : w33.cell? ⟨gb112, 1, none⟩ = some (.int .i64 0) := (YI BK112.out 1).trans rfl; have f35_0 := YJ BK112.out 0; have f35_1 := YJ BK112.out 1))
      have n0_ : Aside0 (((w33.setCell ⟨gb112, 0, none⟩ (.int .i64 ((rd_T59 l0_1 x3_1).f0))).setCell ⟨gb112, 1, none⟩ (.int .i64 ((rd_T59 l0_1 x3_1).f1))).heap[gb110]? = some (.cells #[.int .i64 a0_0, .slice (some ad111) l0_1.length c0_1] 25 (0, 0))) := ⟨by (with_reducible repeat (first | refine YF ?_ _ | refine YG ?_ | refine YH ?_ _)); refine blk_far ?_ NB110_112.out _; (with_reducible repeat (first | refine YF ?_ _ | refine YG ?_ | refine YH ?_ _)); refine blk_far ?_ NB110_112.out _; (with_reducible repeat (first | refine YF ?_ _ | refine YG ?_ | refine YH ?_ _)); exact BK110.out⟩
      have n1_ : Aside0 (((w33.setCell ⟨gb112, 0, none⟩ (.int .i64 ((rd_T59 l0_1 x3_1).f0))).setCell ⟨gb112, 1, none⟩ (.int .i64 ((rd_T59 l0_1 x3_1).f1))).heap[gb112]? = some (.cells #[.int .i64 ((rd_T59 l0_1 x3_1).f0), .int .i64 ((rd_T59 l0_1 x3_1).f1)] 59 (0, 0))) := ⟨by (with_reducible repeat (first | refine YF ?_ _ | refine YG ?_ | refine YH ?_ _)); refine blk_put (cs := #[.int .i64 ((rd_T59 l0_1 x3_1).f0), .int .i64 0]) ?_ 1 _ rfl; (with_reducible repeat (first | refine YF ?_ _ | refine YG ?_ | refine YH ?_ _)); refine blk_put (cs := #[.int .i64 0, .int .i64 0]) ?_ 0 _ rfl; (with_reducible repeat (first | refine YF ?_ _ | refine YG ?_ | refine YH ?_ _)); exact BK112.out⟩
      have n2_ : Aside0 (Below w.heap.size w ((w33.setCell ⟨gb112, 0, none⟩ (.int .i64 ((rd_T59 l0_1 x3_1).f0))).setCell ⟨gb112, 1, none⟩ (.int .i64 ((rd_T59 l0_1 x3_1).f1)))) := ⟨by repeat (first | (with_reducible first | exact HB.out | apply YA | apply YB | apply YC | refine below_set ?_ GE110.out | refine below_set ?_ GE112.out) | exact HB.out)⟩
      (try clear BK110); (try clear BK112); (try clear HB)
      generalize ((w33.setCell ⟨gb112, 0, none⟩ (.int .i64 ((rd_T59 l0_1 x3_1).f0))).setCell ⟨gb112, 1, none⟩ (.int .i64 ((rd_T59 l0_1 x3_1).f1))) = w36 at n0_ n1_ n2_ ⊢
      have BK110 := n0_; have BK112 := n1_; have HB := n2_; clear n0_ n1_ n2_
      have n0_ := YL (YG BK110.out)
      have n1_ := YL (YG BK112.out)
      have n2_ := YL (YC HB.out)
      clear BK110; clear BK112; clear HB; have BK110 := n0_; have BK112 := n1_; have HB := n2_; clear n0_ n1_ n2_
      have p113 : 0 ≤ ((ji20) : Int) := of_decide_eq_true (by first | (with_reducible assumption) | assumption)
      have q113 : (ji20) < (l0_1.length : Int) := of_decide_eq_true (by first | (with_reducible assumption) | assumption)
      obtain ⟨ad113, e113, hx113_0, hx113_1⟩ := at_T59 HR0_1.out (ji20) p113 q113
      have hw113_1 := hx113_1
      have hw113_0 := hx113_0
      obtain rfl : ad111 = ad113 := (by injection e113)
      replace hx113_0 := (HB.out.cell (World.block_lt_of_cell? w _ hx113_0)).trans hx113_0
      replace hx113_1 := (HB.out.cell (World.block_lt_of_cell? w _ hx113_1)).trans hx113_1
      replace p113 := eq_true p113
      replace q113 := eq_true q113
      refine start_ (n := 30) (S := fun w' => w'.cell? ⟨gb112, 0, none⟩ = some (.int .i64 ((rd_T59 l0_1 x3_1).f0)) ∧ w'.cell? ⟨gb112, 1, none⟩ = some (.int .i64 ((rd_T59 l0_1 x3_1).f1)) ∧ w'.cell? ⟨gb110, 0, none⟩ = some (.int .i64 a0_0) ∧ w'.cell? ⟨gb110, 1, none⟩ = some (.slice (some ad111) l0_1.length c0_1) ∧ w'.cell? (ad111.add (((ji20)).toNat * 2)) = some (.int .i64 ((rd_T59 l0_1 (ji20)).f0)) ∧ w'.cell? ⟨(ad111.add (((ji20)).toNat * 2)).block, (ad111.add (((ji20)).toNat * 2)).off + 1, none⟩ = some (.int .i64 ((rd_T59 l0_1 (ji20)).f1))) (ds := []) #[false, false, false, false, false, false, false, false, false, false, false, false, false, false, false, false, false, false, false, false, false, false, false, false, false, false, false, false, false, false] (by kernel_rfl) rfl rfl ⟨(YI BK112.out 0).trans rfl, (YI BK112.out 1).trans rfl, (YI BK110.out 0).trans rfl, (YI BK110.out 1).trans rfl, ((HB.out.cell (World.block_lt_of_cell? w _ hw113_0)).trans hw113_0), ((HB.out.cell (World.block_lt_of_cell? w _ hw113_1)).trans hw113_1)⟩ (fun hHeld => ?_); refine with_tabW thalwegref06_Right.tab5 thalwegref06_Right.bits5 (fun HT_ HW_ => ?_)
      generalize w36.drew = w37 at BK110 BK112 HB hx113_0 hx113_1 hHeld ⊢
      refine pure_ (i := 0) (N := some 17) (v := ?_) (a' := ?_) #[true, false, false, false, false, false, false, false, false, false, false, false, false, false, false, false, false, false, false, false, false, false, false, false, false, false, false, false, false, false] rfl rfl (any_of HT_.out (by kernel_rfl)) (fun _ _ _ h => h) (Or.inl ⟨by rfl, ?_⟩) ?_ ?_
      rotate_left
      ·intro w'
       go_simp; with_reducible rfl
      rotate_left
      ·simp only [Act.put, YM, YN, YO, i64_w, i32_w]
       rfl
      refine take_ (i := 1) (N := some 18) (v := ?_) (a' := ?_) #[true, true, false, false, false, false, false, false, false, false, false, false, false, false, false, false, false, false, false, false, false, false, false, false, false, false, false, false, false, false] rfl rfl (take_ofW HT_.out HW_.out (by kernel_rfl)) (fun _ _ _ h => h) (Or.inl ⟨by rfl, ?_⟩) hHeld ?_ ?_
      rotate_left
      ·rintro w' ⟨s0, s1, s2, s3, s4, s5⟩
       go_simp; with_reducible rfl
      rotate_left
      ·simp only [Act.put, YM, YN, YO, i64_w, i32_w]
       rfl
      refine pure_ (i := 2) (N := some 19) (v := ?_) (a' := ?_) #[true, true, true, false, false, false, false, false, false, false, false, false, false, false, false, false, false, false, false, false, false, false, false, false, false, false, false, false, false, false] rfl rfl (any_of HT_.out (by kernel_rfl)) (fun _ _ _ h => h) (Or.inl ⟨by rfl, ?_⟩) ?_ ?_
      rotate_left
      ·intro w'
       go_simp; with_reducible rfl
      rotate_left
      ·simp only [Act.put, YM, YN, YO, i64_w, i32_w]
       rfl
      refine pure_ (i := 3) (N := some 20) (v := ?_) (a' := ?_) #[true, true, true, true, false, false, false, false, false, false, false, false, false, false, false, false, false, false, false, false, false, false, false, false, false, false, false, false, false, false] rfl rfl (any_of HT_.out (by kernel_rfl)) (fun _ _ _ h => h) (Or.inl ⟨by rfl, ?_⟩) ?_ ?_
      rotate_left
      ·intro w'
       go_simp; with_reducible rfl
      rotate_left
      ·simp only [Act.put, YM, YN, YO, i64_w, i32_w]
       rfl
      refine pure_ (i := 4) (N := some 21) (v := ?_) (a' := ?_) #[true, true, true, true, true, false, false, false, false, false, false, false, false, false, false, false, false, false, false, false, false, false, false, false, false, false, false, false, false, false] rfl rfl (any_of HT_.out (by kernel_rfl)) (fun _ _ _ h => h) (Or.inl ⟨by rfl, ?_⟩) ?_ ?_
      rotate_left
      ·intro w'
       go_simp; with_reducible rfl
      rotate_left
      ·simp only [Act.put, YM, YN, YO, i64_w, i32_w]
       rfl
      refine take_ (i := 5) (N := some 22) (v := ?_) (a' := ?_) #[true, true, true, true, true, true, false, false, false, false, false, false, false, false, false, false, false, false, false, false, false, false, false, false, false, false, false, false, false, false] rfl rfl (take_ofW HT_.out HW_.out (by kernel_rfl)) (fun _ _ _ h => h) (Or.inl ⟨by rfl, ?_⟩) hHeld ?_ ?_
      rotate_left
      ·rintro w' ⟨s0, s1, s2, s3, s4, s5⟩
       go_simp; with_reducible rfl
      rotate_left
      ·simp only [Act.put, YM, YN, YO, i64_w, i32_w]
       rfl
      refine pure_ (i := 6) (N := some 23) (v := ?_) (a' := ?_) #[true, true, true, true, true, true, true, false, false, false, false, false, false, false, false, false, false, false, false, false, false, false, false, false, false, false, false, false, false, false] rfl rfl (any_of HT_.out (by kernel_rfl)) (fun _ _ _ h => h) (Or.inl ⟨by rfl, ?_⟩) ?_ ?_
      rotate_left
      ·intro w'
       go_simp; with_reducible rfl
      rotate_left
      ·simp only [Act.put, YM, YN, YO, i64_w, i32_w]
       rfl
      refine pure_ (i := 7) (N := some 24) (v := ?_) (a' := ?_) #[true, true, true, true, true, true, true, true, false, false, false, false, false, false, false, false, false, false, false, false, false, false, false, false, false, false, false, false, false, false] rfl rfl (any_of HT_.out (by kernel_rfl)) (fun _ _ _ h => h) (Or.inl ⟨by rfl, ?_⟩) ?_ ?_
      rotate_left
      ·intro w'
       go_simp; with_reducible rfl
      rotate_left
      ·simp only [Act.put, YM, YN, YO, i64_w, i32_w]
       rfl
      refine pure_ (i := 8) (N := some 25) (v := ?_) (a' := ?_) #[true, true, true, true, true, true, true, true, true, false, false, false, false, false, false, false, false, false, false, false, false, false, false, false, false, false, false, false, false, false] rfl rfl (any_of HT_.out (by kernel_rfl)) (fun _ _ _ h => h) (Or.inl ⟨by rfl, ?_⟩) ?_ ?_
      rotate_left
      ·intro w'
       go_simp; with_reducible rfl
      rotate_left
      ·simp only [Act.put, YM, YN, YO, i64_w, i32_w]
       rfl
      refine pure_ (i := 9) (N := some 26) (v := ?_) (a' := ?_) #[true, true, true, true, true, true, true, true, true, true, false, false, false, false, false, false, false, false, false, false, false, false, false, false, false, false, false, false, false, false] rfl rfl (any_of HT_.out (by kernel_rfl)) (fun _ _ _ h => h) (Or.inl ⟨by rfl, ?_⟩) ?_ ?_
      rotate_left
      ·intro w'
       go_simp; with_reducible rfl
      rotate_left
      ·simp only [Act.put, YM, YN, YO, i64_w, i32_w]
       rfl
      refine pure_ (i := 10) (N := some 27) (v := ?_) (a' := ?_) #[true, true, true, true, true, true, true, true, true, true, true, false, false, false, false, false, false, false, false, false, false, false, false, false, false, false, false, false, false, false] rfl rfl (any_of HT_.out (by kernel_rfl)) (fun _ _ _ h => h) (Or.inl ⟨by rfl, ?_⟩) ?_ ?_
      rotate_left
      ·intro w'
       go_simp; with_reducible rfl
      rotate_left
      ·simp only [Act.put, YM, YN, YO, i64_w, i32_w]
       rfl
      refine pure_ (i := 11) (N := some 28) (v := ?_) (a' := ?_) #[true, true, true, true, true, true, true, true, true, true, true, true, false, false, false, false, false, false, false, false, false, false, false, false, false, false, false, false, false, false] rfl rfl (any_of HT_.out (by kernel_rfl)) (fun _ _ _ h => h) (Or.inl ⟨by rfl, ?_⟩) ?_ ?_
      rotate_left
      ·intro w'
       go_simp; with_reducible rfl
      rotate_left
      ·simp only [Act.put, YM, YN, YO, i64_w, i32_w]
       rfl
      refine pure_ (i := 12) (N := some 29) (v := ?_) (a' := ?_) #[true, true, true, true, true, true, true, true, true, true, true, true, true, false, false, false, false, false, false, false, false, false, false, false, false, false, false, false, false, false] rfl rfl (any_of HT_.out (by kernel_rfl)) (fun _ _ _ h => h) (Or.inl ⟨by rfl, ?_⟩) ?_ ?_
      rotate_left
      ·intro w'
       go_simp; with_reducible rfl
      rotate_left
      ·simp only [Act.put, YM, YN, YO, i64_w, i32_w]
       rfl
      refine pure_ (i := 14) (N := some 31) (v := ?_) (a' := ?_) #[true, true, true, true, true, true, true, true, true, true, true, true, true, false, true, false, false, false, false, false, false, false, false, false, false, false, false, false, false, false] rfl rfl (any_of HT_.out (by kernel_rfl)) (fun _ _ _ h => h) (Or.inl ⟨by rfl, ?_⟩) ?_ ?_
      rotate_left
      ·intro w'
       go_simp; with_reducible rfl
      rotate_left
      ·simp only [Act.put, YM, YN, YO, i64_w, i32_w]
       rfl
      refine pure_ (i := 15) (N := some 32) (v := ?_) (a' := ?_) #[true, true, true, true, true, true, true, true, true, true, true, true, true, false, true, true, false, false, false, false, false, false, false, false, false, false, false, false, false, false] rfl rfl (any_of HT_.out (by kernel_rfl)) (fun _ _ _ h => h) (Or.inl ⟨by rfl, ?_⟩) ?_ ?_
      rotate_left
      ·intro w'
       go_simp; with_reducible rfl
      rotate_left
      ·simp only [Act.put, YM, YN, YO, i64_w, i32_w]
       rfl
      refine pure_ (i := 19) (N := some 36) (v := ?_) (a' := ?_) #[true, true, true, true, true, true, true, true, true, true, true, true, true, false, true, true, false, false, false, true, false, false, false, false, false, false, false, false, false, false] rfl rfl (any_of HT_.out (by kernel_rfl)) (fun _ _ _ h => h) (Or.inl ⟨by rfl, ?_⟩) ?_ ?_
      rotate_left
      ·intro w'
       go_simp; with_reducible rfl
      rotate_left
      ·simp only [Act.put, YM, YN, YO, i64_w, i32_w]
       rfl
      refine take_ (i := 13) (N := some 30) (v := ?_) (a' := ?_) #[true, true, true, true, true, true, true, true, true, true, true, true, true, true, true, true, false, false, false, true, false, false, false, false, false, false, false, false, false, false] rfl rfl (take_ofW HT_.out HW_.out (by kernel_rfl)) (fun _ _ _ h => h) (Or.inl ⟨by rfl, ?_⟩) hHeld ?_ ?_
      rotate_left
      ·rintro w' ⟨s0, s1, s2, s3, s4, s5⟩
       go_simp; with_reducible rfl
      rotate_left
      ·simp only [Act.put, YM, YN, YO, i64_w, i32_w]
       rfl
      refine pure_ (i := 16) (N := some 33) (v := ?_) (a' := ?_) #[true, true, true, true, true, true, true, true, true, true, true, true, true, true, true, true, true, false, false, true, false, false, false, false, false, false, false, false, false, false] rfl rfl (any_of HT_.out (by kernel_rfl)) (fun _ _ _ h => h) (Or.inl ⟨by rfl, ?_⟩) ?_ ?_
      rotate_left
      ·intro w'
       go_simp; with_reducible rfl
      rotate_left
      ·simp only [Act.put, YM, YN, YO, i64_w, i32_w]
       rfl
      refine pure_ (i := 17) (N := some 34) (v := ?_) (a' := ?_) #[true, true, true, true, true, true, true, true, true, true, true, true, true, true, true, true, true, true, false, true, false, false, false, false, false, false, false, false, false, false] rfl rfl (any_of HT_.out (by kernel_rfl)) (fun _ _ _ h => h) (Or.inl ⟨by rfl, ?_⟩) ?_ ?_
      rotate_left
      ·intro w'
       go_simp; with_reducible rfl
      rotate_left
      ·simp only [Act.put, YM, YN, YO, i64_w, i32_w]
       rfl
      refine take_ (i := 18) (N := some 35) (v := ?_) (a' := ?_) #[true, true, true, true, true, true, true, true, true, true, true, true, true, true, true, true, true, true, true, true, false, false, false, false, false, false, false, false, false, false] rfl rfl (take_ofW HT_.out HW_.out (by kernel_rfl)) (fun _ _ _ h => h) (Or.inl ⟨by rfl, ?_⟩) hHeld ?_ ?_
      rotate_left
      ·rintro w' ⟨s0, s1, s2, s3, s4, s5⟩
       go_simp; with_reducible rfl
      rotate_left
      ·simp only [Act.put, YM, YN, YO, i64_w, i32_w]
       rfl
      refine take_ (i := 20) (N := some 37) (v := ?_) (a' := ?_) #[true, true, true, true, true, true, true, true, true, true, true, true, true, true, true, true, true, true, true, true, true, false, false, false, false, false, false, false, false, false] rfl rfl (take_ofW HT_.out HW_.out (by kernel_rfl)) (fun _ _ _ h => h) (Or.inl ⟨by rfl, ?_⟩) hHeld ?_ ?_
      rotate_left
      ·rintro w' ⟨s0, s1, s2, s3, s4, s5⟩
       go_simp; with_reducible rfl
      rotate_left
      ·simp only [Act.put, YM, YN, YO, i64_w, i32_w]
       rfl
      refine pure_ (i := 21) (N := some 38) (v := ?_) (a' := ?_) #[true, true, true, true, true, true, true, true, true, true, true, true, true, true, true, true, true, true, true, true, true, true, false, false, false, false, false, false, false, false] rfl rfl (any_of HT_.out (by kernel_rfl)) (fun _ _ _ h => h) (Or.inl ⟨by rfl, ?_⟩) ?_ ?_
      rotate_left
      ·intro w'
       go_simp; with_reducible rfl
      rotate_left
      ·simp only [Act.put, YM, YN, YO, i64_w, i32_w]
       rfl
      refine pure_ (i := 22) (N := some 39) (v := ?_) (a' := ?_) #[true, true, true, true, true, true, true, true, true, true, true, true, true, true, true, true, true, true, true, true, true, true, true, false, false, false, false, false, false, false] rfl rfl (any_of HT_.out (by kernel_rfl)) (fun _ _ _ h => h) (Or.inl ⟨by rfl, ?_⟩) ?_ ?_
      rotate_left
      ·intro w'
       go_simp; with_reducible rfl
      rotate_left
      ·simp only [Act.put, YM, YN, YO, i64_w, i32_w]
       rfl
      refine pure_ (i := 23) (N := some 40) (v := ?_) (a' := ?_) #[true, true, true, true, true, true, true, true, true, true, true, true, true, true, true, true, true, true, true, true, true, true, true, true, false, false, false, false, false, false] rfl rfl (any_of HT_.out (by kernel_rfl)) (fun _ _ _ h => h) (Or.inl ⟨by rfl, ?_⟩) ?_ ?_
      rotate_left
      ·intro w'
       go_simp; with_reducible rfl
      rotate_left
      ·simp only [Act.put, YM, YN, YO, i64_w, i32_w]
       rfl
      refine pure_ (i := 24) (N := some 41) (v := ?_) (a' := ?_) #[true, true, true, true, true, true, true, true, true, true, true, true, true, true, true, true, true, true, true, true, true, true, true, true, true, false, false, false, false, false] rfl rfl (any_of HT_.out (by kernel_rfl)) (fun _ _ _ h => h) (Or.inl ⟨by rfl, ?_⟩) ?_ ?_
      rotate_left
      ·intro w'
       go_simp; with_reducible rfl
      rotate_left
      ·simp only [Act.put, YM, YN, YO, i64_w, i32_w]
       rfl
      refine pure_ (i := 25) (N := some 42) (v := ?_) (a' := ?_) #[true, true, true, true, true, true, true, true, true, true, true, true, true, true, true, true, true, true, true, true, true, true, true, true, true, true, false, false, false, false] rfl rfl (any_of HT_.out (by kernel_rfl)) (fun _ _ _ h => h) (Or.inl ⟨by rfl, ?_⟩) ?_ ?_
      rotate_left
      ·intro w'
       go_simp; with_reducible rfl
      rotate_left
      ·simp only [Act.put, YM, YN, YO, i64_w, i32_w]
       rfl
      refine take_ (i := 26) (N := some 43) (v := ?_) (a' := ?_) #[true, true, true, true, true, true, true, true, true, true, true, true, true, true, true, true, true, true, true, true, true, true, true, true, true, true, true, false, false, false] rfl rfl (take_ofW HT_.out HW_.out (by kernel_rfl)) (fun _ _ _ h => h) (Or.inl ⟨by rfl, ?_⟩) hHeld ?_ ?_
      rotate_left
      ·rintro w' ⟨s0, s1, s2, s3, s4, s5⟩
       go_simp; with_reducible rfl
      rotate_left
      ·simp only [Act.put, YM, YN, YO, i64_w, i32_w]
       rfl
      refine one_ (i := 27) (N := some 44) #[true, true, true, true, true, true, true, true, true, true, true, true, true, true, true, true, true, true, true, true, true, true, true, true, true, true, true, true, false, false] rfl rfl (one_of HT_.out (by kernel_rfl)) (by decide) (fun K hK => ?_)
      refine goes_ Try.func36 (by kernel_rfl) rfl #[.int .i64 ((rd_T59 l0_1 x3_1).f1)] (by rfl) rfl rfl (by (try simp only [YP, List.map_cons, List.map_nil]); first | done | rfl | (simp only [YR, YQ]; rfl)) ?_
      with_reducible refine (thalwegref06_Epoch.calls ((rd_T59 l0_1 x3_1).f1) true _ A30.out).mono ?_
      rintro e w' ⟨rfl, ⟨nd, rfl⟩⟩
      refine ⟨_, rfl, ?_⟩
      refine hK.out _ _ ⟨(YI BK112.out 0).trans rfl, (YI BK112.out 1).trans rfl, (YI BK110.out 0).trans rfl, (YI BK110.out 1).trans rfl, ((HB.out.cell (World.block_lt_of_cell? w _ hw113_0)).trans hw113_0), ((HB.out.cell (World.block_lt_of_cell? w _ hw113_1)).trans hw113_1)⟩ (fun hHeld => ?_)
      clear hK K
      refine norm_ (a' := ?_) ?_ ?_
      rotate_left
      ·show Act.put _ (some 44) _ = _
       simp only [Act.put, YM, YN, YO, i64_w, i32_w]
       rfl
      refine pure_ (i := 28) (N := some 45) (v := ?_) (a' := ?_) #[true, true, true, true, true, true, true, true, true, true, true, true, true, true, true, true, true, true, true, true, true, true, true, true, true, true, true, true, true, false] rfl rfl (any_of HT_.out (by kernel_rfl)) (fun _ _ _ h => h) (Or.inl ⟨by rfl, ?_⟩) ?_ ?_
      rotate_left
      ·intro w'
       go_simp; with_reducible rfl
      rotate_left
      ·simp only [Act.put, YM, YN, YO, i64_w, i32_w]
       rfl
      refine pure_ (i := 29) (N := some 46) (v := ?_) (a' := ?_) #[true, true, true, true, true, true, true, true, true, true, true, true, true, true, true, true, true, true, true, true, true, true, true, true, true, true, true, true, true, true] rfl rfl (any_of HT_.out (by kernel_rfl)) (fun _ _ _ h => h) (Or.inl ⟨by rfl, ?_⟩) ?_ ?_
      rotate_left
      ·intro w'
       go_simp; with_reducible rfl
      rotate_left
      ·simp only [Act.put, YM, YN, YO, i64_w, i32_w]
       rfl
      refine done_ (done_of HT_.out (by kernel_rfl)) ?_
      try go_wp2
      go_roundg k1
      case measure => have := HK1.out; omega
      case rel => exact ⟨(wrap64 (x3_1 + 1)), (by first | rfl | (simp; done) | (simp [*]; done)), H', ⟨by have := HK1.out; omega⟩, ⟨by (with_reducible repeat (first | refine YF ?_ _ | refine YG ?_ | refine YH ?_ _)); exact BK110.out⟩, ⟨by repeat (first | (with_reducible first | exact HB.out | apply YA | apply YB | apply YC | refine below_set ?_ GE110.out | refine below_set ?_ GE112.out) | exact HB.out)⟩⟩
     replace c31 := Bool.eq_false_iff.mpr c31
     subst c31
     have H1 : (some false) = some r := by rw [if_neg (show ¬ (false = true) by decide)] at H; exact H
     clear H
     have H := H1
     clear H1
     obtain rfl := Option.some.inj H
     have q38_0 : wr.cell? ⟨gb110, 0, none⟩ = some (.int .i64 a0_0) := (YI BK110.out 0).trans rfl
     have q38_1 : wr.cell? ⟨gb110, 1, none⟩ = some (.slice A0_1 l0_1.length c0_1) := (YI BK110.out 1).trans rfl
     have f38_0 := YJ BK110.out 0
     have f38_1 := YJ BK110.out 1
     have p111 : 0 ≤ (x3_1 : Int) := of_decide_eq_true (by first | (with_reducible assumption) | assumption)
     have q111 : x3_1 < (l0_1.length : Int) := of_decide_eq_true (by first | (with_reducible assumption) | assumption)
     obtain ⟨ad111, e111, hx111_0, hx111_1⟩ := at_T59 HR0_1.out x3_1 p111 q111
     cases e111
     replace hx111_0 := (HB.out.cell (World.block_lt_of_cell? w _ hx111_0)).trans hx111_0
     replace hx111_1 := (HB.out.cell (World.block_lt_of_cell? w _ hx111_1)).trans hx111_1
     replace p111 := eq_true p111
     replace q111 := eq_true q111
     try go_wp2_with (first | ((with_reducible refine gate_dst (N := 4) rfl ?_); refine box_event ?hg (N := 4) ?hd (cs := #[.int .i64 0, .int .i64 0]) (t := 59) ?hr ?_; (case hd => rfl); (case hg => rfl); (case hr => first | (go_simp; done) | (go_simp; rfl)); intro gb112 hg w39 hbox hb; have n0_ := YL (YK (g := gb110) (o := .cells #[.int .i64 a0_0, .slice (some ad111) l0_1.length c0_1] 25 (0, 0)) (by (with_reducible repeat (first | refine YF ?_ _ | refine YG ?_ | refine YH ?_ _)); exact BK110.out) hb); have n1_ := YL (YD (by repeat (first | (with_reducible first | exact HB.out | apply YA | apply YB | apply YC | refine below_set ?_ GE110.out) | exact HB.out)) hb); have n2_ := YL (hbox); have n3_ := YL ((by rw [hg]; exact (YE (by repeat (first | (with_reducible first | exact HB.out | apply YA | apply YB | apply YC | refine below_set ?_ GE110.out) | exact HB.out))) : w.heap.size ≤ gb112)); have n4_ := YL ((by rw [hg]; exact (YE (by repeat (first | (with_reducible first | exact HB.out | apply YA | apply YB | apply YC | refine below_set ?_ GE110.out) | exact HB.out))) : w.heap.size ≤ gb112)); have n5_ := YL ((by rw [hg]; exact Nat.ne_of_lt (blk_lt (g := gb110) (o := .cells #[.int .i64 a0_0, .slice (some ad111) l0_1.length c0_1] 25 (0, 0)) (by (with_reducible repeat (first | refine YF ?_ _ | refine YG ?_ | refine YH ?_ _)); exact BK110.out)) : gb110 ≠ gb112)); have n6_ := YL ((by rw [hg]; exact Nat.ne_of_gt (blk_lt (g := gb110) (o := .cells #[.int .i64 a0_0, .slice (some ad111) l0_1.length c0_1] 25 (0, 0)) (by (with_reducible repeat (first | refine YF ?_ _ | refine YG ?_ | refine YH ?_ _)); exact BK110.out)) : gb112 ≠ gb110)); clear BK110; clear HB; have BK110 := n0_; have HB := n1_; have BK112 := n2_; have GW112 := n3_; have GE112 := n4_; have NB110_112 := n5_; have NB112_110 := n6_; clear n0_ n1_ n2_ n3_ n4_ n5_ n6_; clear hb hbox hg; have hnb40 := NB112_110.out; have hnc40 := NB110_112.out; have q41_0 : w39.cell? ⟨gb112, 0, none⟩ = some (.int .i64 0) := (YI BK112.out 0).trans rfl; have q41_1 : w39.cell? ⟨gb112, 1, none⟩ = some (.int .i64 0) := (YI BK112.out 1).trans rfl; have f41_0 := YJ BK112.out 0; have f41_1 := YJ BK112.out 1))
     have n0_ : Aside0 (((w39.setCell ⟨gb112, 0, none⟩ (.int .i64 ((rd_T59 l0_1 x3_1).f0))).setCell ⟨gb112, 1, none⟩ (.int .i64 ((rd_T59 l0_1 x3_1).f1))).heap[gb110]? = some (.cells #[.int .i64 a0_0, .slice (some ad111) l0_1.length c0_1] 25 (0, 0))) := ⟨by (with_reducible repeat (first | refine YF ?_ _ | refine YG ?_ | refine YH ?_ _)); refine blk_far ?_ NB110_112.out _; (with_reducible repeat (first | refine YF ?_ _ | refine YG ?_ | refine YH ?_ _)); refine blk_far ?_ NB110_112.out _; (with_reducible repeat (first | refine YF ?_ _ | refine YG ?_ | refine YH ?_ _)); exact BK110.out⟩
     have n1_ : Aside0 (((w39.setCell ⟨gb112, 0, none⟩ (.int .i64 ((rd_T59 l0_1 x3_1).f0))).setCell ⟨gb112, 1, none⟩ (.int .i64 ((rd_T59 l0_1 x3_1).f1))).heap[gb112]? = some (.cells #[.int .i64 ((rd_T59 l0_1 x3_1).f0), .int .i64 ((rd_T59 l0_1 x3_1).f1)] 59 (0, 0))) := ⟨by (with_reducible repeat (first | refine YF ?_ _ | refine YG ?_ | refine YH ?_ _)); refine blk_put (cs := #[.int .i64 ((rd_T59 l0_1 x3_1).f0), .int .i64 0]) ?_ 1 _ rfl; (with_reducible repeat (first | refine YF ?_ _ | refine YG ?_ | refine YH ?_ _)); refine blk_put (cs := #[.int .i64 0, .int .i64 0]) ?_ 0 _ rfl; (with_reducible repeat (first | refine YF ?_ _ | refine YG ?_ | refine YH ?_ _)); exact BK112.out⟩
     have n2_ : Aside0 (Below w.heap.size w ((w39.setCell ⟨gb112, 0, none⟩ (.int .i64 ((rd_T59 l0_1 x3_1).f0))).setCell ⟨gb112, 1, none⟩ (.int .i64 ((rd_T59 l0_1 x3_1).f1)))) := ⟨by repeat (first | (with_reducible first | exact HB.out | apply YA | apply YB | apply YC | refine below_set ?_ GE110.out | refine below_set ?_ GE112.out) | exact HB.out)⟩
     (try clear BK110); (try clear BK112); (try clear HB)
     generalize ((w39.setCell ⟨gb112, 0, none⟩ (.int .i64 ((rd_T59 l0_1 x3_1).f0))).setCell ⟨gb112, 1, none⟩ (.int .i64 ((rd_T59 l0_1 x3_1).f1))) = w42 at n0_ n1_ n2_ ⊢
     have BK110 := n0_; have BK112 := n1_; have HB := n2_; clear n0_ n1_ n2_
     have n0_ := YL (YG BK110.out)
     have n1_ := YL (YG BK112.out)
     have n2_ := YL (YC HB.out)
     clear BK110; clear BK112; clear HB; have BK110 := n0_; have BK112 := n1_; have HB := n2_; clear n0_ n1_ n2_
     have p113 : 0 ≤ ((ji20) : Int) := of_decide_eq_true (by first | (with_reducible assumption) | assumption)
     have q113 : (ji20) < (l0_1.length : Int) := of_decide_eq_true (by first | (with_reducible assumption) | assumption)
     obtain ⟨ad113, e113, hx113_0, hx113_1⟩ := at_T59 HR0_1.out (ji20) p113 q113
     have hw113_1 := hx113_1
     have hw113_0 := hx113_0
     obtain rfl : ad111 = ad113 := (by injection e113)
     replace hx113_0 := (HB.out.cell (World.block_lt_of_cell? w _ hx113_0)).trans hx113_0
     replace hx113_1 := (HB.out.cell (World.block_lt_of_cell? w _ hx113_1)).trans hx113_1
     replace p113 := eq_true p113
     replace q113 := eq_true q113
     refine start_ (n := 30) (S := fun w' => w'.cell? ⟨gb112, 0, none⟩ = some (.int .i64 ((rd_T59 l0_1 x3_1).f0)) ∧ w'.cell? ⟨gb112, 1, none⟩ = some (.int .i64 ((rd_T59 l0_1 x3_1).f1)) ∧ w'.cell? ⟨gb110, 0, none⟩ = some (.int .i64 a0_0) ∧ w'.cell? ⟨gb110, 1, none⟩ = some (.slice (some ad111) l0_1.length c0_1) ∧ w'.cell? (ad111.add (((ji20)).toNat * 2)) = some (.int .i64 ((rd_T59 l0_1 (ji20)).f0)) ∧ w'.cell? ⟨(ad111.add (((ji20)).toNat * 2)).block, (ad111.add (((ji20)).toNat * 2)).off + 1, none⟩ = some (.int .i64 ((rd_T59 l0_1 (ji20)).f1))) (ds := []) #[false, false, false, false, false, false, false, false, false, false, false, false, false, false, false, false, false, false, false, false, false, false, false, false, false, false, false, false, false, false] (by kernel_rfl) rfl rfl ⟨(YI BK112.out 0).trans rfl, (YI BK112.out 1).trans rfl, (YI BK110.out 0).trans rfl, (YI BK110.out 1).trans rfl, ((HB.out.cell (World.block_lt_of_cell? w _ hw113_0)).trans hw113_0), ((HB.out.cell (World.block_lt_of_cell? w _ hw113_1)).trans hw113_1)⟩ (fun hHeld => ?_); refine with_tabW thalwegref06_Right.tab5 thalwegref06_Right.bits5 (fun HT_ HW_ => ?_)
     generalize w42.drew = w43 at BK110 BK112 HB hx113_0 hx113_1 hHeld ⊢
     refine pure_ (i := 0) (N := some 17) (v := ?_) (a' := ?_) #[true, false, false, false, false, false, false, false, false, false, false, false, false, false, false, false, false, false, false, false, false, false, false, false, false, false, false, false, false, false] rfl rfl (any_of HT_.out (by kernel_rfl)) (fun _ _ _ h => h) (Or.inl ⟨by rfl, ?_⟩) ?_ ?_
     rotate_left
     ·intro w'
      go_simp; with_reducible rfl
     rotate_left
     ·simp only [Act.put, YM, YN, YO, i64_w, i32_w]
      rfl
     refine take_ (i := 1) (N := some 18) (v := ?_) (a' := ?_) #[true, true, false, false, false, false, false, false, false, false, false, false, false, false, false, false, false, false, false, false, false, false, false, false, false, false, false, false, false, false] rfl rfl (take_ofW HT_.out HW_.out (by kernel_rfl)) (fun _ _ _ h => h) (Or.inl ⟨by rfl, ?_⟩) hHeld ?_ ?_
     rotate_left
     ·rintro w' ⟨s0, s1, s2, s3, s4, s5⟩
      go_simp; with_reducible rfl
     rotate_left
     ·simp only [Act.put, YM, YN, YO, i64_w, i32_w]
      rfl
     refine pure_ (i := 2) (N := some 19) (v := ?_) (a' := ?_) #[true, true, true, false, false, false, false, false, false, false, false, false, false, false, false, false, false, false, false, false, false, false, false, false, false, false, false, false, false, false] rfl rfl (any_of HT_.out (by kernel_rfl)) (fun _ _ _ h => h) (Or.inl ⟨by rfl, ?_⟩) ?_ ?_
     rotate_left
     ·intro w'
      go_simp; with_reducible rfl
     rotate_left
     ·simp only [Act.put, YM, YN, YO, i64_w, i32_w]
      rfl
     refine pure_ (i := 3) (N := some 20) (v := ?_) (a' := ?_) #[true, true, true, true, false, false, false, false, false, false, false, false, false, false, false, false, false, false, false, false, false, false, false, false, false, false, false, false, false, false] rfl rfl (any_of HT_.out (by kernel_rfl)) (fun _ _ _ h => h) (Or.inl ⟨by rfl, ?_⟩) ?_ ?_
     rotate_left
     ·intro w'
      go_simp; with_reducible rfl
     rotate_left
     ·simp only [Act.put, YM, YN, YO, i64_w, i32_w]
      rfl
     refine pure_ (i := 4) (N := some 21) (v := ?_) (a' := ?_) #[true, true, true, true, true, false, false, false, false, false, false, false, false, false, false, false, false, false, false, false, false, false, false, false, false, false, false, false, false, false] rfl rfl (any_of HT_.out (by kernel_rfl)) (fun _ _ _ h => h) (Or.inl ⟨by rfl, ?_⟩) ?_ ?_
     rotate_left
     ·intro w'
      go_simp; with_reducible rfl
     rotate_left
     ·simp only [Act.put, YM, YN, YO, i64_w, i32_w]
      rfl
     refine take_ (i := 5) (N := some 22) (v := ?_) (a' := ?_) #[true, true, true, true, true, true, false, false, false, false, false, false, false, false, false, false, false, false, false, false, false, false, false, false, false, false, false, false, false, false] rfl rfl (take_ofW HT_.out HW_.out (by kernel_rfl)) (fun _ _ _ h => h) (Or.inl ⟨by rfl, ?_⟩) hHeld ?_ ?_
     rotate_left
     ·rintro w' ⟨s0, s1, s2, s3, s4, s5⟩
      go_simp; with_reducible rfl
     rotate_left
     ·simp only [Act.put, YM, YN, YO, i64_w, i32_w]
      rfl
     refine pure_ (i := 6) (N := some 23) (v := ?_) (a' := ?_) #[true, true, true, true, true, true, true, false, false, false, false, false, false, false, false, false, false, false, false, false, false, false, false, false, false, false, false, false, false, false] rfl rfl (any_of HT_.out (by kernel_rfl)) (fun _ _ _ h => h) (Or.inl ⟨by rfl, ?_⟩) ?_ ?_
     rotate_left
     ·intro w'
      go_simp; with_reducible rfl
     rotate_left
     ·simp only [Act.put, YM, YN, YO, i64_w, i32_w]
      rfl
     refine pure_ (i := 7) (N := some 24) (v := ?_) (a' := ?_) #[true, true, true, true, true, true, true, true, false, false, false, false, false, false, false, false, false, false, false, false, false, false, false, false, false, false, false, false, false, false] rfl rfl (any_of HT_.out (by kernel_rfl)) (fun _ _ _ h => h) (Or.inl ⟨by rfl, ?_⟩) ?_ ?_
     rotate_left
     ·intro w'
      go_simp; with_reducible rfl
     rotate_left
     ·simp only [Act.put, YM, YN, YO, i64_w, i32_w]
      rfl
     refine pure_ (i := 8) (N := some 25) (v := ?_) (a' := ?_) #[true, true, true, true, true, true, true, true, true, false, false, false, false, false, false, false, false, false, false, false, false, false, false, false, false, false, false, false, false, false] rfl rfl (any_of HT_.out (by kernel_rfl)) (fun _ _ _ h => h) (Or.inl ⟨by rfl, ?_⟩) ?_ ?_
     rotate_left
     ·intro w'
      go_simp; with_reducible rfl
     rotate_left
     ·simp only [Act.put, YM, YN, YO, i64_w, i32_w]
      rfl
     refine pure_ (i := 9) (N := some 26) (v := ?_) (a' := ?_) #[true, true, true, true, true, true, true, true, true, true, false, false, false, false, false, false, false, false, false, false, false, false, false, false, false, false, false, false, false, false] rfl rfl (any_of HT_.out (by kernel_rfl)) (fun _ _ _ h => h) (Or.inl ⟨by rfl, ?_⟩) ?_ ?_
     rotate_left
     ·intro w'
      go_simp; with_reducible rfl
     rotate_left
     ·simp only [Act.put, YM, YN, YO, i64_w, i32_w]
      rfl
     refine pure_ (i := 10) (N := some 27) (v := ?_) (a' := ?_) #[true, true, true, true, true, true, true, true, true, true, true, false, false, false, false, false, false, false, false, false, false, false, false, false, false, false, false, false, false, false] rfl rfl (any_of HT_.out (by kernel_rfl)) (fun _ _ _ h => h) (Or.inl ⟨by rfl, ?_⟩) ?_ ?_
     rotate_left
     ·intro w'
      go_simp; with_reducible rfl
     rotate_left
     ·simp only [Act.put, YM, YN, YO, i64_w, i32_w]
      rfl
     refine pure_ (i := 11) (N := some 28) (v := ?_) (a' := ?_) #[true, true, true, true, true, true, true, true, true, true, true, true, false, false, false, false, false, false, false, false, false, false, false, false, false, false, false, false, false, false] rfl rfl (any_of HT_.out (by kernel_rfl)) (fun _ _ _ h => h) (Or.inl ⟨by rfl, ?_⟩) ?_ ?_
     rotate_left
     ·intro w'
      go_simp; with_reducible rfl
     rotate_left
     ·simp only [Act.put, YM, YN, YO, i64_w, i32_w]
      rfl
     refine pure_ (i := 12) (N := some 29) (v := ?_) (a' := ?_) #[true, true, true, true, true, true, true, true, true, true, true, true, true, false, false, false, false, false, false, false, false, false, false, false, false, false, false, false, false, false] rfl rfl (any_of HT_.out (by kernel_rfl)) (fun _ _ _ h => h) (Or.inl ⟨by rfl, ?_⟩) ?_ ?_
     rotate_left
     ·intro w'
      go_simp; with_reducible rfl
     rotate_left
     ·simp only [Act.put, YM, YN, YO, i64_w, i32_w]
      rfl
     refine pure_ (i := 14) (N := some 31) (v := ?_) (a' := ?_) #[true, true, true, true, true, true, true, true, true, true, true, true, true, false, true, false, false, false, false, false, false, false, false, false, false, false, false, false, false, false] rfl rfl (any_of HT_.out (by kernel_rfl)) (fun _ _ _ h => h) (Or.inl ⟨by rfl, ?_⟩) ?_ ?_
     rotate_left
     ·intro w'
      go_simp; with_reducible rfl
     rotate_left
     ·simp only [Act.put, YM, YN, YO, i64_w, i32_w]
      rfl
     refine pure_ (i := 15) (N := some 32) (v := ?_) (a' := ?_) #[true, true, true, true, true, true, true, true, true, true, true, true, true, false, true, true, false, false, false, false, false, false, false, false, false, false, false, false, false, false] rfl rfl (any_of HT_.out (by kernel_rfl)) (fun _ _ _ h => h) (Or.inl ⟨by rfl, ?_⟩) ?_ ?_
     rotate_left
     ·intro w'
      go_simp; with_reducible rfl
     rotate_left
     ·simp only [Act.put, YM, YN, YO, i64_w, i32_w]
      rfl
     refine pure_ (i := 19) (N := some 36) (v := ?_) (a' := ?_) #[true, true, true, true, true, true, true, true, true, true, true, true, true, false, true, true, false, false, false, true, false, false, false, false, false, false, false, false, false, false] rfl rfl (any_of HT_.out (by kernel_rfl)) (fun _ _ _ h => h) (Or.inl ⟨by rfl, ?_⟩) ?_ ?_
     rotate_left
     ·intro w'
      go_simp; with_reducible rfl
     rotate_left
     ·simp only [Act.put, YM, YN, YO, i64_w, i32_w]
      rfl
     refine take_ (i := 13) (N := some 30) (v := ?_) (a' := ?_) #[true, true, true, true, true, true, true, true, true, true, true, true, true, true, true, true, false, false, false, true, false, false, false, false, false, false, false, false, false, false] rfl rfl (take_ofW HT_.out HW_.out (by kernel_rfl)) (fun _ _ _ h => h) (Or.inl ⟨by rfl, ?_⟩) hHeld ?_ ?_
     rotate_left
     ·rintro w' ⟨s0, s1, s2, s3, s4, s5⟩
      go_simp; with_reducible rfl
     rotate_left
     ·simp only [Act.put, YM, YN, YO, i64_w, i32_w]
      rfl
     refine pure_ (i := 16) (N := some 33) (v := ?_) (a' := ?_) #[true, true, true, true, true, true, true, true, true, true, true, true, true, true, true, true, true, false, false, true, false, false, false, false, false, false, false, false, false, false] rfl rfl (any_of HT_.out (by kernel_rfl)) (fun _ _ _ h => h) (Or.inl ⟨by rfl, ?_⟩) ?_ ?_
     rotate_left
     ·intro w'
      go_simp; with_reducible rfl
     rotate_left
     ·simp only [Act.put, YM, YN, YO, i64_w, i32_w]
      rfl
     refine pure_ (i := 17) (N := some 34) (v := ?_) (a' := ?_) #[true, true, true, true, true, true, true, true, true, true, true, true, true, true, true, true, true, true, false, true, false, false, false, false, false, false, false, false, false, false] rfl rfl (any_of HT_.out (by kernel_rfl)) (fun _ _ _ h => h) (Or.inl ⟨by rfl, ?_⟩) ?_ ?_
     rotate_left
     ·intro w'
      go_simp; with_reducible rfl
     rotate_left
     ·simp only [Act.put, YM, YN, YO, i64_w, i32_w]
      rfl
     refine take_ (i := 18) (N := some 35) (v := ?_) (a' := ?_) #[true, true, true, true, true, true, true, true, true, true, true, true, true, true, true, true, true, true, true, true, false, false, false, false, false, false, false, false, false, false] rfl rfl (take_ofW HT_.out HW_.out (by kernel_rfl)) (fun _ _ _ h => h) (Or.inl ⟨by rfl, ?_⟩) hHeld ?_ ?_
     rotate_left
     ·rintro w' ⟨s0, s1, s2, s3, s4, s5⟩
      go_simp; with_reducible rfl
     rotate_left
     ·simp only [Act.put, YM, YN, YO, i64_w, i32_w]
      rfl
     refine take_ (i := 20) (N := some 37) (v := ?_) (a' := ?_) #[true, true, true, true, true, true, true, true, true, true, true, true, true, true, true, true, true, true, true, true, true, false, false, false, false, false, false, false, false, false] rfl rfl (take_ofW HT_.out HW_.out (by kernel_rfl)) (fun _ _ _ h => h) (Or.inl ⟨by rfl, ?_⟩) hHeld ?_ ?_
     rotate_left
     ·rintro w' ⟨s0, s1, s2, s3, s4, s5⟩
      go_simp; with_reducible rfl
     rotate_left
     ·simp only [Act.put, YM, YN, YO, i64_w, i32_w]
      rfl
     refine pure_ (i := 21) (N := some 38) (v := ?_) (a' := ?_) #[true, true, true, true, true, true, true, true, true, true, true, true, true, true, true, true, true, true, true, true, true, true, false, false, false, false, false, false, false, false] rfl rfl (any_of HT_.out (by kernel_rfl)) (fun _ _ _ h => h) (Or.inl ⟨by rfl, ?_⟩) ?_ ?_
     rotate_left
     ·intro w'
      go_simp; with_reducible rfl
     rotate_left
     ·simp only [Act.put, YM, YN, YO, i64_w, i32_w]
      rfl
     refine pure_ (i := 22) (N := some 39) (v := ?_) (a' := ?_) #[true, true, true, true, true, true, true, true, true, true, true, true, true, true, true, true, true, true, true, true, true, true, true, false, false, false, false, false, false, false] rfl rfl (any_of HT_.out (by kernel_rfl)) (fun _ _ _ h => h) (Or.inl ⟨by rfl, ?_⟩) ?_ ?_
     rotate_left
     ·intro w'
      go_simp; with_reducible rfl
     rotate_left
     ·simp only [Act.put, YM, YN, YO, i64_w, i32_w]
      rfl
     refine pure_ (i := 23) (N := some 40) (v := ?_) (a' := ?_) #[true, true, true, true, true, true, true, true, true, true, true, true, true, true, true, true, true, true, true, true, true, true, true, true, false, false, false, false, false, false] rfl rfl (any_of HT_.out (by kernel_rfl)) (fun _ _ _ h => h) (Or.inl ⟨by rfl, ?_⟩) ?_ ?_
     rotate_left
     ·intro w'
      go_simp; with_reducible rfl
     rotate_left
     ·simp only [Act.put, YM, YN, YO, i64_w, i32_w]
      rfl
     refine pure_ (i := 24) (N := some 41) (v := ?_) (a' := ?_) #[true, true, true, true, true, true, true, true, true, true, true, true, true, true, true, true, true, true, true, true, true, true, true, true, true, false, false, false, false, false] rfl rfl (any_of HT_.out (by kernel_rfl)) (fun _ _ _ h => h) (Or.inl ⟨by rfl, ?_⟩) ?_ ?_
     rotate_left
     ·intro w'
      go_simp; with_reducible rfl
     rotate_left
     ·simp only [Act.put, YM, YN, YO, i64_w, i32_w]
      rfl
     refine pure_ (i := 25) (N := some 42) (v := ?_) (a' := ?_) #[true, true, true, true, true, true, true, true, true, true, true, true, true, true, true, true, true, true, true, true, true, true, true, true, true, true, false, false, false, false] rfl rfl (any_of HT_.out (by kernel_rfl)) (fun _ _ _ h => h) (Or.inl ⟨by rfl, ?_⟩) ?_ ?_
     rotate_left
     ·intro w'
      go_simp; with_reducible rfl
     rotate_left
     ·simp only [Act.put, YM, YN, YO, i64_w, i32_w]
      rfl
     refine take_ (i := 26) (N := some 43) (v := ?_) (a' := ?_) #[true, true, true, true, true, true, true, true, true, true, true, true, true, true, true, true, true, true, true, true, true, true, true, true, true, true, true, false, false, false] rfl rfl (take_ofW HT_.out HW_.out (by kernel_rfl)) (fun _ _ _ h => h) (Or.inl ⟨by rfl, ?_⟩) hHeld ?_ ?_
     rotate_left
     ·rintro w' ⟨s0, s1, s2, s3, s4, s5⟩
      go_simp; with_reducible rfl
     rotate_left
     ·simp only [Act.put, YM, YN, YO, i64_w, i32_w]
      rfl
     refine one_ (i := 27) (N := some 44) #[true, true, true, true, true, true, true, true, true, true, true, true, true, true, true, true, true, true, true, true, true, true, true, true, true, true, true, true, false, false] rfl rfl (one_of HT_.out (by kernel_rfl)) (by decide) (fun K hK => ?_)
     refine goes_ Try.func36 (by kernel_rfl) rfl #[.int .i64 ((rd_T59 l0_1 x3_1).f1)] (by rfl) rfl rfl (by (try simp only [YP, List.map_cons, List.map_nil]); first | done | rfl | (simp only [YR, YQ]; rfl)) ?_
     with_reducible refine (thalwegref06_Epoch.calls ((rd_T59 l0_1 x3_1).f1) false _ A30.out).mono ?_
     rintro e w' ⟨rfl, ⟨nd, rfl⟩⟩
     refine ⟨_, rfl, ?_⟩
     refine hK.out _ _ ⟨(YI BK112.out 0).trans rfl, (YI BK112.out 1).trans rfl, (YI BK110.out 0).trans rfl, (YI BK110.out 1).trans rfl, ((HB.out.cell (World.block_lt_of_cell? w _ hw113_0)).trans hw113_0), ((HB.out.cell (World.block_lt_of_cell? w _ hw113_1)).trans hw113_1)⟩ (fun hHeld => ?_)
     clear hK K
     refine norm_ (a' := ?_) ?_ ?_
     rotate_left
     ·show Act.put _ (some 44) _ = _
      simp only [Act.put, YM, YN, YO, i64_w, i32_w]
      rfl
     refine pure_ (i := 28) (N := some 45) (v := ?_) (a' := ?_) #[true, true, true, true, true, true, true, true, true, true, true, true, true, true, true, true, true, true, true, true, true, true, true, true, true, true, true, true, true, false] rfl rfl (any_of HT_.out (by kernel_rfl)) (fun _ _ _ h => h) (Or.inl ⟨by rfl, ?_⟩) ?_ ?_
     rotate_left
     ·intro w'
      go_simp; with_reducible rfl
     rotate_left
     ·simp only [Act.put, YM, YN, YO, i64_w, i32_w]
      rfl
     refine pure_ (i := 29) (N := some 46) (v := ?_) (a' := ?_) #[true, true, true, true, true, true, true, true, true, true, true, true, true, true, true, true, true, true, true, true, true, true, true, true, true, true, true, true, true, true] rfl rfl (any_of HT_.out (by kernel_rfl)) (fun _ _ _ h => h) (Or.inl ⟨by rfl, ?_⟩) ?_ ?_
     rotate_left
     ·intro w'
      go_simp; with_reducible rfl
     rotate_left
     ·simp only [Act.put, YM, YN, YO, i64_w, i32_w]
      rfl
     refine done_ (done_of HT_.out (by kernel_rfl)) ?_
     try go_wp2
     go_ret
     exact ⟨by first | rfl | (simp [errW_none, errW_some] <;> rfl) | (simp only [← hji20]; first | rfl | (simp [errW_none, errW_some] <;> rfl)) | (simp [*, errW_none, errW_some] <;> rfl), by repeat (first | (with_reducible first | exact HB.out | apply YA | apply YB | apply YC | refine below_set ?_ GE110.out | refine below_set ?_ GE112.out) | exact HB.out)⟩
    rw [if_neg c19] at H; have c19b0 : decide (0 < x3_1) = false := decide_eq_false c19; clear c19; replace H := Option.bind_eq_some_iff.mp H; obtain ⟨t115, A440, H⟩ := H
    replace H : (if t115 = true then (thalwegref06_Right.l0 k1 (wrap64 (x3_1 + 1)) a0_0 l0_1) else (some false)) = some r := H
    have A44 := YL A440; clear A440
    by_cases c45 : t115 = true
    ·subst c45
     have H1 : (thalwegref06_Right.l0 k1 (wrap64 (x3_1 + 1)) a0_0 l0_1) = some r := by rw [if_pos rfl] at H; exact H
     clear H
     have H := H1
     clear H1
     have H' := YL H
     clear H
     have q46_0 : wr.cell? ⟨gb110, 0, none⟩ = some (.int .i64 a0_0) := (YI BK110.out 0).trans rfl
     have q46_1 : wr.cell? ⟨gb110, 1, none⟩ = some (.slice A0_1 l0_1.length c0_1) := (YI BK110.out 1).trans rfl
     have f46_0 := YJ BK110.out 0
     have f46_1 := YJ BK110.out 1
     have p111 : 0 ≤ (x3_1 : Int) := of_decide_eq_true (by first | (with_reducible assumption) | assumption)
     have q111 : x3_1 < (l0_1.length : Int) := of_decide_eq_true (by first | (with_reducible assumption) | assumption)
     obtain ⟨ad111, e111, hx111_0, hx111_1⟩ := at_T59 HR0_1.out x3_1 p111 q111
     cases e111
     replace hx111_0 := (HB.out.cell (World.block_lt_of_cell? w _ hx111_0)).trans hx111_0
     replace hx111_1 := (HB.out.cell (World.block_lt_of_cell? w _ hx111_1)).trans hx111_1
     replace p111 := eq_true p111
     replace q111 := eq_true q111
     try go_wp2_with (first | ((with_reducible refine gate_dst (N := 4) rfl ?_); refine box_event ?hg (N := 4) ?hd (cs := #[.int .i64 0, .int .i64 0]) (t := 59) ?hr ?_; (case hd => rfl); (case hg => rfl); (case hr => first | (go_simp; done) | (go_simp; rfl)); intro gb112 hg w47 hbox hb; have n0_ := YL (YK (g := gb110) (o := .cells #[.int .i64 a0_0, .slice (some ad111) l0_1.length c0_1] 25 (0, 0)) (by (with_reducible repeat (first | refine YF ?_ _ | refine YG ?_ | refine YH ?_ _)); exact BK110.out) hb); have n1_ := YL (YD (by repeat (first | (with_reducible first | exact HB.out | apply YA | apply YB | apply YC | refine below_set ?_ GE110.out) | exact HB.out)) hb); have n2_ := YL (hbox); have n3_ := YL ((by rw [hg]; exact (YE (by repeat (first | (with_reducible first | exact HB.out | apply YA | apply YB | apply YC | refine below_set ?_ GE110.out) | exact HB.out))) : w.heap.size ≤ gb112)); have n4_ := YL ((by rw [hg]; exact (YE (by repeat (first | (with_reducible first | exact HB.out | apply YA | apply YB | apply YC | refine below_set ?_ GE110.out) | exact HB.out))) : w.heap.size ≤ gb112)); have n5_ := YL ((by rw [hg]; exact Nat.ne_of_lt (blk_lt (g := gb110) (o := .cells #[.int .i64 a0_0, .slice (some ad111) l0_1.length c0_1] 25 (0, 0)) (by (with_reducible repeat (first | refine YF ?_ _ | refine YG ?_ | refine YH ?_ _)); exact BK110.out)) : gb110 ≠ gb112)); have n6_ := YL ((by rw [hg]; exact Nat.ne_of_gt (blk_lt (g := gb110) (o := .cells #[.int .i64 a0_0, .slice (some ad111) l0_1.length c0_1] 25 (0, 0)) (by (with_reducible repeat (first | refine YF ?_ _ | refine YG ?_ | refine YH ?_ _)); exact BK110.out)) : gb112 ≠ gb110)); clear BK110; clear HB; have BK110 := n0_; have HB := n1_; have BK112 := n2_; have GW112 := n3_; have GE112 := n4_; have NB110_112 := n5_; have NB112_110 := n6_; clear n0_ n1_ n2_ n3_ n4_ n5_ n6_; clear hb hbox hg; have hnb48 := NB112_110.out; have hnc48 := NB110_112.out; have q49_0 : w47.cell? ⟨gb112, 0, none⟩ = some (.int .i64 0) := (YI BK112.out 0).trans rfl; have q49_1 : w47.cell? ⟨gb112, 1, none⟩ = some (.int .i64 0) := (YI BK112.out 1).trans rfl; have f49_0 := YJ BK112.out 0; have f49_1 := YJ BK112.out 1))
     have n0_ : Aside0 (((w47.setCell ⟨gb112, 0, none⟩ (.int .i64 ((rd_T59 l0_1 x3_1).f0))).setCell ⟨gb112, 1, none⟩ (.int .i64 ((rd_T59 l0_1 x3_1).f1))).heap[gb110]? = some (.cells #[.int .i64 a0_0, .slice (some ad111) l0_1.length c0_1] 25 (0, 0))) := ⟨by (with_reducible repeat (first | refine YF ?_ _ | refine YG ?_ | refine YH ?_ _)); refine blk_far ?_ NB110_112.out _; (with_reducible repeat (first | refine YF ?_ _ | refine YG ?_ | refine YH ?_ _)); refine blk_far ?_ NB110_112.out _; (with_reducible repeat (first | refine YF ?_ _ | refine YG ?_ | refine YH ?_ _)); exact BK110.out⟩
     have n1_ : Aside0 (((w47.setCell ⟨gb112, 0, none⟩ (.int .i64 ((rd_T59 l0_1 x3_1).f0))).setCell ⟨gb112, 1, none⟩ (.int .i64 ((rd_T59 l0_1 x3_1).f1))).heap[gb112]? = some (.cells #[.int .i64 ((rd_T59 l0_1 x3_1).f0), .int .i64 ((rd_T59 l0_1 x3_1).f1)] 59 (0, 0))) := ⟨by (with_reducible repeat (first | refine YF ?_ _ | refine YG ?_ | refine YH ?_ _)); refine blk_put (cs := #[.int .i64 ((rd_T59 l0_1 x3_1).f0), .int .i64 0]) ?_ 1 _ rfl; (with_reducible repeat (first | refine YF ?_ _ | refine YG ?_ | refine YH ?_ _)); refine blk_put (cs := #[.int .i64 0, .int .i64 0]) ?_ 0 _ rfl; (with_reducible repeat (first | refine YF ?_ _ | refine YG ?_ | refine YH ?_ _)); exact BK112.out⟩
     have n2_ : Aside0 (Below w.heap.size w ((w47.setCell ⟨gb112, 0, none⟩ (.int .i64 ((rd_T59 l0_1 x3_1).f0))).setCell ⟨gb112, 1, none⟩ (.int .i64 ((rd_T59 l0_1 x3_1).f1)))) := ⟨by repeat (first | (with_reducible first | exact HB.out | apply YA | apply YB | apply YC | refine below_set ?_ GE110.out | refine below_set ?_ GE112.out) | exact HB.out)⟩
     (try clear BK110); (try clear BK112); (try clear HB)
     generalize ((w47.setCell ⟨gb112, 0, none⟩ (.int .i64 ((rd_T59 l0_1 x3_1).f0))).setCell ⟨gb112, 1, none⟩ (.int .i64 ((rd_T59 l0_1 x3_1).f1))) = w50 at n0_ n1_ n2_ ⊢
     have BK110 := n0_; have BK112 := n1_; have HB := n2_; clear n0_ n1_ n2_
     have n0_ := YL (YG BK110.out)
     have n1_ := YL (YG BK112.out)
     have n2_ := YL (YC HB.out)
     clear BK110; clear BK112; clear HB; have BK110 := n0_; have BK112 := n1_; have HB := n2_; clear n0_ n1_ n2_
     refine start_ (n := 30) (S := fun w' => w'.cell? ⟨gb112, 0, none⟩ = some (.int .i64 ((rd_T59 l0_1 x3_1).f0)) ∧ w'.cell? ⟨gb112, 1, none⟩ = some (.int .i64 ((rd_T59 l0_1 x3_1).f1))) (ds := []) #[false, false, false, false, false, false, false, false, false, false, false, false, false, false, false, false, false, false, false, false, false, false, false, false, false, false, false, false, false, false] (by kernel_rfl) rfl rfl ⟨(YI BK112.out 0).trans rfl, (YI BK112.out 1).trans rfl⟩ (fun hHeld => ?_); refine with_tabW thalwegref06_Right.tab5 thalwegref06_Right.bits5 (fun HT_ HW_ => ?_)
     generalize w50.drew = w51 at BK110 BK112 HB hHeld ⊢
     refine pure_ (i := 0) (N := some 17) (v := ?_) (a' := ?_) #[true, false, false, false, false, false, false, false, false, false, false, false, false, false, false, false, false, false, false, false, false, false, false, false, false, false, false, false, false, false] rfl rfl (any_of HT_.out (by kernel_rfl)) (fun _ _ _ h => h) (Or.inl ⟨by rfl, ?_⟩) ?_ ?_
     rotate_left
     ·intro w'
      go_simp; with_reducible rfl
     rotate_left
     ·simp only [Act.put, YM, YN, YO, i64_w, i32_w]
      rfl
     refine take_ (i := 1) (N := some 18) (v := ?_) (a' := ?_) #[true, true, false, false, false, false, false, false, false, false, false, false, false, false, false, false, false, false, false, false, false, false, false, false, false, false, false, false, false, false] rfl rfl (take_ofW HT_.out HW_.out (by kernel_rfl)) (fun _ _ _ h => h) (Or.inl ⟨by rfl, ?_⟩) hHeld ?_ ?_
     rotate_left
     ·rintro w' ⟨s0, s1⟩
      go_simp; with_reducible rfl
     rotate_left
     ·simp only [Act.put, YM, YN, YO, i64_w, i32_w]
      rfl
     refine pure_ (i := 2) (N := some 19) (v := ?_) (a' := ?_) #[true, true, true, false, false, false, false, false, false, false, false, false, false, false, false, false, false, false, false, false, false, false, false, false, false, false, false, false, false, false] rfl rfl (any_of HT_.out (by kernel_rfl)) (fun _ _ _ h => h) (Or.inl ⟨by rfl, ?_⟩) ?_ ?_
     rotate_left
     ·intro w'
      go_simp; with_reducible rfl
     rotate_left
     ·simp only [Act.put, YM, YN, YO, i64_w, i32_w]
      rfl
     refine pure_ (i := 3) (N := some 20) (v := ?_) (a' := ?_) #[true, true, true, true, false, false, false, false, false, false, false, false, false, false, false, false, false, false, false, false, false, false, false, false, false, false, false, false, false, false] rfl rfl (any_of HT_.out (by kernel_rfl)) (fun _ _ _ h => h) (Or.inl ⟨by rfl, ?_⟩) ?_ ?_
     rotate_left
     ·intro w'
      go_simp; with_reducible rfl
     rotate_left
     ·simp only [Act.put, YM, YN, YO, i64_w, i32_w]
      rfl
     refine pure_ (i := 4) (N := some 21) (v := ?_) (a' := ?_) #[true, true, true, true, true, false, false, false, false, false, false, false, false, false, false, false, false, false, false, false, false, false, false, false, false, false, false, false, false, false] rfl rfl (any_of HT_.out (by kernel_rfl)) (fun _ _ _ h => h) (Or.inl ⟨by rfl, ?_⟩) ?_ ?_
     rotate_left
     ·intro w'
      go_simp; with_reducible rfl
     rotate_left
     ·simp only [Act.put, YM, YN, YO, i64_w, i32_w]
      rfl
     refine take_ (i := 5) (N := some 22) (v := ?_) (a' := ?_) #[true, true, true, true, true, true, false, false, false, false, false, false, false, false, false, false, false, false, false, false, false, false, false, false, false, false, false, false, false, false] rfl rfl (take_ofW HT_.out HW_.out (by kernel_rfl)) (fun _ _ _ h => h) (Or.inl ⟨by rfl, ?_⟩) hHeld ?_ ?_
     rotate_left
     ·rintro w' ⟨s0, s1⟩
      go_simp; with_reducible rfl
     rotate_left
     ·simp only [Act.put, YM, YN, YO, i64_w, i32_w]
      rfl
     refine pure_ (i := 6) (N := some 23) (v := ?_) (a' := ?_) #[true, true, true, true, true, true, true, false, false, false, false, false, false, false, false, false, false, false, false, false, false, false, false, false, false, false, false, false, false, false] rfl rfl (any_of HT_.out (by kernel_rfl)) (fun _ _ _ h => h) (Or.inl ⟨by rfl, ?_⟩) ?_ ?_
     rotate_left
     ·intro w'
      go_simp; with_reducible rfl
     rotate_left
     ·simp only [Act.put, YM, YN, YO, i64_w, i32_w]
      rfl
     refine pure_ (i := 7) (N := some 24) (v := ?_) (a' := ?_) #[true, true, true, true, true, true, true, true, false, false, false, false, false, false, false, false, false, false, false, false, false, false, false, false, false, false, false, false, false, false] rfl rfl (any_of HT_.out (by kernel_rfl)) (fun _ _ _ h => h) (Or.inl ⟨by rfl, ?_⟩) ?_ ?_
     rotate_left
     ·intro w'
      go_simp; with_reducible rfl
     rotate_left
     ·simp only [Act.put, YM, YN, YO, i64_w, i32_w]
      rfl
     refine pure_ (i := 8) (N := some 25) (v := ?_) (a' := ?_) #[true, true, true, true, true, true, true, true, true, false, false, false, false, false, false, false, false, false, false, false, false, false, false, false, false, false, false, false, false, false] rfl rfl (any_of HT_.out (by kernel_rfl)) (fun _ _ _ h => h) (Or.inl ⟨by rfl, ?_⟩) ?_ ?_
     rotate_left
     ·intro w'
      go_simp; with_reducible rfl
     rotate_left
     ·simp only [Act.put, YM, YN, YO, i64_w, i32_w]
      rfl
     refine pure_ (i := 9) (N := some 26) (v := ?_) (a' := ?_) #[true, true, true, true, true, true, true, true, true, true, false, false, false, false, false, false, false, false, false, false, false, false, false, false, false, false, false, false, false, false] rfl rfl (any_of HT_.out (by kernel_rfl)) (fun _ _ _ h => h) (Or.inl ⟨by rfl, ?_⟩) ?_ ?_
     rotate_left
     ·intro w'
      go_simp; with_reducible rfl
     rotate_left
     ·simp only [Act.put, YM, YN, YO, i64_w, i32_w]
      rfl
     refine pure_ (i := 10) (N := some 27) (v := ?_) (a' := ?_) #[true, true, true, true, true, true, true, true, true, true, true, false, false, false, false, false, false, false, false, false, false, false, false, false, false, false, false, false, false, false] rfl rfl (any_of HT_.out (by kernel_rfl)) (fun _ _ _ h => h) (Or.inl ⟨by rfl, ?_⟩) ?_ ?_
     rotate_left
     ·intro w'
      go_simp; with_reducible rfl
     rotate_left
     ·simp only [Act.put, YM, YN, YO, i64_w, i32_w]
      rfl
     refine pure_ (i := 11) (N := some 28) (v := ?_) (a' := ?_) #[true, true, true, true, true, true, true, true, true, true, true, true, false, false, false, false, false, false, false, false, false, false, false, false, false, false, false, false, false, false] rfl rfl (any_of HT_.out (by kernel_rfl)) (fun _ _ _ h => h) (Or.inl ⟨by rfl, ?_⟩) ?_ ?_
     rotate_left
     ·intro w'
      go_simp; with_reducible rfl
     rotate_left
     ·simp only [Act.put, YM, YN, YO, i64_w, i32_w]
      rfl
     refine pure_ (i := 12) (N := some 29) (v := undef) (a' := ?_) #[true, true, true, true, true, true, true, true, true, true, true, true, true, false, false, false, false, false, false, false, false, false, false, false, false, false, false, false, false, false] rfl rfl (any_of HT_.out (by kernel_rfl)) (fun _ _ _ h => h) (Or.inr ⟨by rfl, rfl⟩) ?_ ?_
     rotate_left
     ·simp only [Act.put, YM, YN, YO, i64_w, i32_w]
      rfl
     refine pure_ (i := 13) (N := some 30) (v := undef) (a' := ?_) #[true, true, true, true, true, true, true, true, true, true, true, true, true, true, false, false, false, false, false, false, false, false, false, false, false, false, false, false, false, false] rfl rfl (any_of HT_.out (by kernel_rfl)) (fun _ _ _ h => h) (Or.inr ⟨by rfl, rfl⟩) ?_ ?_
     rotate_left
     ·simp only [Act.put, YM, YN, YO, i64_w, i32_w]
      rfl
     refine pure_ (i := 14) (N := some 31) (v := undef) (a' := ?_) #[true, true, true, true, true, true, true, true, true, true, true, true, true, true, true, false, false, false, false, false, false, false, false, false, false, false, false, false, false, false] rfl rfl (any_of HT_.out (by kernel_rfl)) (fun _ _ _ h => h) (Or.inr ⟨by rfl, rfl⟩) ?_ ?_
     rotate_left
     ·simp only [Act.put, YM, YN, YO, i64_w, i32_w]
      rfl
     refine pure_ (i := 15) (N := some 32) (v := undef) (a' := ?_) #[true, true, true, true, true, true, true, true, true, true, true, true, true, true, true, true, false, false, false, false, false, false, false, false, false, false, false, false, false, false] rfl rfl (any_of HT_.out (by kernel_rfl)) (fun _ _ _ h => h) (Or.inr ⟨by rfl, rfl⟩) ?_ ?_
     rotate_left
     ·simp only [Act.put, YM, YN, YO, i64_w, i32_w]
      rfl
     refine pure_ (i := 16) (N := some 33) (v := undef) (a' := ?_) #[true, true, true, true, true, true, true, true, true, true, true, true, true, true, true, true, true, false, false, false, false, false, false, false, false, false, false, false, false, false] rfl rfl (any_of HT_.out (by kernel_rfl)) (fun _ _ _ h => h) (Or.inr ⟨by rfl, rfl⟩) ?_ ?_
     rotate_left
     ·simp only [Act.put, YM, YN, YO, i64_w, i32_w]
      rfl
     refine pure_ (i := 17) (N := some 34) (v := undef) (a' := ?_) #[true, true, true, true, true, true, true, true, true, true, true, true, true, true, true, true, true, true, false, false, false, false, false, false, false, false, false, false, false, false] rfl rfl (any_of HT_.out (by kernel_rfl)) (fun _ _ _ h => h) (Or.inr ⟨by rfl, rfl⟩) ?_ ?_
     rotate_left
     ·simp only [Act.put, YM, YN, YO, i64_w, i32_w]
      rfl
     refine pure_ (i := 18) (N := some 35) (v := undef) (a' := ?_) #[true, true, true, true, true, true, true, true, true, true, true, true, true, true, true, true, true, true, true, false, false, false, false, false, false, false, false, false, false, false] rfl rfl (any_of HT_.out (by kernel_rfl)) (fun _ _ _ h => h) (Or.inr ⟨by rfl, rfl⟩) ?_ ?_
     rotate_left
     ·simp only [Act.put, YM, YN, YO, i64_w, i32_w]
      rfl
     refine pure_ (i := 19) (N := some 36) (v := undef) (a' := ?_) #[true, true, true, true, true, true, true, true, true, true, true, true, true, true, true, true, true, true, true, true, false, false, false, false, false, false, false, false, false, false] rfl rfl (any_of HT_.out (by kernel_rfl)) (fun _ _ _ h => h) (Or.inr ⟨by rfl, rfl⟩) ?_ ?_
     rotate_left
     ·simp only [Act.put, YM, YN, YO, i64_w, i32_w]
      rfl
     refine pure_ (i := 20) (N := some 37) (v := undef) (a' := ?_) #[true, true, true, true, true, true, true, true, true, true, true, true, true, true, true, true, true, true, true, true, true, false, false, false, false, false, false, false, false, false] rfl rfl (any_of HT_.out (by kernel_rfl)) (fun _ _ _ h => h) (Or.inr ⟨by rfl, rfl⟩) ?_ ?_
     rotate_left
     ·simp only [Act.put, YM, YN, YO, i64_w, i32_w]
      rfl
     refine pure_ (i := 21) (N := some 38) (v := undef) (a' := ?_) #[true, true, true, true, true, true, true, true, true, true, true, true, true, true, true, true, true, true, true, true, true, true, false, false, false, false, false, false, false, false] rfl rfl (any_of HT_.out (by kernel_rfl)) (fun _ _ _ h => h) (Or.inr ⟨by rfl, rfl⟩) ?_ ?_
     rotate_left
     ·simp only [Act.put, YM, YN, YO, i64_w, i32_w]
      rfl
     refine pure_ (i := 22) (N := some 39) (v := ?_) (a' := ?_) #[true, true, true, true, true, true, true, true, true, true, true, true, true, true, true, true, true, true, true, true, true, true, true, false, false, false, false, false, false, false] rfl rfl (any_of HT_.out (by kernel_rfl)) (fun _ _ _ h => h) (Or.inl ⟨by rfl, ?_⟩) ?_ ?_
     rotate_left
     ·intro w'
      go_simp; with_reducible rfl
     rotate_left
     ·simp only [Act.put, YM, YN, YO, i64_w, i32_w]
      rfl
     refine pure_ (i := 23) (N := some 40) (v := ?_) (a' := ?_) #[true, true, true, true, true, true, true, true, true, true, true, true, true, true, true, true, true, true, true, true, true, true, true, true, false, false, false, false, false, false] rfl rfl (any_of HT_.out (by kernel_rfl)) (fun _ _ _ h => h) (Or.inl ⟨by rfl, ?_⟩) ?_ ?_
     rotate_left
     ·intro w'
      go_simp; with_reducible rfl
     rotate_left
     ·simp only [Act.put, YM, YN, YO, i64_w, i32_w]
      rfl
     refine pure_ (i := 24) (N := some 41) (v := ?_) (a' := ?_) #[true, true, true, true, true, true, true, true, true, true, true, true, true, true, true, true, true, true, true, true, true, true, true, true, true, false, false, false, false, false] rfl rfl (any_of HT_.out (by kernel_rfl)) (fun _ _ _ h => h) (Or.inl ⟨by rfl, ?_⟩) ?_ ?_
     rotate_left
     ·intro w'
      go_simp; with_reducible rfl
     rotate_left
     ·simp only [Act.put, YM, YN, YO, i64_w, i32_w]
      rfl
     refine pure_ (i := 25) (N := some 42) (v := ?_) (a' := ?_) #[true, true, true, true, true, true, true, true, true, true, true, true, true, true, true, true, true, true, true, true, true, true, true, true, true, true, false, false, false, false] rfl rfl (any_of HT_.out (by kernel_rfl)) (fun _ _ _ h => h) (Or.inl ⟨by rfl, ?_⟩) ?_ ?_
     rotate_left
     ·intro w'
      go_simp; with_reducible rfl
     rotate_left
     ·simp only [Act.put, YM, YN, YO, i64_w, i32_w]
      rfl
     refine take_ (i := 26) (N := some 43) (v := ?_) (a' := ?_) #[true, true, true, true, true, true, true, true, true, true, true, true, true, true, true, true, true, true, true, true, true, true, true, true, true, true, true, false, false, false] rfl rfl (take_ofW HT_.out HW_.out (by kernel_rfl)) (fun _ _ _ h => h) (Or.inl ⟨by rfl, ?_⟩) hHeld ?_ ?_
     rotate_left
     ·rintro w' ⟨s0, s1⟩
      go_simp; with_reducible rfl
     rotate_left
     ·simp only [Act.put, YM, YN, YO, i64_w, i32_w]
      rfl
     refine one_ (i := 27) (N := some 44) #[true, true, true, true, true, true, true, true, true, true, true, true, true, true, true, true, true, true, true, true, true, true, true, true, true, true, true, true, false, false] rfl rfl (one_of HT_.out (by kernel_rfl)) (by decide) (fun K hK => ?_)
     refine goes_ Try.func36 (by kernel_rfl) rfl #[.int .i64 ((rd_T59 l0_1 x3_1).f1)] (by rfl) rfl rfl (by (try simp only [YP, List.map_cons, List.map_nil]); first | done | rfl | (simp only [YR, YQ]; rfl)) ?_
     with_reducible refine (thalwegref06_Epoch.calls ((rd_T59 l0_1 x3_1).f1) true _ A44.out).mono ?_
     rintro e w' ⟨rfl, ⟨nd, rfl⟩⟩
     refine ⟨_, rfl, ?_⟩
     refine hK.out _ _ ⟨(YI BK112.out 0).trans rfl, (YI BK112.out 1).trans rfl⟩ (fun hHeld => ?_)
     clear hK K
     refine norm_ (a' := ?_) ?_ ?_
     rotate_left
     ·show Act.put _ (some 44) _ = _
      simp only [Act.put, YM, YN, YO, i64_w, i32_w]
      rfl
     refine pure_ (i := 28) (N := some 45) (v := ?_) (a' := ?_) #[true, true, true, true, true, true, true, true, true, true, true, true, true, true, true, true, true, true, true, true, true, true, true, true, true, true, true, true, true, false] rfl rfl (any_of HT_.out (by kernel_rfl)) (fun _ _ _ h => h) (Or.inl ⟨by rfl, ?_⟩) ?_ ?_
     rotate_left
     ·intro w'
      go_simp; with_reducible rfl
     rotate_left
     ·simp only [Act.put, YM, YN, YO, i64_w, i32_w]
      rfl
     refine pure_ (i := 29) (N := some 46) (v := ?_) (a' := ?_) #[true, true, true, true, true, true, true, true, true, true, true, true, true, true, true, true, true, true, true, true, true, true, true, true, true, true, true, true, true, true] rfl rfl (any_of HT_.out (by kernel_rfl)) (fun _ _ _ h => h) (Or.inl ⟨by rfl, ?_⟩) ?_ ?_
     rotate_left
     ·intro w'
      go_simp; with_reducible rfl
     rotate_left
     ·simp only [Act.put, YM, YN, YO, i64_w, i32_w]
      rfl
     refine done_ (done_of HT_.out (by kernel_rfl)) ?_
     try go_wp2
     go_roundg k1
     case measure => have := HK1.out; omega
     case rel => exact ⟨(wrap64 (x3_1 + 1)), (by first | rfl | (simp; done) | (simp [*]; done)), H', ⟨by have := HK1.out; omega⟩, ⟨by (with_reducible repeat (first | refine YF ?_ _ | refine YG ?_ | refine YH ?_ _)); exact BK110.out⟩, ⟨by repeat (first | (with_reducible first | exact HB.out | apply YA | apply YB | apply YC | refine below_set ?_ GE110.out | refine below_set ?_ GE112.out) | exact HB.out)⟩⟩
    replace c45 := Bool.eq_false_iff.mpr c45
    subst c45
    have H1 : (some false) = some r := by rw [if_neg (show ¬ (false = true) by decide)] at H; exact H
    clear H
    have H := H1
    clear H1
    obtain rfl := Option.some.inj H
    have q52_0 : wr.cell? ⟨gb110, 0, none⟩ = some (.int .i64 a0_0) := (YI BK110.out 0).trans rfl
    have q52_1 : wr.cell? ⟨gb110, 1, none⟩ = some (.slice A0_1 l0_1.length c0_1) := (YI BK110.out 1).trans rfl
    have f52_0 := YJ BK110.out 0
    have f52_1 := YJ BK110.out 1
    have p111 : 0 ≤ (x3_1 : Int) := of_decide_eq_true (by first | (with_reducible assumption) | assumption)
    have q111 : x3_1 < (l0_1.length : Int) := of_decide_eq_true (by first | (with_reducible assumption) | assumption)
    obtain ⟨ad111, e111, hx111_0, hx111_1⟩ := at_T59 HR0_1.out x3_1 p111 q111
    cases e111
    replace hx111_0 := (HB.out.cell (World.block_lt_of_cell? w _ hx111_0)).trans hx111_0
    replace hx111_1 := (HB.out.cell (World.block_lt_of_cell? w _ hx111_1)).trans hx111_1
    replace p111 := eq_true p111
    replace q111 := eq_true q111
    try go_wp2_with (first | ((with_reducible refine gate_dst (N := 4) rfl ?_); refine box_event ?hg (N := 4) ?hd (cs := #[.int .i64 0, .int .i64 0]) (t := 59) ?hr ?_; (case hd => rfl); (case hg => rfl); (case hr => first | (go_simp; done) | (go_simp; rfl)); intro gb112 hg w53 hbox hb; have n0_ := YL (YK (g := gb110) (o := .cells #[.int .i64 a0_0, .slice (some ad111) l0_1.length c0_1] 25 (0, 0)) (by (with_reducible repeat (first | refine YF ?_ _ | refine YG ?_ | refine YH ?_ _)); exact BK110.out) hb); have n1_ := YL (YD (by repeat (first | (with_reducible first | exact HB.out | apply YA | apply YB | apply YC | refine below_set ?_ GE110.out) | exact HB.out)) hb); have n2_ := YL (hbox); have n3_ := YL ((by rw [hg]; exact (YE (by repeat (first | (with_reducible first | exact HB.out | apply YA | apply YB | apply YC | refine below_set ?_ GE110.out) | exact HB.out))) : w.heap.size ≤ gb112)); have n4_ := YL ((by rw [hg]; exact (YE (by repeat (first | (with_reducible first | exact HB.out | apply YA | apply YB | apply YC | refine below_set ?_ GE110.out) | exact HB.out))) : w.heap.size ≤ gb112)); have n5_ := YL ((by rw [hg]; exact Nat.ne_of_lt (blk_lt (g := gb110) (o := .cells #[.int .i64 a0_0, .slice (some ad111) l0_1.length c0_1] 25 (0, 0)) (by (with_reducible repeat (first | refine YF ?_ _ | refine YG ?_ | refine YH ?_ _)); exact BK110.out)) : gb110 ≠ gb112)); have n6_ := YL ((by rw [hg]; exact Nat.ne_of_gt (blk_lt (g := gb110) (o := .cells #[.int .i64 a0_0, .slice (some ad111) l0_1.length c0_1] 25 (0, 0)) (by (with_reducible repeat (first | refine YF ?_ _ | refine YG ?_ | refine YH ?_ _)); exact BK110.out)) : gb112 ≠ gb110)); clear BK110; clear HB; have BK110 := n0_; have HB := n1_; have BK112 := n2_; have GW112 := n3_; have GE112 := n4_; have NB110_112 := n5_; have NB112_110 := n6_; clear n0_ n1_ n2_ n3_ n4_ n5_ n6_; clear hb hbox hg; have hnb54 := NB112_110.out; have hnc54 := NB110_112.out; have q55_0 : w53.cell? ⟨gb112, 0, none⟩ = some (.int .i64 0) := (YI BK112.out 0).trans rfl; have q55_1 : w53.cell? ⟨gb112, 1, none⟩ = some (.int .i64 0) := (YI BK112.out 1).trans rfl; have f55_0 := YJ BK112.out 0; have f55_1 := YJ BK112.out 1))
    have n0_ : Aside0 (((w53.setCell ⟨gb112, 0, none⟩ (.int .i64 ((rd_T59 l0_1 x3_1).f0))).setCell ⟨gb112, 1, none⟩ (.int .i64 ((rd_T59 l0_1 x3_1).f1))).heap[gb110]? = some (.cells #[.int .i64 a0_0, .slice (some ad111) l0_1.length c0_1] 25 (0, 0))) := ⟨by (with_reducible repeat (first | refine YF ?_ _ | refine YG ?_ | refine YH ?_ _)); refine blk_far ?_ NB110_112.out _; (with_reducible repeat (first | refine YF ?_ _ | refine YG ?_ | refine YH ?_ _)); refine blk_far ?_ NB110_112.out _; (with_reducible repeat (first | refine YF ?_ _ | refine YG ?_ | refine YH ?_ _)); exact BK110.out⟩
    have n1_ : Aside0 (((w53.setCell ⟨gb112, 0, none⟩ (.int .i64 ((rd_T59 l0_1 x3_1).f0))).setCell ⟨gb112, 1, none⟩ (.int .i64 ((rd_T59 l0_1 x3_1).f1))).heap[gb112]? = some (.cells #[.int .i64 ((rd_T59 l0_1 x3_1).f0), .int .i64 ((rd_T59 l0_1 x3_1).f1)] 59 (0, 0))) := ⟨by (with_reducible repeat (first | refine YF ?_ _ | refine YG ?_ | refine YH ?_ _)); refine blk_put (cs := #[.int .i64 ((rd_T59 l0_1 x3_1).f0), .int .i64 0]) ?_ 1 _ rfl; (with_reducible repeat (first | refine YF ?_ _ | refine YG ?_ | refine YH ?_ _)); refine blk_put (cs := #[.int .i64 0, .int .i64 0]) ?_ 0 _ rfl; (with_reducible repeat (first | refine YF ?_ _ | refine YG ?_ | refine YH ?_ _)); exact BK112.out⟩
    have n2_ : Aside0 (Below w.heap.size w ((w53.setCell ⟨gb112, 0, none⟩ (.int .i64 ((rd_T59 l0_1 x3_1).f0))).setCell ⟨gb112, 1, none⟩ (.int .i64 ((rd_T59 l0_1 x3_1).f1)))) := ⟨by repeat (first | (with_reducible first | exact HB.out | apply YA | apply YB | apply YC | refine below_set ?_ GE110.out | refine below_set ?_ GE112.out) | exact HB.out)⟩
    (try clear BK110); (try clear BK112); (try clear HB)
    generalize ((w53.setCell ⟨gb112, 0, none⟩ (.int .i64 ((rd_T59 l0_1 x3_1).f0))).setCell ⟨gb112, 1, none⟩ (.int .i64 ((rd_T59 l0_1 x3_1).f1))) = w56 at n0_ n1_ n2_ ⊢
    have BK110 := n0_; have BK112 := n1_; have HB := n2_; clear n0_ n1_ n2_
    have n0_ := YL (YG BK110.out)
    have n1_ := YL (YG BK112.out)
    have n2_ := YL (YC HB.out)
    clear BK110; clear BK112; clear HB; have BK110 := n0_; have BK112 := n1_; have HB := n2_; clear n0_ n1_ n2_
    refine start_ (n := 30) (S := fun w' => w'.cell? ⟨gb112, 0, none⟩ = some (.int .i64 ((rd_T59 l0_1 x3_1).f0)) ∧ w'.cell? ⟨gb112, 1, none⟩ = some (.int .i64 ((rd_T59 l0_1 x3_1).f1))) (ds := []) #[false, false, false, false, false, false, false, false, false, false, false, false, false, false, false, false, false, false, false, false, false, false, false, false, false, false, false, false, false, false] (by kernel_rfl) rfl rfl ⟨(YI BK112.out 0).trans rfl, (YI BK112.out 1).trans rfl⟩ (fun hHeld => ?_); refine with_tabW thalwegref06_Right.tab5 thalwegref06_Right.bits5 (fun HT_ HW_ => ?_)
    generalize w56.drew = w57 at BK110 BK112 HB hHeld ⊢
    refine pure_ (i := 0) (N := some 17) (v := ?_) (a' := ?_) #[true, false, false, false, false, false, false, false, false, false, false, false, false, false, false, false, false, false, false, false, false, false, false, false, false, false, false, false, false, false] rfl rfl (any_of HT_.out (by kernel_rfl)) (fun _ _ _ h => h) (Or.inl ⟨by rfl, ?_⟩) ?_ ?_
    rotate_left
    ·intro w'
     go_simp; with_reducible rfl
    rotate_left
    ·simp only [Act.put, YM, YN, YO, i64_w, i32_w]
     rfl
    refine take_ (i := 1) (N := some 18) (v := ?_) (a' := ?_) #[true, true, false, false, false, false, false, false, false, false, false, false, false, false, false, false, false, false, false, false, false, false, false, false, false, false, false, false, false, false] rfl rfl (take_ofW HT_.out HW_.out (by kernel_rfl)) (fun _ _ _ h => h) (Or.inl ⟨by rfl, ?_⟩) hHeld ?_ ?_
    rotate_left
    ·rintro w' ⟨s0, s1⟩
     go_simp; with_reducible rfl
    rotate_left
    ·simp only [Act.put, YM, YN, YO, i64_w, i32_w]
     rfl
    refine pure_ (i := 2) (N := some 19) (v := ?_) (a' := ?_) #[true, true, true, false, false, false, false, false, false, false, false, false, false, false, false, false, false, false, false, false, false, false, false, false, false, false, false, false, false, false] rfl rfl (any_of HT_.out (by kernel_rfl)) (fun _ _ _ h => h) (Or.inl ⟨by rfl, ?_⟩) ?_ ?_
    rotate_left
    ·intro w'
     go_simp; with_reducible rfl
    rotate_left
    ·simp only [Act.put, YM, YN, YO, i64_w, i32_w]
     rfl
    refine pure_ (i := 3) (N := some 20) (v := ?_) (a' := ?_) #[true, true, true, true, false, false, false, false, false, false, false, false, false, false, false, false, false, false, false, false, false, false, false, false, false, false, false, false, false, false] rfl rfl (any_of HT_.out (by kernel_rfl)) (fun _ _ _ h => h) (Or.inl ⟨by rfl, ?_⟩) ?_ ?_
    rotate_left
    ·intro w'
     go_simp; with_reducible rfl
    rotate_left
    ·simp only [Act.put, YM, YN, YO, i64_w, i32_w]
     rfl
    refine pure_ (i := 4) (N := some 21) (v := ?_) (a' := ?_) #[true, true, true, true, true, false, false, false, false, false, false, false, false, false, false, false, false, false, false, false, false, false, false, false, false, false, false, false, false, false] rfl rfl (any_of HT_.out (by kernel_rfl)) (fun _ _ _ h => h) (Or.inl ⟨by rfl, ?_⟩) ?_ ?_
    rotate_left
    ·intro w'
     go_simp; with_reducible rfl
    rotate_left
    ·simp only [Act.put, YM, YN, YO, i64_w, i32_w]
     rfl
    refine take_ (i := 5) (N := some 22) (v := ?_) (a' := ?_) #[true, true, true, true, true, true, false, false, false, false, false, false, false, false, false, false, false, false, false, false, false, false, false, false, false, false, false, false, false, false] rfl rfl (take_ofW HT_.out HW_.out (by kernel_rfl)) (fun _ _ _ h => h) (Or.inl ⟨by rfl, ?_⟩) hHeld ?_ ?_
    rotate_left
    ·rintro w' ⟨s0, s1⟩
     go_simp; with_reducible rfl
    rotate_left
    ·simp only [Act.put, YM, YN, YO, i64_w, i32_w]
     rfl
    refine pure_ (i := 6) (N := some 23) (v := ?_) (a' := ?_) #[true, true, true, true, true, true, true, false, false, false, false, false, false, false, false, false, false, false, false, false, false, false, false, false, false, false, false, false, false, false] rfl rfl (any_of HT_.out (by kernel_rfl)) (fun _ _ _ h => h) (Or.inl ⟨by rfl, ?_⟩) ?_ ?_
    rotate_left
    ·intro w'
     go_simp; with_reducible rfl
    rotate_left
    ·simp only [Act.put, YM, YN, YO, i64_w, i32_w]
     rfl
    refine pure_ (i := 7) (N := some 24) (v := ?_) (a' := ?_) #[true, true, true, true, true, true, true, true, false, false, false, false, false, false, false, false, false, false, false, false, false, false, false, false, false, false, false, false, false, false] rfl rfl (any_of HT_.out (by kernel_rfl)) (fun _ _ _ h => h) (Or.inl ⟨by rfl, ?_⟩) ?_ ?_
    rotate_left
    ·intro w'
     go_simp; with_reducible rfl
    rotate_left
    ·simp only [Act.put, YM, YN, YO, i64_w, i32_w]
     rfl
    refine pure_ (i := 8) (N := some 25) (v := ?_) (a' := ?_) #[true, true, true, true, true, true, true, true, true, false, false, false, false, false, false, false, false, false, false, false, false, false, false, false, false, false, false, false, false, false] rfl rfl (any_of HT_.out (by kernel_rfl)) (fun _ _ _ h => h) (Or.inl ⟨by rfl, ?_⟩) ?_ ?_
    rotate_left
    ·intro w'
     go_simp; with_reducible rfl
    rotate_left
    ·simp only [Act.put, YM, YN, YO, i64_w, i32_w]
     rfl
    refine pure_ (i := 9) (N := some 26) (v := ?_) (a' := ?_) #[true, true, true, true, true, true, true, true, true, true, false, false, false, false, false, false, false, false, false, false, false, false, false, false, false, false, false, false, false, false] rfl rfl (any_of HT_.out (by kernel_rfl)) (fun _ _ _ h => h) (Or.inl ⟨by rfl, ?_⟩) ?_ ?_
    rotate_left
    ·intro w'
     go_simp; with_reducible rfl
    rotate_left
    ·simp only [Act.put, YM, YN, YO, i64_w, i32_w]
     rfl
    refine pure_ (i := 10) (N := some 27) (v := ?_) (a' := ?_) #[true, true, true, true, true, true, true, true, true, true, true, false, false, false, false, false, false, false, false, false, false, false, false, false, false, false, false, false, false, false] rfl rfl (any_of HT_.out (by kernel_rfl)) (fun _ _ _ h => h) (Or.inl ⟨by rfl, ?_⟩) ?_ ?_
    rotate_left
    ·intro w'
     go_simp; with_reducible rfl
    rotate_left
    ·simp only [Act.put, YM, YN, YO, i64_w, i32_w]
     rfl
    refine pure_ (i := 11) (N := some 28) (v := ?_) (a' := ?_) #[true, true, true, true, true, true, true, true, true, true, true, true, false, false, false, false, false, false, false, false, false, false, false, false, false, false, false, false, false, false] rfl rfl (any_of HT_.out (by kernel_rfl)) (fun _ _ _ h => h) (Or.inl ⟨by rfl, ?_⟩) ?_ ?_
    rotate_left
    ·intro w'
     go_simp; with_reducible rfl
    rotate_left
    ·simp only [Act.put, YM, YN, YO, i64_w, i32_w]
     rfl
    refine pure_ (i := 12) (N := some 29) (v := undef) (a' := ?_) #[true, true, true, true, true, true, true, true, true, true, true, true, true, false, false, false, false, false, false, false, false, false, false, false, false, false, false, false, false, false] rfl rfl (any_of HT_.out (by kernel_rfl)) (fun _ _ _ h => h) (Or.inr ⟨by rfl, rfl⟩) ?_ ?_
    rotate_left
    ·simp only [Act.put, YM, YN, YO, i64_w, i32_w]
     rfl
    refine pure_ (i := 13) (N := some 30) (v := undef) (a' := ?_) #[true, true, true, true, true, true, true, true, true, true, true, true, true, true, false, false, false, false, false, false, false, false, false, false, false, false, false, false, false, false] rfl rfl (any_of HT_.out (by kernel_rfl)) (fun _ _ _ h => h) (Or.inr ⟨by rfl, rfl⟩) ?_ ?_
    rotate_left
    ·simp only [Act.put, YM, YN, YO, i64_w, i32_w]
     rfl
    refine pure_ (i := 14) (N := some 31) (v := undef) (a' := ?_) #[true, true, true, true, true, true, true, true, true, true, true, true, true, true, true, false, false, false, false, false, false, false, false, false, false, false, false, false, false, false] rfl rfl (any_of HT_.out (by kernel_rfl)) (fun _ _ _ h => h) (Or.inr ⟨by rfl, rfl⟩) ?_ ?_
    rotate_left
    ·simp only [Act.put, YM, YN, YO, i64_w, i32_w]
     rfl
    refine pure_ (i := 15) (N := some 32) (v := undef) (a' := ?_) #[true, true, true, true, true, true, true, true, true, true, true, true, true, true, true, true, false, false, false, false, false, false, false, false, false, false, false, false, false, false] rfl rfl (any_of HT_.out (by kernel_rfl)) (fun _ _ _ h => h) (Or.inr ⟨by rfl, rfl⟩) ?_ ?_
    rotate_left
    ·simp only [Act.put, YM, YN, YO, i64_w, i32_w]
     rfl
    refine pure_ (i := 16) (N := some 33) (v := undef) (a' := ?_) #[true, true, true, true, true, true, true, true, true, true, true, true, true, true, true, true, true, false, false, false, false, false, false, false, false, false, false, false, false, false] rfl rfl (any_of HT_.out (by kernel_rfl)) (fun _ _ _ h => h) (Or.inr ⟨by rfl, rfl⟩) ?_ ?_
    rotate_left
    ·simp only [Act.put, YM, YN, YO, i64_w, i32_w]
     rfl
    refine pure_ (i := 17) (N := some 34) (v := undef) (a' := ?_) #[true, true, true, true, true, true, true, true, true, true, true, true, true, true, true, true, true, true, false, false, false, false, false, false, false, false, false, false, false, false] rfl rfl (any_of HT_.out (by kernel_rfl)) (fun _ _ _ h => h) (Or.inr ⟨by rfl, rfl⟩) ?_ ?_
    rotate_left
    ·simp only [Act.put, YM, YN, YO, i64_w, i32_w]
     rfl
    refine pure_ (i := 18) (N := some 35) (v := undef) (a' := ?_) #[true, true, true, true, true, true, true, true, true, true, true, true, true, true, true, true, true, true, true, false, false, false, false, false, false, false, false, false, false, false] rfl rfl (any_of HT_.out (by kernel_rfl)) (fun _ _ _ h => h) (Or.inr ⟨by rfl, rfl⟩) ?_ ?_
    rotate_left
    ·simp only [Act.put, YM, YN, YO, i64_w, i32_w]
     rfl
    refine pure_ (i := 19) (N := some 36) (v := undef) (a' := ?_) #[true, true, true, true, true, true, true, true, true, true, true, true, true, true, true, true, true, true, true, true, false, false, false, false, false, false, false, false, false, false] rfl rfl (any_of HT_.out (by kernel_rfl)) (fun _ _ _ h => h) (Or.inr ⟨by rfl, rfl⟩) ?_ ?_
    rotate_left
    ·simp only [Act.put, YM, YN, YO, i64_w, i32_w]
     rfl
    refine pure_ (i := 20) (N := some 37) (v := undef) (a' := ?_) #[true, true, true, true, true, true, true, true, true, true, true, true, true, true, true, true, true, true, true, true, true, false, false, false, false, false, false, false, false, false] rfl rfl (any_of HT_.out (by kernel_rfl)) (fun _ _ _ h => h) (Or.inr ⟨by rfl, rfl⟩) ?_ ?_
    rotate_left
    ·simp only [Act.put, YM, YN, YO, i64_w, i32_w]
     rfl
    refine pure_ (i := 21) (N := some 38) (v := undef) (a' := ?_) #[true, true, true, true, true, true, true, true, true, true, true, true, true, true, true, true, true, true, true, true, true, true, false, false, false, false, false, false, false, false] rfl rfl (any_of HT_.out (by kernel_rfl)) (fun _ _ _ h => h) (Or.inr ⟨by rfl, rfl⟩) ?_ ?_
    rotate_left
    ·simp only [Act.put, YM, YN, YO, i64_w, i32_w]
     rfl
    refine pure_ (i := 22) (N := some 39) (v := ?_) (a' := ?_) #[true, true, true, true, true, true, true, true, true, true, true, true, true, true, true, true, true, true, true, true, true, true, true, false, false, false, false, false, false, false] rfl rfl (any_of HT_.out (by kernel_rfl)) (fun _ _ _ h => h) (Or.inl ⟨by rfl, ?_⟩) ?_ ?_
    rotate_left
    ·intro w'
     go_simp; with_reducible rfl
    rotate_left
    ·simp only [Act.put, YM, YN, YO, i64_w, i32_w]
     rfl
    refine pure_ (i := 23) (N := some 40) (v := ?_) (a' := ?_) #[true, true, true, true, true, true, true, true, true, true, true, true, true, true, true, true, true, true, true, true, true, true, true, true, false, false, false, false, false, false] rfl rfl (any_of HT_.out (by kernel_rfl)) (fun _ _ _ h => h) (Or.inl ⟨by rfl, ?_⟩) ?_ ?_
    rotate_left
    ·intro w'
     go_simp; with_reducible rfl
    rotate_left
    ·simp only [Act.put, YM, YN, YO, i64_w, i32_w]
     rfl
    refine pure_ (i := 24) (N := some 41) (v := ?_) (a' := ?_) #[true, true, true, true, true, true, true, true, true, true, true, true, true, true, true, true, true, true, true, true, true, true, true, true, true, false, false, false, false, false] rfl rfl (any_of HT_.out (by kernel_rfl)) (fun _ _ _ h => h) (Or.inl ⟨by rfl, ?_⟩) ?_ ?_
    rotate_left
    ·intro w'
     go_simp; with_reducible rfl
    rotate_left
    ·simp only [Act.put, YM, YN, YO, i64_w, i32_w]
     rfl
    refine pure_ (i := 25) (N := some 42) (v := ?_) (a' := ?_) #[true, true, true, true, true, true, true, true, true, true, true, true, true, true, true, true, true, true, true, true, true, true, true, true, true, true, false, false, false, false] rfl rfl (any_of HT_.out (by kernel_rfl)) (fun _ _ _ h => h) (Or.inl ⟨by rfl, ?_⟩) ?_ ?_
    rotate_left
    ·intro w'
     go_simp; with_reducible rfl
    rotate_left
    ·simp only [Act.put, YM, YN, YO, i64_w, i32_w]
     rfl
    refine take_ (i := 26) (N := some 43) (v := ?_) (a' := ?_) #[true, true, true, true, true, true, true, true, true, true, true, true, true, true, true, true, true, true, true, true, true, true, true, true, true, true, true, false, false, false] rfl rfl (take_ofW HT_.out HW_.out (by kernel_rfl)) (fun _ _ _ h => h) (Or.inl ⟨by rfl, ?_⟩) hHeld ?_ ?_
    rotate_left
    ·rintro w' ⟨s0, s1⟩
     go_simp; with_reducible rfl
    rotate_left
    ·simp only [Act.put, YM, YN, YO, i64_w, i32_w]
     rfl
    refine one_ (i := 27) (N := some 44) #[true, true, true, true, true, true, true, true, true, true, true, true, true, true, true, true, true, true, true, true, true, true, true, true, true, true, true, true, false, false] rfl rfl (one_of HT_.out (by kernel_rfl)) (by decide) (fun K hK => ?_)
    refine goes_ Try.func36 (by kernel_rfl) rfl #[.int .i64 ((rd_T59 l0_1 x3_1).f1)] (by rfl) rfl rfl (by (try simp only [YP, List.map_cons, List.map_nil]); first | done | rfl | (simp only [YR, YQ]; rfl)) ?_
    with_reducible refine (thalwegref06_Epoch.calls ((rd_T59 l0_1 x3_1).f1) false _ A44.out).mono ?_
    rintro e w' ⟨rfl, ⟨nd, rfl⟩⟩
    refine ⟨_, rfl, ?_⟩
    refine hK.out _ _ ⟨(YI BK112.out 0).trans rfl, (YI BK112.out 1).trans rfl⟩ (fun hHeld => ?_)
    clear hK K
    refine norm_ (a' := ?_) ?_ ?_
    rotate_left
    ·show Act.put _ (some 44) _ = _
     simp only [Act.put, YM, YN, YO, i64_w, i32_w]
     rfl
    refine pure_ (i := 28) (N := some 45) (v := ?_) (a' := ?_) #[true, true, true, true, true, true, true, true, true, true, true, true, true, true, true, true, true, true, true, true, true, true, true, true, true, true, true, true, true, false] rfl rfl (any_of HT_.out (by kernel_rfl)) (fun _ _ _ h => h) (Or.inl ⟨by rfl, ?_⟩) ?_ ?_
    rotate_left
    ·intro w'
     go_simp; with_reducible rfl
    rotate_left
    ·simp only [Act.put, YM, YN, YO, i64_w, i32_w]
     rfl
    refine pure_ (i := 29) (N := some 46) (v := ?_) (a' := ?_) #[true, true, true, true, true, true, true, true, true, true, true, true, true, true, true, true, true, true, true, true, true, true, true, true, true, true, true, true, true, true] rfl rfl (any_of HT_.out (by kernel_rfl)) (fun _ _ _ h => h) (Or.inl ⟨by rfl, ?_⟩) ?_ ?_
    rotate_left
    ·intro w'
     go_simp; with_reducible rfl
    rotate_left
    ·simp only [Act.put, YM, YN, YO, i64_w, i32_w]
     rfl
    refine done_ (done_of HT_.out (by kernel_rfl)) ?_
    try go_wp2
    go_ret
    exact ⟨by first | rfl | (simp [errW_none, errW_some] <;> rfl) | (simp [*, errW_none, errW_some] <;> rfl), by repeat (first | (with_reducible first | exact HB.out | apply YA | apply YB | apply YC | refine below_set ?_ GE110.out | refine below_set ?_ GE112.out) | exact HB.out)⟩
   rw [if_neg c3] at H
   have c3b0 : decide (x3_1 < (l0_1.length : Int)) = false := decide_eq_false c3
   clear c3; replace H := Option.bind_eq_some_iff.mp H; obtain ⟨t116, A580, H⟩ := H
   replace H : (some t116) = some r := H
   have A58 := YL A580; clear A580
   obtain rfl := Option.some.inj H
   have q59_0 : wr.cell? ⟨gb110, 0, none⟩ = some (.int .i64 a0_0) := (YI BK110.out 0).trans rfl
   have q59_1 : wr.cell? ⟨gb110, 1, none⟩ = some (.slice A0_1 l0_1.length c0_1) := (YI BK110.out 1).trans rfl
   have f59_0 := YJ BK110.out 0
   have f59_1 := YJ BK110.out 1
   go_wp2_with (first | ((with_reducible refine gate_callee (f := 36) rfl ?_); refine goesL_ (some 49) rfl rfl Try.func36 (by kernel_rfl) rfl #[.int .i64 a0_0] rfl (by (try simp only [YP, List.map_cons, List.map_nil]); first | done | rfl | (simp only [YR, YQ]; rfl)) ?_; (with_reducible refine (thalwegref06_Epoch.calls a0_0 t116 _ A58.out).mono ?_); rintro e w' ⟨rfl, ⟨nd, rfl⟩⟩; refine ⟨_, rfl, ?_⟩))
   go_ret
   exact ⟨by first | rfl | (simp [errW_none, errW_some] <;> rfl) | (simp [*, errW_none, errW_some] <;> rfl), by repeat (first | (with_reducible first | exact HB.out | apply YA | apply YB | apply YC | refine below_set ?_ GE110.out) | exact HB.out)⟩
end Go.Proofs.Ytaiklcpmlkpfjaa.P
namespace Go.Proofs.Ytaiklcpmlkpfjaa.P
open Go.RowKit YtaiklcpmlkpfjaaW.PrintWords YtaiklcpmlkpfjaaW.PrintLast YtaiklcpmlkpfjaaW.PrintMore
open YtaiklcpmlkpfjaaW.PrintWords renaming below_alloc → YA, pw_below_drewN → YB, below_drew1 → YC
open YtaiklcpmlkpfjaaW.PrintWords.Aside0 renaming mk → YD
attribute [local go_sem] max2_int min2_int max_two min_two max_three min_three max_four min_four
def wire_Put.f (a0 : Int) (a1 : Int) : Option (List Int × Int) := if a1 < 1 then (some (([] : List Int), 1)) else (if a1 > 7 then (some (([] : List Int), 1)) else (if a0 < 0 then (some (([] : List Int), 1)) else (if 0 ≤ (wrap64 (8 * a1)) then (if (shr .i64 a0 (wrap64 (8 * a1))) = 0 then ((wire_bytes.f (IntKind.u64.wrap (a0)) a1).bind fun t136 => (some (t136, 0))) else (some (([] : List Int), 1))) else (none))))
theorem wire_Put.calls (a0 : Int) (a1 : Int) (r1 : List Int) (r2 : Int) (w : World) (h : wire_Put.f a0 a1 = some (r1, r2)) :
  Calls Try.prog 27 #[.int .i64 a0, .int .i64 a1] w fun e w' => ∃ v0_ : Value, e = .returned (.tuple #[v0_, .int .i64 r2]) ∧ Kd.R (Kd.int .u8) 5 w' w.heap.size (fun _ => True) v0_ r1 ∧ Below w.heap.size w w' := by
 have HB := YD (Below.refl w.heap.size w)
 have H : (if a1 < 1 then (some (([] : List Int), 1)) else (if a1 > 7 then (some (([] : List Int), 1)) else (if a0 < 0 then (some (([] : List Int), 1)) else (if 0 ≤ (wrap64 (8 * a1)) then (if (shr .i64 a0 (wrap64 (8 * a1))) = 0 then ((wire_bytes.f (IntKind.u64.wrap (a0)) a1).bind fun t136 => (some (t136, 0))) else (some (([] : List Int), 1))) else (none))))) = some (r1, r2) := h
 clear h
 by_cases c3 : a1 < 1
 ·rw [if_pos c3] at H
  have c3b0 : decide (a1 < 1) = true := decide_eq_true c3; clear c3
  simp only [Option.some.injEq, Prod.mk.injEq] at H
  obtain ⟨rfl, rfl⟩ := H
  go_enter Try.func27, Try.ntmps27
  go_wp2
  go_ret2
  exact ⟨_, by first | rfl | (simp [errW_none, errW_some] <;> rfl) | (simp [*, errW_none, errW_some] <;> rfl), by first | exact Kd.R_nil _ _ _ _ _ | exact Kd.N_nil _ _ _ _ _ | exact Kd.V_nil _ _ _ _ _ | exact Kd.Q_nil _ _ _ _ _ | exact Kd.S_nil _ _ _ _ _, by repeat (first | (with_reducible first | exact HB.out | apply YA | apply YB | apply YC) | exact HB.out)⟩
 rw [if_neg c3] at H; have c3b0 : decide (a1 < 1) = false := decide_eq_false c3; clear c3
 by_cases c4 : a1 > 7
 ·rw [if_pos c4] at H
  have c4b0 : decide (7 < a1) = true := decide_eq_true c4; clear c4
  simp only [Option.some.injEq, Prod.mk.injEq] at H
  obtain ⟨rfl, rfl⟩ := H
  go_enter Try.func27, Try.ntmps27
  go_wp2
  go_ret2
  exact ⟨_, by first | rfl | (simp [errW_none, errW_some] <;> rfl) | (simp [*, errW_none, errW_some] <;> rfl), by first | exact Kd.R_nil _ _ _ _ _ | exact Kd.N_nil _ _ _ _ _ | exact Kd.V_nil _ _ _ _ _ | exact Kd.Q_nil _ _ _ _ _ | exact Kd.S_nil _ _ _ _ _, by repeat (first | (with_reducible first | exact HB.out | apply YA | apply YB | apply YC) | exact HB.out)⟩
 rw [if_neg c4] at H; have c4b0 : decide (7 < a1) = false := decide_eq_false c4; clear c4
 by_cases c5 : a0 < 0
 ·rw [if_pos c5] at H
  have c5b0 : decide (a0 < 0) = true := decide_eq_true c5; clear c5
  simp only [Option.some.injEq, Prod.mk.injEq] at H
  obtain ⟨rfl, rfl⟩ := H
  go_enter Try.func27, Try.ntmps27
  go_wp2
  go_ret2
  exact ⟨_, by first | rfl | (simp [errW_none, errW_some] <;> rfl) | (simp [*, errW_none, errW_some] <;> rfl), by first | exact Kd.R_nil _ _ _ _ _ | exact Kd.N_nil _ _ _ _ _ | exact Kd.V_nil _ _ _ _ _ | exact Kd.Q_nil _ _ _ _ _ | exact Kd.S_nil _ _ _ _ _, by repeat (first | (with_reducible first | exact HB.out | apply YA | apply YB | apply YC) | exact HB.out)⟩
 rw [if_neg c5] at H; have c5b0 : decide (a0 < 0) = false := decide_eq_false c5; clear c5
 obtain ⟨ji6, hji6⟩ : ∃ j_ : Int, (wrap64 (8 * a1)) = j_ := ⟨_, rfl⟩
 replace H : (if 0 ≤ (ji6) then (if (shr .i64 a0 (ji6)) = 0 then ((wire_bytes.f (IntKind.u64.wrap (a0)) a1).bind fun t136 => (some (t136, 0))) else (some (([] : List Int), 1))) else (none)) = some (r1, r2) := by first | (rw [hji6] at H; exact H) | (simp only [hji6] at H ⊢; exact H)
 have hji6w : (IntKind.i64.wrap (8 * a1)) = ji6 := (i64_w _).trans hji6
 by_cases c7 : 0 ≤ (ji6)
 rotate_left
 ·rw [if_neg c7] at H
  exact absurd H (by simp)
 rw [if_pos c7] at H
 have c7b0 := eq_true c7
 have c7b1 : decide (0 ≤ (ji6)) = true := decide_eq_true c7; clear c7
 obtain ⟨ji8, hji8⟩ : ∃ j_ : Int, (shr .i64 a0 (ji6)) = j_ := ⟨_, rfl⟩
 replace H : (if (ji8) = 0 then ((wire_bytes.f (IntKind.u64.wrap (a0)) a1).bind fun t136 => (some (t136, 0))) else (some (([] : List Int), 1))) = some (r1, r2) := by first | (rw [hji8] at H; exact H) | (simp only [hji8] at H ⊢; exact H)
 have hji8_ : (a0 / 2 ^ min (ji6).toNat 64) = ji8 := hji8
 have hji8z : (ji6) ≤ 64 → (a0 / 2 ^ (ji6).toNat) = ji8 := shr_small hji8
 by_cases c9 : (ji8) = 0
 ·rw [if_pos c9] at H
  have c9b0 : ((ji8) == 0) = true := beq_iff_eq.mpr c9
  have c9b1 : ((ji8) != 0) = false := bne_eq_false_iff_eq.mpr c9
  clear c9; replace H := Option.bind_eq_some_iff.mp H; obtain ⟨t136, A100, H⟩ := H
  replace H : (some (t136, 0)) = some (r1, r2) := H
  have A10 := YD A100; clear A100
  simp only [Option.some.injEq, Prod.mk.injEq] at H
  obtain ⟨rfl, rfl⟩ := H
  go_enter Try.func27, Try.ntmps27
  go_wp2_with (first | ((with_reducible refine gate_callee (f := 40) rfl ?_); refine goesL_ (some 26) rfl rfl Try.func40 (by kernel_rfl) rfl #[.int .u64 (IntKind.u64.wrap (a0)), .int .i64 a1] rfl (by (try simp only [List.map_toArray, List.map_cons, List.map_nil]); first | done | rfl | (simp only [List.length_drop, List.length_take]; rfl)) ?_; (with_reducible refine (wire_bytes.calls (IntKind.u64.wrap (a0)) a1 t136 _ A10.out).mono ?_); rintro e w11 ⟨v137, rfl, ho0, hb⟩; refine ⟨_, rfl, ?_⟩; have n0_ := YD (Kd.R_lower ho0 (below_size (by repeat (first | (with_reducible first | exact HB.out | apply YA | apply YB | apply YC) | exact HB.out)))); have n1_ := YD (below_step (by repeat (first | (with_reducible first | exact HB.out | apply YA | apply YB | apply YC) | exact HB.out)) hb); clear HB; have HO138 := n0_; have HB := n1_; clear n0_ n1_; (try clear hb); (try clear hb2); (try clear hk); (try clear hi); (try clear ho0)))
  go_ret2
  exact ⟨_, by first | rfl | (simp [errW_none, errW_some] <;> rfl) | (simp only [← hji6, ← hji8]; first | rfl | (simp [errW_none, errW_some] <;> rfl)) | (simp [*, errW_none, errW_some] <;> rfl), by (with_reducible repeat (first | apply Kd.R_alloc | apply Kd.R_drewN | apply Kd.R_drew)); exact HO138.out, by repeat (first | (with_reducible first | exact HB.out | apply YA | apply YB | apply YC) | exact HB.out)⟩
 rw [if_neg c9] at H
 have c9b0 : ((ji8) == 0) = false := beq_eq_false_iff_ne.mpr c9
 have c9b1 : ((ji8) != 0) = true := bne_iff_ne.mpr c9
 simp only [Option.some.injEq, Prod.mk.injEq] at H
 obtain ⟨rfl, rfl⟩ := H
 go_enter Try.func27, Try.ntmps27
 go_wp2
 go_ret2
 exact ⟨_, by first | rfl | (simp [errW_none, errW_some] <;> rfl) | (simp only [← hji6, ← hji8]; first | rfl | (simp [errW_none, errW_some] <;> rfl)) | (simp [*, errW_none, errW_some] <;> rfl), by first | exact Kd.R_nil _ _ _ _ _ | exact Kd.N_nil _ _ _ _ _ | exact Kd.V_nil _ _ _ _ _ | exact Kd.Q_nil _ _ _ _ _ | exact Kd.S_nil _ _ _ _ _, by repeat (first | (with_reducible first | exact HB.out | apply YA | apply YB | apply YC) | exact HB.out)⟩
end Go.Proofs.Ytaiklcpmlkpfjaa.P
namespace Go.Proofs.Ytaiklcpmlkpfjaa.P
open Go.RowKit YtaiklcpmlkpfjaaW.PrintWords YtaiklcpmlkpfjaaW.PrintLast YtaiklcpmlkpfjaaW.PrintMore
open YtaiklcpmlkpfjaaW.PrintWords renaming below_alloc → YA, pw_below_drewN → YB, below_drew1 → YC, below_step → YD, below_size → YE, blk_drewN → YF, blk_drew → YG, blk_alloc → YH, blk_cell → YI, blk_frozen → YJ, blk_below → YK
open YtaiklcpmlkpfjaaW.PrintWords.Aside0 renaming mk → YL
open List renaming map_toArray → YM, length_take → YN, length_drop → YO
open YtaiklcpmlkpfjaaW.PrintWords.Kd renaming R_alloc → YP, R_drewN → YQ, R_drew → YR
attribute [local go_sem] max2_int min2_int max_two min_two max_three min_three max_four min_four
def beacon_Bytes.l0 : Nat → List Int → List (S59) → Int → Int → Option (List Int × Int)
 | 0, _, _, _, _ => none
 | k + 1, x5, x30, x31, x32 => if x32 < x31 then (if 0 ≤ x32 then (if x32 < (x30.length : Int) then ((wire_Put.f ((rd_T59 x30 x32).f1) 4).bind fun bt150 => (if x5.length < 140737488355328 then ((some (x5 ++ [((rd_T59 x30 x32).f0) % 256] : List Int)).bind fun y154 => (if y154.length + bt150.1.length < 140737488355328 then (beacon_Bytes.l0 k (y154 ++ bt150.1) x30 x31 (wrap64 (x32 + 1))) else (none))) else (none))) else (none)) else (none)) else (some (x5, 0))
def beacon_Bytes.f (k : Nat) (a0_0 : Int) (l0_1 : List (S59)) : Option (List Int × Int) := (beacon_Check.f k a0_0 l0_1).bind fun t140 => (if t140 = 0 then ((wire_Put.f a0_0 4).bind fun bt141 => (if bt141.1.length < 140737488355328 then (beacon_Bytes.l0 k (bt141.1 ++ [((l0_1.length : Int)) % 256]) l0_1 (l0_1.length : Int) 0) else (none))) else (some (([] : List Int), t140)))
theorem beacon_Bytes.mono_l : ∀ k, (∀ y0 y1 y2 y3, LeO (beacon_Bytes.l0 k y0 y1 y2 y3) (beacon_Bytes.l0 (k + 1) y0 y1 y2 y3))
 | 0 => fun _ _ _ _ r h => by simp [beacon_Bytes.l0] at h
 | k + 1 => by
  have ih0 := beacon_Bytes.mono_l k
  ·intro y0 y1 y2 y3
   unfold beacon_Bytes.l0
   repeat' first
   | (with_reducible exact ih0 _ _ _ _)
   | (with_reducible exact beacon_Check.mono _ _ _)
   | (with_reducible exact LeO.refl _)
   | (with_reducible exact LeO.none _)
   | (with_reducible refine LeO.ite ?_ ?_)
   | (with_reducible refine LeO.bind ?_ (fun _ => ?_))
   | exact ih0 _ _ _ _
   | exact beacon_Check.mono _ _ _
   | exact LeO.none _
   | refine LeO.ite ?_ ?_
   | refine LeO.bind ?_ (fun _ => ?_)
theorem beacon_Bytes.mono : ∀ a0 a1 k, LeO (beacon_Bytes.f k a0 a1) (beacon_Bytes.f (k + 1) a0 a1) := by
 intro a0 a1 k
 have ih0 := beacon_Bytes.mono_l k
 unfold beacon_Bytes.f
 repeat' first
   | (with_reducible exact ih0 _ _ _ _)
   | (with_reducible exact beacon_Check.mono _ _ _)
   | (with_reducible exact LeO.refl _)
   | (with_reducible exact LeO.none _)
   | (with_reducible refine LeO.ite ?_ ?_)
   | (with_reducible refine LeO.bind ?_ (fun _ => ?_))
   | exact ih0 _ _ _ _
   | exact beacon_Check.mono _ _ _
   | exact LeO.none _
   | refine LeO.ite ?_ ?_
   | refine LeO.bind ?_ (fun _ => ?_)
theorem beacon_Bytes.calls (k : Nat) (a0_0 : Int) (A0_1 : Option Addr) (c0_1 : Nat) (l0_1 : List (S59)) (r1 : List Int) (r2 : Int) (w : World) (hr0_1 : Kd.C k59 w A0_1 l0_1.length l0_1) (hc0_1 : l0_1.length ≤ c0_1) (h : beacon_Bytes.f k a0_0 l0_1 = some (r1, r2)) :
  Calls Try.prog 12 #[.agg #[.int .i64 a0_0, .slice A0_1 l0_1.length c0_1]] w fun e w' => ∃ v0_ : Value, e = .returned (.tuple #[v0_, .int .i64 r2]) ∧ Kd.R (Kd.int .u8) 5 w' w.heap.size (fun _ => True) v0_ r1 ∧ Below w.heap.size w w' := by
 have hu25 := Try.underlying25
 have hu59 := Try.underlying59
 have HR0_1 := YL hr0_1; have HC0_1 := YL hc0_1; clear hr0_1 hc0_1
 have HB := YL (Below.refl w.heap.size w)
 have H : ((beacon_Check.f k a0_0 l0_1).bind fun t140 => (if t140 = 0 then ((wire_Put.f a0_0 4).bind fun bt141 => (if bt141.1.length < 140737488355328 then (beacon_Bytes.l0 k (bt141.1 ++ [((l0_1.length : Int)) % 256]) l0_1 (l0_1.length : Int) 0) else (none))) else (some (([] : List Int), t140)))) = some (r1, r2) := h
 clear h; replace H := Option.bind_eq_some_iff.mp H; obtain ⟨t140, A20, H⟩ := H
 replace H : (if t140 = 0 then ((wire_Put.f a0_0 4).bind fun bt141 => (if bt141.1.length < 140737488355328 then (beacon_Bytes.l0 k (bt141.1 ++ [((l0_1.length : Int)) % 256]) l0_1 (l0_1.length : Int) 0) else (none))) else (some (([] : List Int), t140))) = some (r1, r2) := H
 have A2 := YL A20; clear A20
 by_cases c3 : t140 = 0
 ·rw [if_pos c3] at H
  have c3b0 : (t140 == 0) = true := beq_iff_eq.mpr c3
  have c3b1 : (t140 != 0) = false := bne_eq_false_iff_eq.mpr c3
  clear c3; replace H := Option.bind_eq_some_iff.mp H
  obtain ⟨⟨t141, t142⟩, A40, H⟩ := H
  replace H : (if t141.length < 140737488355328 then (beacon_Bytes.l0 k (t141 ++ [((l0_1.length : Int)) % 256]) l0_1 (l0_1.length : Int) 0) else (none)) = some (r1, r2) := H
  have A4 := YL A40; clear A40
  by_cases c5 : t141.length < 140737488355328
  rotate_left
  ·rw [if_neg c5] at H
   exact absurd H (by simp)
  rw [if_pos c5] at H; have LMc5 := YL c5; clear c5
  obtain ⟨y145, hy145⟩ : ∃ y_ : List Int, y_ = (t141 ++ [((l0_1.length : Int)) % 256]) := ⟨_, rfl⟩
  replace H : (beacon_Bytes.l0 k y145 l0_1 (l0_1.length : Int) 0) = some (r1, r2) := by first | (rw [hy145]; with_reducible exact H) | (have H2_ := (Option.bind_some _ _).symm.trans H; rw [hy145]; with_reducible exact H2_) | (have H2_ := (Option.bind_some _ _).symm.trans H; with_reducible exact H2_) | with_reducible exact H | (rw [hy145]; exact H) | exact H
  have Ny145 := YL hy145; clear hy145
  have H' := YL H
  clear H
  go_enter Try.func12, Try.ntmps12
  go_wp2_with (first | ((with_reducible refine gate_dst (N := 1) rfl ?_); refine box_event ?hg (N := 1) ?hd (cs := #[.int .i64 a0_0, .slice A0_1 l0_1.length c0_1]) (t := 25) ?hr ?_; (case hd => rfl); (case hg => rfl); (case hr => first | (go_simp; done) | (go_simp; rfl)); intro gb139 hg w6 hbox hb; have n0_ := YL (YD (by repeat (first | (with_reducible first | exact HB.out | apply YA | apply YB | apply YC) | exact HB.out)) hb); have n1_ := YL (hbox); have n2_ := YL ((by rw [hg]; exact (YE (by repeat (first | (with_reducible first | exact HB.out | apply YA | apply YB | apply YC) | exact HB.out))) : w.heap.size ≤ gb139)); have n3_ := YL ((by rw [hg]; exact (YE (by repeat (first | (with_reducible first | exact HB.out | apply YA | apply YB | apply YC) | exact HB.out))) : w.heap.size ≤ gb139)); clear HB; have HB := n0_; have BK139 := n1_; have GW139 := n2_; have GE139 := n3_; clear n0_ n1_ n2_ n3_; clear hb hbox hg; have q7_0 : w6.cell? ⟨gb139, 0, none⟩ = some (.int .i64 a0_0) := (YI BK139.out 0).trans rfl; have q7_1 : w6.cell? ⟨gb139, 1, none⟩ = some (.slice A0_1 l0_1.length c0_1) := (YI BK139.out 1).trans rfl; have f7_0 := YJ BK139.out 0; have f7_1 := YJ BK139.out 1) | ((with_reducible refine gate_callee (f := 22) rfl ?_); refine goesL_ (some 12) rfl rfl Try.func22 (by kernel_rfl) rfl #[.agg #[.int .i64 a0_0, .slice A0_1 l0_1.length c0_1]] rfl (by (try simp only [YM, List.map_cons, List.map_nil]); first | done | rfl | (simp only [YO, YN]; rfl)) ?_; (with_reducible refine (beacon_Check.calls k a0_0 _ _ l0_1 t140 _ ?side1 ?side2 A2.out).mono ?_); (case side1 => repeat (first | exact (Kd.C_below HR0_1.out HB.out) | (with_reducible refine Kd.C_alloc ?_ _) | (with_reducible refine Kd.C_drewN ?_ _) | (with_reducible refine Kd.C_drew ?_))); (case side2 => exact HC0_1.out); rintro e w8 ⟨rfl, hb⟩; refine ⟨_, rfl, ?_⟩; have n0_ := YL (YK (g := gb139) (o := .cells #[.int .i64 a0_0, .slice A0_1 l0_1.length c0_1] 25 (0, 0)) (by (with_reducible repeat (first | refine YF ?_ _ | refine YG ?_ | refine YH ?_ _)); exact BK139.out) hb); have n1_ := YL (YD (by repeat (first | (with_reducible first | exact HB.out | apply YA | apply YB | apply YC | refine below_set ?_ GE139.out) | exact HB.out)) hb); clear BK139; clear HB; have BK139 := n0_; have HB := n1_; clear n0_ n1_; (try clear hb); (try clear hb2); (try clear hk); (try clear hi); have q9_0 : w8.cell? ⟨gb139, 0, none⟩ = some (.int .i64 a0_0) := (YI BK139.out 0).trans rfl; have q9_1 : w8.cell? ⟨gb139, 1, none⟩ = some (.slice A0_1 l0_1.length c0_1) := (YI BK139.out 1).trans rfl; have f9_0 := YJ BK139.out 0; have f9_1 := YJ BK139.out 1) | ((with_reducible refine gate_callee (f := 27) rfl ?_); refine goesL_ (some 19) rfl rfl Try.func27 (by kernel_rfl) rfl #[.int .i64 a0_0, .int .i64 4] rfl (by (try simp only [YM, List.map_cons, List.map_nil]); first | done | rfl | (simp only [YO, YN]; rfl)) ?_; (with_reducible refine (wire_Put.calls a0_0 4 t141 t142 _ A4.out).mono ?_); rintro e w10 ⟨v143, rfl, ho0, hb⟩; refine ⟨_, rfl, ?_⟩; have n0_ := YL (Kd.R_lower ho0 (YE (by repeat (first | (with_reducible first | exact HB.out | apply YA | apply YB | apply YC | refine below_set ?_ GE139.out) | exact HB.out)))); have n1_ := YL (YK (g := gb139) (o := .cells #[.int .i64 a0_0, .slice A0_1 l0_1.length c0_1] 25 (0, 0)) (by (with_reducible repeat (first | refine YF ?_ _ | refine YG ?_ | refine YH ?_ _)); exact BK139.out) hb); have n2_ := YL (YD (by repeat (first | (with_reducible first | exact HB.out | apply YA | apply YB | apply YC | refine below_set ?_ GE139.out) | exact HB.out)) hb); clear BK139; clear HB; have HO144 := n0_; have BK139 := n1_; have HB := n2_; clear n0_ n1_ n2_; (try clear hb); (try clear hb2); (try clear hk); (try clear hi); (try clear ho0); have q11_0 : w10.cell? ⟨gb139, 0, none⟩ = some (.int .i64 a0_0) := (YI BK139.out 0).trans rfl; have q11_1 : w10.cell? ⟨gb139, 1, none⟩ = some (.slice A0_1 l0_1.length c0_1) := (YI BK139.out 1).trans rfl; have f11_0 := YJ BK139.out 0; have f11_1 := YJ BK139.out 1) | ((with_reducible refine gate_builtin (b := .append) (xs := #[.tmp 22, .tmp 27]) rfl ?_); at_builtin; refine Kd.R_append (Kd.int .u8) (w0 := w) w.heap.size rfl (.tmp 22) (.tmp 27) 22 5 (.int .u8 0) 1 rfl Try.underlying22 info5 rfl (by decide) (by omega) v143 t141 (((l0_1.length : Int)) % 256) [.int .u8 (((l0_1.length : Int)) % 256)] (fun _ => True) (fun _ => False) rfl rfl ?aP (fun _ hk => hk.elim) ?aF ?aO ?aB ?aS ?aL ?_; (case aP => exact rfl); (case aB => exact (by repeat (first | (with_reducible first | exact HB.out | apply YA | apply YB | apply YC | refine below_set ?_ GE139.out) | exact HB.out))); (case aF => exact (fun _ _ => trivial)); (case aO => exact (by (with_reducible repeat (first | apply YP | apply YQ | apply YR)); exact HO144.out)); (case aS => exact (YE (by repeat (first | (with_reducible first | exact HB.out | apply YA | apply YB | apply YC | refine below_set ?_ GE139.out) | exact HB.out)))); (case aL => have := LMc5.out; omega); intro v146 w12 ho hb hg hat; rw [← Ny145.out] at ho; have n0_ := YL (blk_grown (g := gb139) (o := .cells #[.int .i64 a0_0, .slice A0_1 l0_1.length c0_1] 25 (0, 0)) (by (with_reducible repeat (first | refine YF ?_ _ | refine YG ?_ | refine YH ?_ _)); exact BK139.out) hg (Kd.R_ne HO144.out BK139.out (by decide))); have n1_ := YL (hb); have n2_ := YL (ho); clear BK139; clear HB; clear HO144; have BK139 := n0_; have HB := n1_; have HO147 := n2_; clear n0_ n1_ n2_; clear ho hb hg hat; have q13_0 : w12.cell? ⟨gb139, 0, none⟩ = some (.int .i64 a0_0) := (YI BK139.out 0).trans rfl; have q13_1 : w12.cell? ⟨gb139, 1, none⟩ = some (.slice A0_1 l0_1.length c0_1) := (YI BK139.out 1).trans rfl; have f13_0 := YJ BK139.out 0; have f13_1 := YJ BK139.out 1))
  go_loopg [5, 32] k (fun kq v5 v32 w' => ∃ (x5_1 : List Int) (x32_1 : Int), v32 = .int .i64 x32_1 ∧ Aside0 (beacon_Bytes.l0 kq x5_1 l0_1 (l0_1.length : Int) x32_1 = some (r1, r2)) ∧ Aside0 (kq ≤ k) ∧ Aside0 (Kd.R (Kd.int .u8) 5 w' w.heap.size (fun _ => True) v5 x5_1) ∧ Aside0 (w'.heap[gb139]? = some (.cells #[.int .i64 a0_0, (.slice A0_1 l0_1.length c0_1)] 25 (0, 0))) ∧ Aside0 (Below w.heap.size w w'))
  case atStart => exact ⟨(y145), (0), (by first | rfl | (simp; done) | (simp [*]; done)), H', ⟨Nat.le_refl _⟩, ⟨by (with_reducible repeat (first | apply YP | apply YQ | apply YR)); exact HO147.out⟩, ⟨by (with_reducible repeat (first | refine YF ?_ _ | refine YG ?_ | refine YH ?_ _)); exact BK139.out⟩, ⟨by repeat (first | (with_reducible first | exact HB.out | apply YA | apply YB | apply YC | refine below_set ?_ GE139.out) | exact HB.out)⟩⟩
  case round =>
   clear H'
   try clear c1; try clear c2
   try clear p2; try clear c3
   try clear c3b0; try clear c3b1
   try clear c5; try clear c12
   try clear q11_0; try clear q11_1
   try clear q13_0; try clear q13_1
   try clear q7_0; try clear q7_1
   try clear q9_0; try clear q9_1
   try clear f11_0; try clear f11_1
   try clear f13_0; try clear f13_1
   try clear f7_0; try clear f7_1
   try clear f9_0; try clear f9_1
   obtain ⟨x5_1, x32_1, rfl, HA, HK1, HO_5, BK139, HB⟩ := hrel
   cases gk with
   | zero => exact absurd HA.out (by simp [beacon_Bytes.l0])
   | succ k1 =>
    have H := HA.out
    clear HA
    simp only [beacon_Bytes.l0] at H
    by_cases c14 : x32_1 < (l0_1.length : Int)
    ·rw [if_pos c14] at H
     have c14b0 : decide (x32_1 < (l0_1.length : Int)) = true := decide_eq_true c14
     clear c14
     by_cases c15 : 0 ≤ x32_1
     rotate_left
     ·rw [if_neg c15] at H
      exact absurd H (by simp)
     rw [if_pos c15] at H; have c15b0 : decide (0 ≤ x32_1) = true := decide_eq_true c15; clear c15
     by_cases c16 : x32_1 < (l0_1.length : Int)
     rotate_left
     ·rw [if_neg c16] at H
      exact absurd H (by simp)
     rw [if_pos c16] at H
     have c16b0 : decide (x32_1 < (l0_1.length : Int)) = true := decide_eq_true c16
     clear c16; replace H := Option.bind_eq_some_iff.mp H
     obtain ⟨⟨t150, t151⟩, A170, H⟩ := H
     replace H : (if x5_1.length < 140737488355328 then ((some (x5_1 ++ [((rd_T59 l0_1 x32_1).f0) % 256] : List Int)).bind fun y154 => (if y154.length + t150.length < 140737488355328 then (beacon_Bytes.l0 k1 (y154 ++ t150) l0_1 (l0_1.length : Int) (wrap64 (x32_1 + 1))) else (none))) else (none)) = some (r1, r2) := H
     have A17 := YL A170; clear A170
     by_cases c18 : x5_1.length < 140737488355328
     rotate_left
     ·rw [if_neg c18] at H
      exact absurd H (by simp)
     rw [if_pos c18] at H; have LMc18 := YL c18; clear c18
     obtain ⟨y154, hy154⟩ : ∃ y_ : List Int, y_ = (x5_1 ++ [((rd_T59 l0_1 x32_1).f0) % 256]) := ⟨_, rfl⟩
     replace H : (if y154.length + t150.length < 140737488355328 then (beacon_Bytes.l0 k1 (y154 ++ t150) l0_1 (l0_1.length : Int) (wrap64 (x32_1 + 1))) else (none)) = some (r1, r2) := by first | (rw [hy154]; with_reducible exact H) | (have H2_ := (Option.bind_some _ _).symm.trans H; rw [hy154]; with_reducible exact H2_) | (have H2_ := (Option.bind_some _ _).symm.trans H; with_reducible exact H2_) | with_reducible exact H | (rw [hy154]; exact H) | exact H
     have Ny154 := YL hy154; clear hy154
     by_cases c19 : y154.length + t150.length < 140737488355328
     rotate_left
     ·rw [if_neg c19] at H
      exact absurd H (by simp)
     rw [if_pos c19] at H; have LMc19 := YL c19; clear c19
     obtain ⟨y157, hy157⟩ : ∃ y_ : List Int, y_ = (y154 ++ t150) := ⟨_, rfl⟩
     replace H : (beacon_Bytes.l0 k1 y157 l0_1 (l0_1.length : Int) (wrap64 (x32_1 + 1))) = some (r1, r2) := by first | (rw [hy157]; with_reducible exact H) | (have H2_ := (Option.bind_some _ _).symm.trans H; rw [hy157]; with_reducible exact H2_) | (have H2_ := (Option.bind_some _ _).symm.trans H; with_reducible exact H2_) | with_reducible exact H | (rw [hy157]; exact H) | exact H
     have Ny157 := YL hy157; clear hy157
     have H' := YL H
     clear H
     have p148 : 0 ≤ (x32_1 : Int) := of_decide_eq_true (by first | (with_reducible assumption) | assumption)
     have q148 : x32_1 < (l0_1.length : Int) := of_decide_eq_true (by first | (with_reducible assumption) | assumption)
     obtain ⟨ad148, e148, hx148_0, hx148_1⟩ := at_T59 HR0_1.out x32_1 p148 q148
     cases e148
     replace hx148_0 := (HB.out.cell (World.block_lt_of_cell? w _ hx148_0)).trans hx148_0
     replace hx148_1 := (HB.out.cell (World.block_lt_of_cell? w _ hx148_1)).trans hx148_1
     replace p148 := eq_true p148
     replace q148 := eq_true q148
     go_wp2_with (first | ((with_reducible refine gate_dst (N := 8) rfl ?_); refine box_event ?hg (N := 8) ?hd (cs := #[.int .i64 0, .int .i64 0]) (t := 59) ?hr ?_; (case hd => rfl); (case hg => rfl); (case hr => first | (go_simp; done) | (go_simp; rfl)); intro gb149 hg w20 hbox hb; have n0_ := YL (Kd.R_below (by (with_reducible repeat (first | apply YP | apply YQ | apply YR)); exact HO_5.out) hb); have n1_ := YL (YK (g := gb139) (o := .cells #[.int .i64 a0_0, .slice (some ad148) l0_1.length c0_1] 25 (0, 0)) (by (with_reducible repeat (first | refine YF ?_ _ | refine YG ?_ | refine YH ?_ _)); exact BK139.out) hb); have n2_ := YL (YD (by repeat (first | (with_reducible first | exact HB.out | apply YA | apply YB | apply YC | refine below_set ?_ GE139.out) | exact HB.out)) hb); have n3_ := YL (hbox); have n4_ := YL ((by rw [hg]; exact (YE (by repeat (first | (with_reducible first | exact HB.out | apply YA | apply YB | apply YC | refine below_set ?_ GE139.out) | exact HB.out))) : w.heap.size ≤ gb149)); have n5_ := YL ((by rw [hg]; exact (YE (by repeat (first | (with_reducible first | exact HB.out | apply YA | apply YB | apply YC | refine below_set ?_ GE139.out) | exact HB.out))) : w.heap.size ≤ gb149)); have n6_ := YL ((by rw [hg]; exact Nat.ne_of_lt (blk_lt (g := gb139) (o := .cells #[.int .i64 a0_0, .slice (some ad148) l0_1.length c0_1] 25 (0, 0)) (by (with_reducible repeat (first | refine YF ?_ _ | refine YG ?_ | refine YH ?_ _)); exact BK139.out)) : gb139 ≠ gb149)); have n7_ := YL ((by rw [hg]; exact Nat.ne_of_gt (blk_lt (g := gb139) (o := .cells #[.int .i64 a0_0, .slice (some ad148) l0_1.length c0_1] 25 (0, 0)) (by (with_reducible repeat (first | refine YF ?_ _ | refine YG ?_ | refine YH ?_ _)); exact BK139.out)) : gb149 ≠ gb139)); clear HO_5; clear BK139; clear HB; have HO_5 := n0_; have BK139 := n1_; have HB := n2_; have BK149 := n3_; have GW149 := n4_; have GE149 := n5_; have NB139_149 := n6_; have NB149_139 := n7_; clear n0_ n1_ n2_ n3_ n4_ n5_ n6_ n7_; clear hb hbox hg; have hnb21 := NB149_139.out; have hnc21 := NB139_149.out; have q22_0 : w20.cell? ⟨gb149, 0, none⟩ = some (.int .i64 0) := (YI BK149.out 0).trans rfl; have q22_1 : w20.cell? ⟨gb149, 1, none⟩ = some (.int .i64 0) := (YI BK149.out 1).trans rfl; have f22_0 := YJ BK149.out 0; have f22_1 := YJ BK149.out 1) | ((with_reducible refine gate_callee (f := 27) rfl ?_); refine goesL_ (some 39) rfl rfl Try.func27 (by kernel_rfl) rfl #[.int .i64 ((rd_T59 l0_1 x32_1).f1), .int .i64 4] rfl (by (try simp only [YM, List.map_cons, List.map_nil]); first | done | rfl | (simp only [YO, YN]; rfl)) ?_; (with_reducible refine (wire_Put.calls ((rd_T59 l0_1 x32_1).f1) 4 t150 t151 _ A17.out).mono ?_); rintro e w23 ⟨v152, rfl, ho0, hb⟩; refine ⟨_, rfl, ?_⟩; have n0_ := YL (Kd.R_elder' (by (with_reducible repeat (first | apply YP | apply YQ | apply YR)); exact (Kd.R_mono (Kd.R_far (p := ⟨gb149, 1, none⟩) (Kd.R_far (p := ⟨gb149, 0, none⟩) (Kd.R_types HO_5.out BK149.out (by decide)) (fun _ hk => hk.2) (.int .i64 ((rd_T59 l0_1 x32_1).f0))) (fun _ hk => hk.2) (.int .i64 ((rd_T59 l0_1 x32_1).f1))) (fun _ h_ => h_.1))) (Kd.R_base ho0) hb); have n1_ := YL (Kd.R_lower (Kd.R_new' ho0 (Kd.R_lt (by (with_reducible repeat (first | apply YP | apply YQ | apply YR)); exact (Kd.R_mono (Kd.R_far (p := ⟨gb149, 1, none⟩) (Kd.R_far (p := ⟨gb149, 0, none⟩) (Kd.R_types HO_5.out BK149.out (by decide)) (fun _ hk => hk.2) (.int .i64 ((rd_T59 l0_1 x32_1).f0))) (fun _ hk => hk.2) (.int .i64 ((rd_T59 l0_1 x32_1).f1))) (fun _ h_ => h_.1))))) (YE (by repeat (first | (with_reducible first | exact HB.out | apply YA | apply YB | apply YC | refine below_set ?_ GE139.out | refine below_set ?_ GE149.out) | exact HB.out)))); have n2_ := YL (YK (g := gb139) (o := .cells #[.int .i64 a0_0, .slice (some ad148) l0_1.length c0_1] 25 (0, 0)) (by (with_reducible repeat (first | refine YF ?_ _ | refine YG ?_ | refine YH ?_ _)); refine blk_far ?_ NB139_149.out _; (with_reducible repeat (first | refine YF ?_ _ | refine YG ?_ | refine YH ?_ _)); refine blk_far ?_ NB139_149.out _; (with_reducible repeat (first | refine YF ?_ _ | refine YG ?_ | refine YH ?_ _)); exact BK139.out) hb); have n3_ := YL (YK (g := gb149) (o := .cells #[.int .i64 ((rd_T59 l0_1 x32_1).f0), .int .i64 ((rd_T59 l0_1 x32_1).f1)] 59 (0, 0)) (by (with_reducible repeat (first | refine YF ?_ _ | refine YG ?_ | refine YH ?_ _)); refine blk_put (cs := #[.int .i64 ((rd_T59 l0_1 x32_1).f0), .int .i64 0]) ?_ 1 _ rfl; (with_reducible repeat (first | refine YF ?_ _ | refine YG ?_ | refine YH ?_ _)); refine blk_put (cs := #[.int .i64 0, .int .i64 0]) ?_ 0 _ rfl; (with_reducible repeat (first | refine YF ?_ _ | refine YG ?_ | refine YH ?_ _)); exact BK149.out) hb); have n4_ := YL (YD (by repeat (first | (with_reducible first | exact HB.out | apply YA | apply YB | apply YC | refine below_set ?_ GE139.out | refine below_set ?_ GE149.out) | exact HB.out)) hb); clear HO_5; clear BK139; clear BK149; clear HB; have HO_5 := n0_; have HO153 := n1_; have BK139 := n2_; have BK149 := n3_; have HB := n4_; clear n0_ n1_ n2_ n3_ n4_; (try clear hb); (try clear hb2); (try clear hk); (try clear hi); (try clear ho0); have q24_0 : w23.cell? ⟨gb149, 0, none⟩ = some (.int .i64 ((rd_T59 l0_1 x32_1).f0)) := (YI BK149.out 0).trans rfl; have q24_1 : w23.cell? ⟨gb149, 1, none⟩ = some (.int .i64 ((rd_T59 l0_1 x32_1).f1)) := (YI BK149.out 1).trans rfl; have f24_0 := YJ BK149.out 0; have f24_1 := YJ BK149.out 1) | ((with_reducible refine gate_builtin (b := .append) (xs := #[.tmp 42, .tmp 46]) rfl ?_); at_builtin; refine Kd.R_append (Kd.int .u8) (w0 := w) w.heap.size rfl (.tmp 42) (.tmp 46) 22 5 (.int .u8 0) 1 rfl Try.underlying22 info5 rfl (by decide) (by omega) u5 x5_1 (((rd_T59 l0_1 x32_1).f0) % 256) [.int .u8 (((rd_T59 l0_1 x32_1).f0) % 256)] (fun k_ => some k_ ≠ (v152 : Value).ownBlock) (fun _ => False) rfl rfl ?aP (fun _ hk => hk.elim) ?aF ?aO ?aB ?aS ?aL ?_; (case aP => exact rfl); (case aB => exact (by repeat (first | (with_reducible first | exact HB.out | apply YA | apply YB | apply YC | refine below_set ?_ GE139.out | refine below_set ?_ GE149.out) | exact HB.out))); (case aF => exact (fun k_ hk => Kd.fresh' (Kd.R_lt (by (with_reducible repeat (first | apply YP | apply YQ | apply YR)); exact HO153.out)) k_ hk)); (case aO => exact (by (with_reducible repeat (first | apply YP | apply YQ | apply YR)); exact Kd.R_mono HO_5.out (fun _ hk => by first | exact hk.2 | exact trivial | (simp [hk]; done) | simp_all))); (case aS => exact (YE (by repeat (first | (with_reducible first | exact HB.out | apply YA | apply YB | apply YC | refine below_set ?_ GE139.out | refine below_set ?_ GE149.out) | exact HB.out)))); (case aL => have := LMc18.out; omega); intro v155 w25 ho hb hg hat; rw [← Ny154.out] at ho; have n0_ := YL (blk_grown (g := gb139) (o := .cells #[.int .i64 a0_0, .slice (some ad148) l0_1.length c0_1] 25 (0, 0)) (by (with_reducible repeat (first | refine YF ?_ _ | refine YG ?_ | refine YH ?_ _)); exact BK139.out) hg (Kd.R_ne HO_5.out BK139.out (by decide))); have n1_ := YL (blk_grown (g := gb149) (o := .cells #[.int .i64 ((rd_T59 l0_1 x32_1).f0), .int .i64 ((rd_T59 l0_1 x32_1).f1)] 59 (0, 0)) (by (with_reducible repeat (first | refine YF ?_ _ | refine YG ?_ | refine YH ?_ _)); exact BK149.out) hg (Kd.R_ne HO_5.out BK149.out (by decide))); have n2_ := YL (Kd.R_after (ok := (fun _ => True)) (by (with_reducible repeat (first | apply YP | apply YQ | apply YR)); exact HO153.out) hg hat); have n3_ := YL (hb); have n4_ := YL (ho); clear BK139; clear BK149; clear HO153; clear HB; clear HO_5; have BK139 := n0_; have BK149 := n1_; have HO153 := n2_; have HB := n3_; have HO156 := n4_; clear n0_ n1_ n2_ n3_ n4_; clear ho hb hg hat; obtain ⟨Ao27, co27, eo27⟩ := Kd.R_slice HO153.out; subst eo27) | ((with_reducible refine gate_builtin (b := .append) (xs := #[.tmp 47, .tmp 48]) rfl ?_); at_builtin; refine Kd.R_append_rows (Kd.int .u8) (w0 := w) w.heap.size rfl (.tmp 47) (.tmp 48) 22 5 (.int .u8 0) 1 rfl Try.underlying22 info5 rfl (by decide) (by omega) v155 y154 t150 _ _ _ (fun k_ => some k_ ≠ (.slice Ao27 t150.length co27 : Value).ownBlock) (fun _ => False) rfl rfl ?aO ?aR (fun _ _ h => h) (fun _ h => h.elim) ?aF ?aB ?aS ?aL ?_; (case aR => repeat (first | exact (Kd.R_reads' HO153.out).2.2 | (with_reducible refine Kd.C_alloc ?_ _) | (with_reducible refine Kd.C_drewN ?_ _) | (with_reducible refine Kd.C_drew ?_))); (case aB => exact (by repeat (first | (with_reducible first | exact HB.out | apply YA | apply YB | apply YC | refine below_set ?_ GE139.out | refine below_set ?_ GE149.out) | exact HB.out))); (case aF => exact (fun k_ hk => Kd.fresh' (Kd.R_lt (by (with_reducible repeat (first | apply YP | apply YQ | apply YR)); exact HO153.out)) k_ hk)); (case aO => exact (by (with_reducible repeat (first | apply YP | apply YQ | apply YR)); exact HO156.out)); (case aS => exact (YE (by repeat (first | (with_reducible first | exact HB.out | apply YA | apply YB | apply YC | refine below_set ?_ GE139.out | refine below_set ?_ GE149.out) | exact HB.out)))); (case aL => have := LMc19.out; omega); intro v158 w26 ho hb hg hat; rw [← Ny157.out] at ho; have n0_ := YL (blk_grown (g := gb139) (o := .cells #[.int .i64 a0_0, .slice (some ad148) l0_1.length c0_1] 25 (0, 0)) (by (with_reducible repeat (first | refine YF ?_ _ | refine YG ?_ | refine YH ?_ _)); exact BK139.out) hg (Kd.R_ne HO156.out BK139.out (by decide))); have n1_ := YL (blk_grown (g := gb149) (o := .cells #[.int .i64 ((rd_T59 l0_1 x32_1).f0), .int .i64 ((rd_T59 l0_1 x32_1).f1)] 59 (0, 0)) (by (with_reducible repeat (first | refine YF ?_ _ | refine YG ?_ | refine YH ?_ _)); exact BK149.out) hg (Kd.R_ne HO156.out BK149.out (by decide))); have n2_ := YL (Kd.R_after (ok := (fun _ => True)) (by (with_reducible repeat (first | apply YP | apply YQ | apply YR)); exact HO153.out) hg hat); have n3_ := YL (hb); have n4_ := YL (ho); clear BK139; clear BK149; clear HO153; clear HB; clear HO156; have BK139 := n0_; have BK149 := n1_; have HO153 := n2_; have HB := n3_; have HO159 := n4_; clear n0_ n1_ n2_ n3_ n4_; clear ho hb hg hat))
     go_roundg k1
     case measure => have := HK1.out; omega
     case rel => exact ⟨(y157), (wrap64 (x32_1 + 1)), (by first | rfl | (simp; done) | (simp [*]; done)), H', ⟨by have := HK1.out; omega⟩, ⟨by (with_reducible repeat (first | apply YP | apply YQ | apply YR)); exact Kd.R_mono HO159.out (fun _ hk => trivial)⟩, ⟨by (with_reducible repeat (first | refine YF ?_ _ | refine YG ?_ | refine YH ?_ _)); exact BK139.out⟩, ⟨by repeat (first | (with_reducible first | exact HB.out | apply YA | apply YB | apply YC | refine below_set ?_ GE139.out | refine below_set ?_ GE149.out) | exact HB.out)⟩⟩
    rw [if_neg c14] at H
    have c14b0 : decide (x32_1 < (l0_1.length : Int)) = false := decide_eq_false c14
    clear c14
    simp only [Option.some.injEq, Prod.mk.injEq] at H
    obtain ⟨rfl, rfl⟩ := H
    go_wp2
    go_ret2
    exact ⟨_, by first | rfl | (simp [errW_none, errW_some] <;> rfl) | (simp [*, errW_none, errW_some] <;> rfl), by (with_reducible repeat (first | apply YP | apply YQ | apply YR)); exact HO_5.out, by repeat (first | (with_reducible first | exact HB.out | apply YA | apply YB | apply YC | refine below_set ?_ GE139.out) | exact HB.out)⟩
 rw [if_neg c3] at H
 have c3b0 : (t140 == 0) = false := beq_eq_false_iff_ne.mpr c3
 have c3b1 : (t140 != 0) = true := bne_iff_ne.mpr c3
 simp only [Option.some.injEq, Prod.mk.injEq] at H
 obtain ⟨rfl, rfl⟩ := H
 go_enter Try.func12, Try.ntmps12
 go_wp2_with (first | ((with_reducible refine gate_dst (N := 1) rfl ?_); refine box_event ?hg (N := 1) ?hd (cs := #[.int .i64 a0_0, .slice A0_1 l0_1.length c0_1]) (t := 25) ?hr ?_; (case hd => rfl); (case hg => rfl); (case hr => first | (go_simp; done) | (go_simp; rfl)); intro gb139 hg w28 hbox hb; have n0_ := YL (YD (by repeat (first | (with_reducible first | exact HB.out | apply YA | apply YB | apply YC) | exact HB.out)) hb); have n1_ := YL (hbox); have n2_ := YL ((by rw [hg]; exact (YE (by repeat (first | (with_reducible first | exact HB.out | apply YA | apply YB | apply YC) | exact HB.out))) : w.heap.size ≤ gb139)); have n3_ := YL ((by rw [hg]; exact (YE (by repeat (first | (with_reducible first | exact HB.out | apply YA | apply YB | apply YC) | exact HB.out))) : w.heap.size ≤ gb139)); clear HB; have HB := n0_; have BK139 := n1_; have GW139 := n2_; have GE139 := n3_; clear n0_ n1_ n2_ n3_; clear hb hbox hg; have q29_0 : w28.cell? ⟨gb139, 0, none⟩ = some (.int .i64 a0_0) := (YI BK139.out 0).trans rfl; have q29_1 : w28.cell? ⟨gb139, 1, none⟩ = some (.slice A0_1 l0_1.length c0_1) := (YI BK139.out 1).trans rfl; have f29_0 := YJ BK139.out 0; have f29_1 := YJ BK139.out 1) | ((with_reducible refine gate_callee (f := 22) rfl ?_); refine goesL_ (some 12) rfl rfl Try.func22 (by kernel_rfl) rfl #[.agg #[.int .i64 a0_0, .slice A0_1 l0_1.length c0_1]] rfl (by (try simp only [YM, List.map_cons, List.map_nil]); first | done | rfl | (simp only [YO, YN]; rfl)) ?_; (with_reducible refine (beacon_Check.calls k a0_0 _ _ l0_1 t140 _ ?side1 ?side2 A2.out).mono ?_); (case side1 => repeat (first | exact (Kd.C_below HR0_1.out HB.out) | (with_reducible refine Kd.C_alloc ?_ _) | (with_reducible refine Kd.C_drewN ?_ _) | (with_reducible refine Kd.C_drew ?_))); (case side2 => exact HC0_1.out); rintro e w30 ⟨rfl, hb⟩; refine ⟨_, rfl, ?_⟩; have n0_ := YL (YK (g := gb139) (o := .cells #[.int .i64 a0_0, .slice A0_1 l0_1.length c0_1] 25 (0, 0)) (by (with_reducible repeat (first | refine YF ?_ _ | refine YG ?_ | refine YH ?_ _)); exact BK139.out) hb); have n1_ := YL (YD (by repeat (first | (with_reducible first | exact HB.out | apply YA | apply YB | apply YC | refine below_set ?_ GE139.out) | exact HB.out)) hb); clear BK139; clear HB; have BK139 := n0_; have HB := n1_; clear n0_ n1_; (try clear hb); (try clear hb2); (try clear hk); (try clear hi)))
 go_ret2
 exact ⟨_, by first | rfl | (simp [errW_none, errW_some] <;> rfl) | (simp [*, errW_none, errW_some] <;> rfl), by first | exact Kd.R_nil _ _ _ _ _ | exact Kd.N_nil _ _ _ _ _ | exact Kd.V_nil _ _ _ _ _ | exact Kd.Q_nil _ _ _ _ _ | exact Kd.S_nil _ _ _ _ _, by repeat (first | (with_reducible first | exact HB.out | apply YA | apply YB | apply YC | refine below_set ?_ GE139.out) | exact HB.out)⟩
def thalweglaw06_awake.f (k : Nat)  : Option (Bool) := (beacon_Bytes.f k 1 (([(⟨5, 2⟩ : S59)] : List (S59)))).bind fun bt163 => (if (strOfNums bt163.1).toList = ([0, 0, 0, 1, 1, 5, 0, 0, 0, 2] : List UInt8) then (some (bt163.2 == 0)) else (none))
theorem thalweglaw06_awake.mono : ∀ k, LeO (thalweglaw06_awake.f k ) (thalweglaw06_awake.f (k + 1) ) := by
 intro  k
 unfold thalweglaw06_awake.f
 repeat' first
   | (with_reducible exact beacon_Bytes.mono _ _ _)
   | (with_reducible exact LeO.refl _)
   | (with_reducible exact LeO.none _)
   | (with_reducible refine LeO.ite ?_ ?_)
   | (with_reducible refine LeO.bind ?_ (fun _ => ?_))
   | exact beacon_Bytes.mono _ _ _
   | exact LeO.none _
   | refine LeO.ite ?_ ?_
   | refine LeO.bind ?_ (fun _ => ?_)
theorem thalweglaw06_awake.calls (k : Nat)  (r : Bool) (w : World) (h : thalweglaw06_awake.f k  = some r) :
  Calls Try.prog 10 #[] w fun e w' => e = .returned (.bool r) ∧ Below w.heap.size w w' := by
 have hu59 := Try.underlying59
 have hu25 := Try.underlying25
 have HB := YL (Below.refl w.heap.size w)
 have H : ((beacon_Bytes.f k 1 (([(⟨5, 2⟩ : S59)] : List (S59)))).bind fun bt163 => (if (strOfNums bt163.1).toList = ([0, 0, 0, 1, 1, 5, 0, 0, 0, 2] : List UInt8) then (some (bt163.2 == 0)) else (none))) = some r := h
 clear h
 obtain ⟨y160, hy160⟩ : ∃ y_ : List (S59), y_ = (([(⟨5, 2⟩ : S59)] : List (S59))) := ⟨_, rfl⟩
 replace H : ((beacon_Bytes.f k 1 y160).bind fun bt163 => (if (strOfNums bt163.1).toList = ([0, 0, 0, 1, 1, 5, 0, 0, 0, 2] : List UInt8) then (some (bt163.2 == 0)) else (none))) = some r := by first | (rw [hy160]; with_reducible exact H) | (have H2_ := (Option.bind_some _ _).symm.trans H; rw [hy160]; with_reducible exact H2_) | (have H2_ := (Option.bind_some _ _).symm.trans H; with_reducible exact H2_) | with_reducible exact H | (rw [hy160]; exact H) | exact H
 have Ny160 := YL hy160; clear hy160; replace H := Option.bind_eq_some_iff.mp H
 obtain ⟨⟨t163, t166⟩, A10, H⟩ := H
 replace H : (if (strOfNums t163).toList = ([0, 0, 0, 1, 1, 5, 0, 0, 0, 2] : List UInt8) then (some (t166 == 0)) else (none)) = some r := H
 have A1 := YL A10; clear A10
 by_cases c2 : (strOfNums t163).toList = ([0, 0, 0, 1, 1, 5, 0, 0, 0, 2] : List UInt8)
 rotate_left
 ·rw [if_neg c2] at H
  exact absurd H (by simp)
 rw [if_pos c2] at H
 have c2b0 : ((strOfNums t163).toList == ([0, 0, 0, 1, 1, 5, 0, 0, 0, 2] : List UInt8)) = true := beq_iff_eq.mpr c2
 have c2b1 : ((strOfNums t163).toList != ([0, 0, 0, 1, 1, 5, 0, 0, 0, 2] : List UInt8)) = false := bne_eq_false_iff_eq.mpr c2
 clear c2
 obtain rfl := Option.some.inj H
 go_enter Try.func10, Try.ntmps10
 go_wp2_with (first | ((with_reducible refine gate_dst (N := 5) rfl ?_); refine Kd.R_lit k59 _ 59 ?hg (N := 5) ?hd (xs := ([(⟨5, 2⟩ : S59)] : List (S59))) (inner := [.int .i64 5, .int .i64 2]) (ok := fun _ => True) (okp := fun _ => True) ?hr ?hp (fun _ hk => hk) trivial (Below.refl _ _) (Nat.le_refl _) (by simp) ?_; (case hd => rfl); (case hg => rfl); (case hr => first | (go_simp; done) | (go_simp; rfl)); (case hp => exact (Reps.c2 (show Kd.M k59 _ _ _ (⟨5, 2⟩ : S59) [.int .i64 5, .int .i64 2] from (k59_mkM _ _ _ (⟨5, 2⟩ : S59) )) (Reps.none _ _))); intro v161 w3 ho4 hb hg_ hnew_; clear hg_ hnew_; (first | rw [← Ny160.out] at ho4 | (simp only [Int.reduceToNat] at ho4; rw [← Ny160.out] at ho4)); have n0_ := YL (Kd.R_lower ho4 (YE (by repeat (first | (with_reducible first | exact HB.out | apply YA | apply YB | apply YC) | exact HB.out)))); have n1_ := YL (YD (by repeat (first | (with_reducible first | exact HB.out | apply YA | apply YB | apply YC) | exact HB.out)) hb); clear HB; have HO162 := n0_; have HB := n1_; clear n0_ n1_; clear hb ho4; obtain ⟨Ao5, co5, eo5⟩ := Kd.R_slice HO162.out; subst eo5) | ((with_reducible refine gate_callee (f := 12) rfl ?_); refine goesL_ (some 7) rfl rfl Try.func12 (by kernel_rfl) rfl #[.agg #[.int .i64 1, .slice Ao5 y160.length co5]] rfl (by (try simp only [YM, List.map_cons, List.map_nil]); first | done | rfl | (simp only [YO, YN]; rfl)) ?_; (with_reducible refine (beacon_Bytes.calls k 1 _ _ y160 t163 t166 _ ?side1 ?side2 A1.out).mono ?_); (case side1 => repeat (first | exact (Kd.R_reads' HO162.out).2.2 | (with_reducible refine Kd.C_alloc ?_ _) | (with_reducible refine Kd.C_drewN ?_ _) | (with_reducible refine Kd.C_drew ?_))); (case side2 => exact (Kd.R_reads' HO162.out).2.1); rintro e w6 ⟨v164, rfl, ho0, hb⟩; refine ⟨_, rfl, ?_⟩; have n0_ := YL (Kd.R_below (by (with_reducible repeat (first | apply YP | apply YQ | apply YR)); exact HO162.out) hb); have n1_ := YL (Kd.R_lower ho0 (YE (by repeat (first | (with_reducible first | exact HB.out | apply YA | apply YB | apply YC) | exact HB.out)))); have n2_ := YL (YD (by repeat (first | (with_reducible first | exact HB.out | apply YA | apply YB | apply YC) | exact HB.out)) hb); clear HO162; clear HB; have HO162 := n0_; have HO165 := n1_; have HB := n2_; clear n0_ n1_ n2_; (try clear hb); (try clear hb2); (try clear hk); (try clear hi); (try clear ho0); have hcv7 := own_string (P := Try.prog) Try.underlying22 Try.underlying5 Try.underlying9 (Kd.own_of_R HO165.out)))
 go_ret
 exact ⟨by first | rfl | (simp [errW_none, errW_some] <;> rfl) | (simp [*, errW_none, errW_some] <;> rfl), by repeat (first | (with_reducible first | exact HB.out | apply YA | apply YB | apply YC) | exact HB.out)⟩
end Go.Proofs.Ytaiklcpmlkpfjaa.P
namespace Go.Proofs.Ytaiklcpmlkpfjaa.P
open Go.RowKit YtaiklcpmlkpfjaaW.PrintWords YtaiklcpmlkpfjaaW.PrintLast YtaiklcpmlkpfjaaW.PrintMore
attribute [local go_sem] max2_int min2_int max_two min_two max_three min_three max_four min_four
theorem eqA59 (d : Nat) (w : World) (x0 y0 : Int) (x1 y1 : Int) :
  (Op.equalIn (d + 2) 59 (.agg #[.int .i64 x0, .int .i64 x1]) (.agg #[.int .i64 y0, .int .i64 y1])).run Try.prog w = .ok (x0 == y0 && (x1 == y1)) w := by
 refine eqA_of Try.underlying59 (by kernel_rfl) ?_
 refine eqf_cons (by rfl) (by go_simp; rfl) (by go_simp; rfl) (by go_simp) ?_
 exact eqf_last (by rfl) (by go_simp; rfl) (by go_simp; rfl) (by go_simp)
end Go.Proofs.Ytaiklcpmlkpfjaa.P
namespace Go.Proofs.Ytaiklcpmlkpfjaa.P
open Go.RowKit YtaiklcpmlkpfjaaW.PrintWords YtaiklcpmlkpfjaaW.PrintLast YtaiklcpmlkpfjaaW.PrintMore
open YtaiklcpmlkpfjaaW.PrintWords renaming below_alloc → YA, pw_below_drewN → YB, below_drew1 → YC, below_step → YD, below_size → YE, blk_drewN → YF, blk_drew → YG, blk_alloc → YH, blk_cell → YI, blk_frozen → YJ
open YtaiklcpmlkpfjaaW.PrintWords.Aside0 renaming mk → YK
attribute [local go_sem] max2_int min2_int max_two min_two max_three min_three max_four min_four
attribute [local go_sem high] eqA59
mutual
def thalwegref06_Same.j0 : Nat → Bool → Int → List (S59) → Int → List (S59) → Option (Bool)
 | 0, _, _, _, _, _ => none
 | k + 1, x19, x168000, x168001, x169000, x169001 => if x19 = true then (some false) else (thalwegref06_Same.l0 k 0 x168000 x168001 x169000 x169001)
def thalwegref06_Same.l0 : Nat → Int → Int → List (S59) → Int → List (S59) → Option (Bool)
 | 0, _, _, _, _, _ => none
 | k + 1, x5, x168000, x168001, x169000, x169001 => if x5 < (x168001.length : Int) then (if 0 ≤ x5 then (if x5 < (x169001.length : Int) then (if (!(((rd_T59 x168001 x5).f0) == ((rd_T59 x169001 x5).f0)) || (!(((rd_T59 x168001 x5).f1) == ((rd_T59 x169001 x5).f1)))) = true then (some false) else (thalwegref06_Same.l0 k (wrap64 (x5 + 1)) x168000 x168001 x169000 x169001)) else (none)) else (none)) else (some true)
end
def thalwegref06_Same.f (k : Nat) (a0_0 : Int) (l0_1 : List (S59)) (a1_0 : Int) (l1_1 : List (S59)) : Option (Bool) := if a0_0 = a1_0 then (thalwegref06_Same.j0 k ((l0_1.length : Int) != (l1_1.length : Int)) a0_0 l0_1 a1_0 l1_1) else (thalwegref06_Same.j0 k true a0_0 l0_1 a1_0 l1_1)
theorem thalwegref06_Same.mono_l : ∀ k, (∀ y0 y1 y2 y3 y4, LeO (thalwegref06_Same.j0 k y0 y1 y2 y3 y4) (thalwegref06_Same.j0 (k + 1) y0 y1 y2 y3 y4)) ∧ (∀ y0 y1 y2 y3 y4, LeO (thalwegref06_Same.l0 k y0 y1 y2 y3 y4) (thalwegref06_Same.l0 (k + 1) y0 y1 y2 y3 y4))
 | 0 => ⟨fun _ _ _ _ _ r h => by simp [thalwegref06_Same.j0] at h, fun _ _ _ _ _ r h => by simp [thalwegref06_Same.l0] at h⟩
 | k + 1 => by
  obtain ⟨ih0, ih1⟩ := thalwegref06_Same.mono_l k
  refine ⟨?_, ?_⟩
  ·intro y0 y1 y2 y3 y4
   unfold thalwegref06_Same.j0
   repeat' first
   | (with_reducible exact ih0 _ _ _ _ _)
   | (with_reducible exact ih1 _ _ _ _ _)
   | (with_reducible exact LeO.refl _)
   | (with_reducible exact LeO.none _)
   | (with_reducible refine LeO.ite ?_ ?_)
   | (with_reducible refine LeO.bind ?_ (fun _ => ?_))
   | exact ih0 _ _ _ _ _
   | exact ih1 _ _ _ _ _
   | exact LeO.none _
   | refine LeO.ite ?_ ?_
   | refine LeO.bind ?_ (fun _ => ?_)
  intro y0 y1 y2 y3 y4
  unfold thalwegref06_Same.l0
  repeat' first
  | (with_reducible exact ih0 _ _ _ _ _)
  | (with_reducible exact ih1 _ _ _ _ _)
  | (with_reducible exact LeO.refl _)
  | (with_reducible exact LeO.none _)
  | (with_reducible refine LeO.ite ?_ ?_)
  | (with_reducible refine LeO.bind ?_ (fun _ => ?_))
  | exact ih0 _ _ _ _ _
  | exact ih1 _ _ _ _ _
  | exact LeO.none _
  | refine LeO.ite ?_ ?_
  | refine LeO.bind ?_ (fun _ => ?_)
theorem thalwegref06_Same.mono : ∀ a0 a1 a2 a3 k, LeO (thalwegref06_Same.f k a0 a1 a2 a3) (thalwegref06_Same.f (k + 1) a0 a1 a2 a3) := by
 intro a0 a1 a2 a3 k
 obtain ⟨ih0, ih1⟩ := thalwegref06_Same.mono_l k
 unfold thalwegref06_Same.f
 repeat' first
   | (with_reducible exact ih0 _ _ _ _ _)
   | (with_reducible exact ih1 _ _ _ _ _)
   | (with_reducible exact LeO.refl _)
   | (with_reducible exact LeO.none _)
   | (with_reducible refine LeO.ite ?_ ?_)
   | (with_reducible refine LeO.bind ?_ (fun _ => ?_))
   | exact ih0 _ _ _ _ _
   | exact ih1 _ _ _ _ _
   | exact LeO.none _
   | refine LeO.ite ?_ ?_
   | refine LeO.bind ?_ (fun _ => ?_)
theorem thalwegref06_Same.calls (k : Nat) (a0_0 : Int) (A0_1 : Option Addr) (c0_1 : Nat) (l0_1 : List (S59)) (a1_0 : Int) (A1_1 : Option Addr) (c1_1 : Nat) (l1_1 : List (S59)) (r : Bool) (w : World) (hr0_1 : Kd.C k59 w A0_1 l0_1.length l0_1) (hc0_1 : l0_1.length ≤ c0_1) (hr1_1 : Kd.C k59 w A1_1 l1_1.length l1_1) (hc1_1 : l1_1.length ≤ c1_1) (h : thalwegref06_Same.f k a0_0 l0_1 a1_0 l1_1 = some r) :
  Calls Try.prog 11 #[.agg #[.int .i64 a0_0, .slice A0_1 l0_1.length c0_1], .agg #[.int .i64 a1_0, .slice A1_1 l1_1.length c1_1]] w fun e w' => e = .returned (.bool r) ∧ Below w.heap.size w w' := by
 have hu25 := Try.underlying25
 have hu59 := Try.underlying59
 have HR0_1 := YK hr0_1; have HC0_1 := YK hc0_1; clear hr0_1 hc0_1; have HR1_1 := YK hr1_1; have HC1_1 := YK hc1_1; clear hr1_1 hc1_1
 have HB := YK (Below.refl w.heap.size w)
 have H : (if a0_0 = a1_0 then (thalwegref06_Same.j0 k ((l0_1.length : Int) != (l1_1.length : Int)) a0_0 l0_1 a1_0 l1_1) else (thalwegref06_Same.j0 k true a0_0 l0_1 a1_0 l1_1)) = some r := h
 clear h; have HC3 := YK H; clear H
 go_enter Try.func11, Try.ntmps11
 go_upto_region 1 with (first | ((with_reducible refine gate_dst (N := 2) rfl ?_); (try (refine gate_guard (by rfl) ?_; dsimp only)); refine box_event ?hg (N := 2) ?hd (cs := #[.int .i64 a0_0, .slice A0_1 l0_1.length c0_1]) (t := 25) ?hr ?_; (case hd => rfl); (case hg => rfl); (case hr => first | (go_simp; done) | (go_simp; rfl)); intro gb167 hg w4 hbox hb; have n0_ := YK (YD (by repeat (first | (with_reducible first | exact HB.out | apply YA | apply YB | apply YC) | exact HB.out)) hb); have n1_ := YK (hbox); have n2_ := YK ((by rw [hg]; exact (YE (by repeat (first | (with_reducible first | exact HB.out | apply YA | apply YB | apply YC) | exact HB.out))) : w.heap.size ≤ gb167)); have n3_ := YK ((by rw [hg]; exact (YE (by repeat (first | (with_reducible first | exact HB.out | apply YA | apply YB | apply YC) | exact HB.out))) : w.heap.size ≤ gb167)); clear HB; have HB := n0_; have BK167 := n1_; have GW167 := n2_; have GE167 := n3_; clear n0_ n1_ n2_ n3_; clear hb hbox hg) | ((with_reducible refine gate_dst (N := 3) rfl ?_); (try (refine gate_guard (by rfl) ?_; dsimp only)); refine box_event ?hg (N := 3) ?hd (cs := #[.int .i64 a1_0, .slice A1_1 l1_1.length c1_1]) (t := 25) ?hr ?_; (case hd => rfl); (case hg => rfl); (case hr => first | (go_simp; done) | (go_simp; rfl)); intro gb168 hg w5 hbox hb; have n0_ := YK (blk_below (g := gb167) (o := .cells #[.int .i64 a0_0, .slice A0_1 l0_1.length c0_1] 25 (0, 0)) (by (with_reducible repeat (first | refine YF ?_ _ | refine YG ?_ | refine YH ?_ _)); exact BK167.out) hb); have n1_ := YK (YD (by repeat (first | (with_reducible first | exact HB.out | apply YA | apply YB | apply YC | refine below_set ?_ GE167.out) | exact HB.out)) hb); have n2_ := YK (hbox); have n3_ := YK ((by rw [hg]; exact (YE (by repeat (first | (with_reducible first | exact HB.out | apply YA | apply YB | apply YC | refine below_set ?_ GE167.out) | exact HB.out))) : w.heap.size ≤ gb168)); have n4_ := YK ((by rw [hg]; exact (YE (by repeat (first | (with_reducible first | exact HB.out | apply YA | apply YB | apply YC | refine below_set ?_ GE167.out) | exact HB.out))) : w.heap.size ≤ gb168)); have n5_ := YK ((by rw [hg]; exact Nat.ne_of_lt (blk_lt (g := gb167) (o := .cells #[.int .i64 a0_0, .slice A0_1 l0_1.length c0_1] 25 (0, 0)) (by (with_reducible repeat (first | refine YF ?_ _ | refine YG ?_ | refine YH ?_ _)); exact BK167.out)) : gb167 ≠ gb168)); have n6_ := YK ((by rw [hg]; exact Nat.ne_of_gt (blk_lt (g := gb167) (o := .cells #[.int .i64 a0_0, .slice A0_1 l0_1.length c0_1] 25 (0, 0)) (by (with_reducible repeat (first | refine YF ?_ _ | refine YG ?_ | refine YH ?_ _)); exact BK167.out)) : gb168 ≠ gb167)); clear BK167; clear HB; have BK167 := n0_; have HB := n1_; have BK168 := n2_; have GW168 := n3_; have GE168 := n4_; have NB167_168 := n5_; have NB168_167 := n6_; clear n0_ n1_ n2_ n3_ n4_ n5_ n6_; clear hb hbox hg))
 repeat (go_quiet (first | ((with_reducible refine gate_dst (N := 2) rfl ?_); (try (refine gate_guard (by rfl) ?_; dsimp only)); refine box_event ?hg (N := 2) ?hd (cs := #[.int .i64 a0_0, .slice A0_1 l0_1.length c0_1]) (t := 25) ?hr ?_; (case hd => rfl); (case hg => rfl); (case hr => first | (go_simp; done) | (go_simp; rfl)); intro gb167 hg w4 hbox hb; have n0_ := YK (YD (by repeat (first | (with_reducible first | exact HB.out | apply YA | apply YB | apply YC) | exact HB.out)) hb); have n1_ := YK (hbox); have n2_ := YK ((by rw [hg]; exact (YE (by repeat (first | (with_reducible first | exact HB.out | apply YA | apply YB | apply YC) | exact HB.out))) : w.heap.size ≤ gb167)); have n3_ := YK ((by rw [hg]; exact (YE (by repeat (first | (with_reducible first | exact HB.out | apply YA | apply YB | apply YC) | exact HB.out))) : w.heap.size ≤ gb167)); clear HB; have HB := n0_; have BK167 := n1_; have GW167 := n2_; have GE167 := n3_; clear n0_ n1_ n2_ n3_; clear hb hbox hg) | ((with_reducible refine gate_dst (N := 3) rfl ?_); (try (refine gate_guard (by rfl) ?_; dsimp only)); refine box_event ?hg (N := 3) ?hd (cs := #[.int .i64 a1_0, .slice A1_1 l1_1.length c1_1]) (t := 25) ?hr ?_; (case hd => rfl); (case hg => rfl); (case hr => first | (go_simp; done) | (go_simp; rfl)); intro gb168 hg w5 hbox hb; have n0_ := YK (blk_below (g := gb167) (o := .cells #[.int .i64 a0_0, .slice A0_1 l0_1.length c0_1] 25 (0, 0)) (by (with_reducible repeat (first | refine YF ?_ _ | refine YG ?_ | refine YH ?_ _)); exact BK167.out) hb); have n1_ := YK (YD (by repeat (first | (with_reducible first | exact HB.out | apply YA | apply YB | apply YC | refine below_set ?_ GE167.out) | exact HB.out)) hb); have n2_ := YK (hbox); have n3_ := YK ((by rw [hg]; exact (YE (by repeat (first | (with_reducible first | exact HB.out | apply YA | apply YB | apply YC | refine below_set ?_ GE167.out) | exact HB.out))) : w.heap.size ≤ gb168)); have n4_ := YK ((by rw [hg]; exact (YE (by repeat (first | (with_reducible first | exact HB.out | apply YA | apply YB | apply YC | refine below_set ?_ GE167.out) | exact HB.out))) : w.heap.size ≤ gb168)); have n5_ := YK ((by rw [hg]; exact Nat.ne_of_lt (blk_lt (g := gb167) (o := .cells #[.int .i64 a0_0, .slice A0_1 l0_1.length c0_1] 25 (0, 0)) (by (with_reducible repeat (first | refine YF ?_ _ | refine YG ?_ | refine YH ?_ _)); exact BK167.out)) : gb167 ≠ gb168)); have n6_ := YK ((by rw [hg]; exact Nat.ne_of_gt (blk_lt (g := gb167) (o := .cells #[.int .i64 a0_0, .slice A0_1 l0_1.length c0_1] 25 (0, 0)) (by (with_reducible repeat (first | refine YF ?_ _ | refine YG ?_ | refine YH ?_ _)); exact BK167.out)) : gb168 ≠ gb167)); clear BK167; clear HB; have BK167 := n0_; have HB := n1_; have BK168 := n2_; have GW168 := n3_; have GE168 := n4_; have NB167_168 := n5_; have NB168_167 := n6_; clear n0_ n1_ n2_ n3_ n4_ n5_ n6_; clear hb hbox hg)); go_upto_region 1 with (first | ((with_reducible refine gate_dst (N := 2) rfl ?_); (try (refine gate_guard (by rfl) ?_; dsimp only)); refine box_event ?hg (N := 2) ?hd (cs := #[.int .i64 a0_0, .slice A0_1 l0_1.length c0_1]) (t := 25) ?hr ?_; (case hd => rfl); (case hg => rfl); (case hr => first | (go_simp; done) | (go_simp; rfl)); intro gb167 hg w4 hbox hb; have n0_ := YK (YD (by repeat (first | (with_reducible first | exact HB.out | apply YA | apply YB | apply YC) | exact HB.out)) hb); have n1_ := YK (hbox); have n2_ := YK ((by rw [hg]; exact (YE (by repeat (first | (with_reducible first | exact HB.out | apply YA | apply YB | apply YC) | exact HB.out))) : w.heap.size ≤ gb167)); have n3_ := YK ((by rw [hg]; exact (YE (by repeat (first | (with_reducible first | exact HB.out | apply YA | apply YB | apply YC) | exact HB.out))) : w.heap.size ≤ gb167)); clear HB; have HB := n0_; have BK167 := n1_; have GW167 := n2_; have GE167 := n3_; clear n0_ n1_ n2_ n3_; clear hb hbox hg) | ((with_reducible refine gate_dst (N := 3) rfl ?_); (try (refine gate_guard (by rfl) ?_; dsimp only)); refine box_event ?hg (N := 3) ?hd (cs := #[.int .i64 a1_0, .slice A1_1 l1_1.length c1_1]) (t := 25) ?hr ?_; (case hd => rfl); (case hg => rfl); (case hr => first | (go_simp; done) | (go_simp; rfl)); intro gb168 hg w5 hbox hb; have n0_ := YK (blk_below (g := gb167) (o := .cells #[.int .i64 a0_0, .slice A0_1 l0_1.length c0_1] 25 (0, 0)) (by (with_reducible repeat (first | refine YF ?_ _ | refine YG ?_ | refine YH ?_ _)); exact BK167.out) hb); have n1_ := YK (YD (by repeat (first | (with_reducible first | exact HB.out | apply YA | apply YB | apply YC | refine below_set ?_ GE167.out) | exact HB.out)) hb); have n2_ := YK (hbox); have n3_ := YK ((by rw [hg]; exact (YE (by repeat (first | (with_reducible first | exact HB.out | apply YA | apply YB | apply YC | refine below_set ?_ GE167.out) | exact HB.out))) : w.heap.size ≤ gb168)); have n4_ := YK ((by rw [hg]; exact (YE (by repeat (first | (with_reducible first | exact HB.out | apply YA | apply YB | apply YC | refine below_set ?_ GE167.out) | exact HB.out))) : w.heap.size ≤ gb168)); have n5_ := YK ((by rw [hg]; exact Nat.ne_of_lt (blk_lt (g := gb167) (o := .cells #[.int .i64 a0_0, .slice A0_1 l0_1.length c0_1] 25 (0, 0)) (by (with_reducible repeat (first | refine YF ?_ _ | refine YG ?_ | refine YH ?_ _)); exact BK167.out)) : gb167 ≠ gb168)); have n6_ := YK ((by rw [hg]; exact Nat.ne_of_gt (blk_lt (g := gb167) (o := .cells #[.int .i64 a0_0, .slice A0_1 l0_1.length c0_1] 25 (0, 0)) (by (with_reducible repeat (first | refine YF ?_ _ | refine YG ?_ | refine YH ?_ _)); exact BK167.out)) : gb168 ≠ gb167)); clear BK167; clear HB; have BK167 := n0_; have HB := n1_; have BK168 := n2_; have GW168 := n3_; have GE168 := n4_; have NB167_168 := n5_; have NB168_167 := n6_; clear n0_ n1_ n2_ n3_ n4_ n5_ n6_; clear hb hbox hg)))
 (try simp only [Act.put, List.setIfInBounds_toArray, List.set_cons_zero, List.set_cons_succ])
 go_cut [19] (fun v19 wc => ∃ (kq : Nat) (x19_2 : Bool), v19 = .bool x19_2 ∧ Aside0 (thalwegref06_Same.j0 kq x19_2 a0_0 l0_1 a1_0 l1_1 = some r) ∧ Aside0 (kq ≤ k) ∧ Aside0 (wc.heap[gb167]? = some (.cells #[.int .i64 a0_0, (.slice A0_1 l0_1.length c0_1)] 25 (0, 0))) ∧ Aside0 (wc.heap[gb168]? = some (.cells #[.int .i64 a1_0, (.slice A1_1 l1_1.length c1_1)] 25 (0, 0))) ∧ Aside0 (Below w.heap.size w wc))
 case first =>
  have H := HC3.out
  clear HC3
  by_cases c6 : a0_0 = a1_0
  ·rw [if_pos c6] at H
   have c6b0 : (a0_0 == a1_0) = true := beq_iff_eq.mpr c6
   have c6b1 : (a0_0 != a1_0) = false := bne_eq_false_iff_eq.mpr c6
   clear c6
   (first | rw [c6b0] | (simp only [i64_w, i32_w]; rw [c6b0]) | rw [c6b1] | skip)
   have H' := YK H
   clear H
   have hnb7 := NB167_168.out
   have hnc7 := NB168_167.out
   have q8_0 : w5.cell? ⟨gb167, 0, none⟩ = some (.int .i64 a0_0) := (YI BK167.out 0).trans rfl
   have q8_1 : w5.cell? ⟨gb167, 1, none⟩ = some (.slice A0_1 l0_1.length c0_1) := (YI BK167.out 1).trans rfl
   have f8_0 := YJ BK167.out 0
   have f8_1 := YJ BK167.out 1
   have q9_0 : w5.cell? ⟨gb168, 0, none⟩ = some (.int .i64 a1_0) := (YI BK168.out 0).trans rfl
   have q9_1 : w5.cell? ⟨gb168, 1, none⟩ = some (.slice A1_1 l1_1.length c1_1) := (YI BK168.out 1).trans rfl
   have f9_0 := YJ BK168.out 0
   have f9_1 := YJ BK168.out 1
   go_wp2
   repeat (go_quiet (fail); try go_wp2)
   go_meet
   case rel => exact ⟨_, (((l0_1.length : Int) != (l1_1.length : Int))), (by first | rfl | (simp; done) | (simp [*]; done)), H', ⟨by first | omega | exact Nat.le_refl _⟩, ⟨by (with_reducible repeat (first | refine YF ?_ _ | refine YG ?_ | refine YH ?_ _)); exact BK167.out⟩, ⟨by (with_reducible repeat (first | refine YF ?_ _ | refine YG ?_ | refine YH ?_ _)); exact BK168.out⟩, ⟨by repeat (first | (with_reducible first | exact HB.out | apply YA | apply YB | apply YC | refine below_set ?_ GE167.out | refine below_set ?_ GE168.out) | exact HB.out)⟩⟩
  rw [if_neg c6] at H
  have c6b0 : (a0_0 == a1_0) = false := beq_eq_false_iff_ne.mpr c6
  have c6b1 : (a0_0 != a1_0) = true := bne_iff_ne.mpr c6
  (first | rw [c6b0] | (simp only [i64_w, i32_w]; rw [c6b0]) | rw [c6b1] | skip)
  have H' := YK H
  clear H
  have hnb10 := NB167_168.out
  have hnc10 := NB168_167.out
  have q11_0 : w5.cell? ⟨gb167, 0, none⟩ = some (.int .i64 a0_0) := (YI BK167.out 0).trans rfl
  have q11_1 : w5.cell? ⟨gb167, 1, none⟩ = some (.slice A0_1 l0_1.length c0_1) := (YI BK167.out 1).trans rfl
  have f11_0 := YJ BK167.out 0
  have f11_1 := YJ BK167.out 1
  have q12_0 : w5.cell? ⟨gb168, 0, none⟩ = some (.int .i64 a1_0) := (YI BK168.out 0).trans rfl
  have q12_1 : w5.cell? ⟨gb168, 1, none⟩ = some (.slice A1_1 l1_1.length c1_1) := (YI BK168.out 1).trans rfl
  have f12_0 := YJ BK168.out 0
  have f12_1 := YJ BK168.out 1
  go_wp2
  repeat (go_quiet (fail); try go_wp2)
  go_meet
  case rel => exact ⟨_, (true), (by first | rfl | (simp; done) | (simp [*]; done)), H', ⟨by first | omega | exact Nat.le_refl _⟩, ⟨by (with_reducible repeat (first | refine YF ?_ _ | refine YG ?_ | refine YH ?_ _)); exact BK167.out⟩, ⟨by (with_reducible repeat (first | refine YF ?_ _ | refine YG ?_ | refine YH ?_ _)); exact BK168.out⟩, ⟨by repeat (first | (with_reducible first | exact HB.out | apply YA | apply YB | apply YC | refine below_set ?_ GE167.out | refine below_set ?_ GE168.out) | exact HB.out)⟩⟩
 case rest =>
  clear HC3
  try clear c1; try clear p2
  try clear c6; try clear c6b0
  try clear c6b1; try clear c7
  try clear c10; try clear c11
  try clear q11_0; try clear q11_1
  try clear q12_0; try clear q12_1
  try clear q8_0; try clear q8_1
  try clear q9_0; try clear q9_1
  try clear f11_0; try clear f11_1
  try clear f12_0; try clear f12_1
  try clear f8_0; try clear f8_1
  try clear f9_0; try clear f9_1
  obtain ⟨kq, x19_2, rfl, HA, HJ2, BK167, BK168, HB⟩ := hcut
  cases kq with
  | zero => exact absurd HA.out (by simp [thalwegref06_Same.j0])
  | succ kj2 =>
   have H := HA.out
   clear HA
   simp only [thalwegref06_Same.j0] at H
   by_cases c13 : x19_2 = true
   ·subst c13
    have H1 : (some false) = some r := by rw [if_pos rfl] at H; exact H
    clear H
    have H := H1
    clear H1
    obtain rfl := Option.some.inj H
    go_wp2
    repeat (go_quiet (fail); try go_wp2)
    go_ret
    exact ⟨by first | rfl | (simp [errW_none, errW_some] <;> rfl) | (simp [*, errW_none, errW_some] <;> rfl), by repeat (first | (with_reducible first | exact HB.out | apply YA | apply YB | apply YC | refine below_set ?_ GE167.out | refine below_set ?_ GE168.out) | exact HB.out)⟩
   replace c13 := Bool.eq_false_iff.mpr c13
   subst c13
   have H1 : (thalwegref06_Same.l0 kj2 0 a0_0 l0_1 a1_0 l1_1) = some r := by rw [if_neg (show ¬ (false = true) by decide)] at H; exact H
   clear H
   have H := H1
   clear H1
   have H' := YK H
   clear H
   go_wp2
   repeat (go_quiet (fail); try go_wp2)
   go_loopg [5] kj2 (fun kq v5 w' => ∃ (x5_2 : Int), v5 = .int .i64 x5_2 ∧ Aside0 (thalwegref06_Same.l0 kq x5_2 a0_0 l0_1 a1_0 l1_1 = some r) ∧ Aside0 (kq ≤ kj2) ∧ Aside0 (w'.heap[gb167]? = some (.cells #[.int .i64 a0_0, (.slice A0_1 l0_1.length c0_1)] 25 (0, 0))) ∧ Aside0 (w'.heap[gb168]? = some (.cells #[.int .i64 a1_0, (.slice A1_1 l1_1.length c1_1)] 25 (0, 0))) ∧ Aside0 (Below w.heap.size w w'))
   case atStart => exact ⟨(0), (by first | rfl | (simp; done) | (simp [*]; done)), H', ⟨Nat.le_refl _⟩, ⟨by (with_reducible repeat (first | refine YF ?_ _ | refine YG ?_ | refine YH ?_ _)); exact BK167.out⟩, ⟨by (with_reducible repeat (first | refine YF ?_ _ | refine YG ?_ | refine YH ?_ _)); exact BK168.out⟩, ⟨by repeat (first | (with_reducible first | exact HB.out | apply YA | apply YB | apply YC | refine below_set ?_ GE167.out | refine below_set ?_ GE168.out) | exact HB.out)⟩⟩
   case round =>
    clear H'
    try clear c1; try clear p2
    try clear c6; try clear c6b0
    try clear c6b1; try clear c7
    try clear c10; try clear c11
    try clear c13; try clear q11_0
    try clear q11_1; try clear q12_0
    try clear q12_1; try clear q8_0
    try clear q8_1; try clear q9_0
    try clear q9_1; try clear f11_0
    try clear f11_1; try clear f12_0
    try clear f12_1; try clear f8_0
    try clear f8_1; try clear f9_0
    try clear f9_1; try clear p2
    obtain ⟨x5_2, rfl, HA, HK2, BK167, BK168, HB⟩ := hrel
    cases gk with
    | zero => exact absurd HA.out (by simp [thalwegref06_Same.l0])
    | succ k2 =>
     have H := HA.out
     clear HA
     simp only [thalwegref06_Same.l0] at H
     by_cases c14 : x5_2 < (l0_1.length : Int)
     ·rw [if_pos c14] at H
      have c14b0 : decide (x5_2 < (l0_1.length : Int)) = true := decide_eq_true c14
      clear c14
      by_cases c15 : 0 ≤ x5_2
      rotate_left
      ·rw [if_neg c15] at H
       exact absurd H (by simp)
      rw [if_pos c15] at H; have c15b0 : decide (0 ≤ x5_2) = true := decide_eq_true c15; clear c15
      by_cases c16 : x5_2 < (l1_1.length : Int)
      rotate_left
      ·rw [if_neg c16] at H
       exact absurd H (by simp)
      rw [if_pos c16] at H
      have c16b0 : decide (x5_2 < (l1_1.length : Int)) = true := decide_eq_true c16
      clear c16
      by_cases c17 : (!(((rd_T59 l0_1 x5_2).f0) == ((rd_T59 l1_1 x5_2).f0)) || (!(((rd_T59 l0_1 x5_2).f1) == ((rd_T59 l1_1 x5_2).f1)))) = true
      ·rw [if_pos c17] at H
       have c17b0 : (!(((rd_T59 l0_1 x5_2).f0) == ((rd_T59 l1_1 x5_2).f0)) || (!(((rd_T59 l0_1 x5_2).f1) == ((rd_T59 l1_1 x5_2).f1)))) = true := c17
       clear c17
       obtain rfl := Option.some.inj H
       have hnb18 := NB167_168.out
       have hnc18 := NB168_167.out
       have q19_0 : wr.cell? ⟨gb167, 0, none⟩ = some (.int .i64 a0_0) := (YI BK167.out 0).trans rfl
       have q19_1 : wr.cell? ⟨gb167, 1, none⟩ = some (.slice A0_1 l0_1.length c0_1) := (YI BK167.out 1).trans rfl
       have f19_0 := YJ BK167.out 0
       have f19_1 := YJ BK167.out 1
       have p169 : 0 ≤ (x5_2 : Int) := of_decide_eq_true (by first | (with_reducible assumption) | assumption)
       have q169 : x5_2 < (l0_1.length : Int) := of_decide_eq_true (by first | (with_reducible assumption) | assumption)
       obtain ⟨ad169, e169, hx169_0, hx169_1⟩ := at_T59 HR0_1.out x5_2 p169 q169
       cases e169
       replace hx169_0 := (HB.out.cell (World.block_lt_of_cell? w _ hx169_0)).trans hx169_0
       replace hx169_1 := (HB.out.cell (World.block_lt_of_cell? w _ hx169_1)).trans hx169_1
       replace p169 := eq_true p169
       replace q169 := eq_true q169
       have q20_0 : wr.cell? ⟨gb168, 0, none⟩ = some (.int .i64 a1_0) := (YI BK168.out 0).trans rfl
       have q20_1 : wr.cell? ⟨gb168, 1, none⟩ = some (.slice A1_1 l1_1.length c1_1) := (YI BK168.out 1).trans rfl
       have f20_0 := YJ BK168.out 0
       have f20_1 := YJ BK168.out 1
       have p170 : 0 ≤ (x5_2 : Int) := of_decide_eq_true (by first | (with_reducible assumption) | assumption)
       have q170 : x5_2 < (l1_1.length : Int) := of_decide_eq_true (by first | (with_reducible assumption) | assumption)
       obtain ⟨ad170, e170, hx170_0, hx170_1⟩ := at_T59 HR1_1.out x5_2 p170 q170
       cases e170
       replace hx170_0 := (HB.out.cell (World.block_lt_of_cell? w _ hx170_0)).trans hx170_0
       replace hx170_1 := (HB.out.cell (World.block_lt_of_cell? w _ hx170_1)).trans hx170_1
       replace p170 := eq_true p170
       replace q170 := eq_true q170
       go_wp2
       repeat (go_quiet (fail); try go_wp2)
       go_ret
       exact ⟨by first | rfl | (simp [errW_none, errW_some] <;> rfl) | (simp [*, errW_none, errW_some] <;> rfl), by repeat (first | (with_reducible first | exact HB.out | apply YA | apply YB | apply YC | refine below_set ?_ GE167.out | refine below_set ?_ GE168.out) | exact HB.out)⟩
      rw [if_neg c17] at H
      have c17b0 : (!(((rd_T59 l0_1 x5_2).f0) == ((rd_T59 l1_1 x5_2).f0)) || (!(((rd_T59 l0_1 x5_2).f1) == ((rd_T59 l1_1 x5_2).f1)))) = false := by simpa using c17
      clear c17
      have H' := YK H
      clear H
      have hnb21 := NB167_168.out
      have hnc21 := NB168_167.out
      have q22_0 : wr.cell? ⟨gb167, 0, none⟩ = some (.int .i64 a0_0) := (YI BK167.out 0).trans rfl
      have q22_1 : wr.cell? ⟨gb167, 1, none⟩ = some (.slice A0_1 l0_1.length c0_1) := (YI BK167.out 1).trans rfl
      have f22_0 := YJ BK167.out 0
      have f22_1 := YJ BK167.out 1
      have p169 : 0 ≤ (x5_2 : Int) := of_decide_eq_true (by first | (with_reducible assumption) | assumption)
      have q169 : x5_2 < (l0_1.length : Int) := of_decide_eq_true (by first | (with_reducible assumption) | assumption)
      obtain ⟨ad169, e169, hx169_0, hx169_1⟩ := at_T59 HR0_1.out x5_2 p169 q169
      cases e169
      replace hx169_0 := (HB.out.cell (World.block_lt_of_cell? w _ hx169_0)).trans hx169_0
      replace hx169_1 := (HB.out.cell (World.block_lt_of_cell? w _ hx169_1)).trans hx169_1
      replace p169 := eq_true p169
      replace q169 := eq_true q169
      have q23_0 : wr.cell? ⟨gb168, 0, none⟩ = some (.int .i64 a1_0) := (YI BK168.out 0).trans rfl
      have q23_1 : wr.cell? ⟨gb168, 1, none⟩ = some (.slice A1_1 l1_1.length c1_1) := (YI BK168.out 1).trans rfl
      have f23_0 := YJ BK168.out 0
      have f23_1 := YJ BK168.out 1
      have p170 : 0 ≤ (x5_2 : Int) := of_decide_eq_true (by first | (with_reducible assumption) | assumption)
      have q170 : x5_2 < (l1_1.length : Int) := of_decide_eq_true (by first | (with_reducible assumption) | assumption)
      obtain ⟨ad170, e170, hx170_0, hx170_1⟩ := at_T59 HR1_1.out x5_2 p170 q170
      cases e170
      replace hx170_0 := (HB.out.cell (World.block_lt_of_cell? w _ hx170_0)).trans hx170_0
      replace hx170_1 := (HB.out.cell (World.block_lt_of_cell? w _ hx170_1)).trans hx170_1
      replace p170 := eq_true p170
      replace q170 := eq_true q170
      go_wp2
      repeat (go_quiet (fail); try go_wp2)
      go_roundg k2
      case measure => have := HJ2.out; have := HK2.out; omega
      case rel => exact ⟨(wrap64 (x5_2 + 1)), (by first | rfl | (simp; done) | (simp [*]; done)), H', ⟨by have := HJ2.out; have := HK2.out; omega⟩, ⟨by (with_reducible repeat (first | refine YF ?_ _ | refine YG ?_ | refine YH ?_ _)); exact BK167.out⟩, ⟨by (with_reducible repeat (first | refine YF ?_ _ | refine YG ?_ | refine YH ?_ _)); exact BK168.out⟩, ⟨by repeat (first | (with_reducible first | exact HB.out | apply YA | apply YB | apply YC | refine below_set ?_ GE167.out | refine below_set ?_ GE168.out) | exact HB.out)⟩⟩
     rw [if_neg c14] at H
     have c14b0 : decide (x5_2 < (l0_1.length : Int)) = false := decide_eq_false c14
     clear c14
     obtain rfl := Option.some.inj H
     have hnb24 := NB167_168.out
     have hnc24 := NB168_167.out
     have q25_0 : wr.cell? ⟨gb167, 0, none⟩ = some (.int .i64 a0_0) := (YI BK167.out 0).trans rfl
     have q25_1 : wr.cell? ⟨gb167, 1, none⟩ = some (.slice A0_1 l0_1.length c0_1) := (YI BK167.out 1).trans rfl
     have f25_0 := YJ BK167.out 0
     have f25_1 := YJ BK167.out 1
     go_wp2
     repeat (go_quiet (fail); try go_wp2)
     go_ret
     exact ⟨by first | rfl | (simp [errW_none, errW_some] <;> rfl) | (simp [*, errW_none, errW_some] <;> rfl), by repeat (first | (with_reducible first | exact HB.out | apply YA | apply YB | apply YC | refine below_set ?_ GE167.out | refine below_set ?_ GE168.out) | exact HB.out)⟩
end Go.Proofs.Ytaiklcpmlkpfjaa.P
namespace Go.Proofs.Ytaiklcpmlkpfjaa.P
open Go.RowKit YtaiklcpmlkpfjaaW.PrintWords YtaiklcpmlkpfjaaW.PrintLast YtaiklcpmlkpfjaaW.PrintMore
open YtaiklcpmlkpfjaaW.PrintWords renaming below_alloc → YA, pw_below_drewN → YB, below_drew1 → YC, below_size → YD, blk_drewN → YE, blk_drew → YF, blk_alloc → YG, blk_cell → YH, blk_frozen → YI
open YtaiklcpmlkpfjaaW.PrintWords.Aside0 renaming mk → YJ
attribute [local go_sem] max2_int min2_int max_two min_two max_three min_three max_four min_four
def thalwegref06_Own.f (a0_0 : Int) (l0_1 : List (S59)) : Option (Int × (List (S59))) := if ([] : List (S59)).length + l0_1.length < 8796093022208 then (some (a0_0, (([] : List (S59)) ++ l0_1))) else (none)
theorem thalwegref06_Own.calls (a0_0 : Int) (A0_1 : Option Addr) (c0_1 : Nat) (l0_1 : List (S59)) (r1 : Int) (r2 : List (S59)) (w : World) (hr0_1 : Kd.C k59 w A0_1 l0_1.length l0_1) (hc0_1 : l0_1.length ≤ c0_1) (h : thalwegref06_Own.f a0_0 l0_1 = some (r1, r2)) :
  Calls Try.prog 15 #[.agg #[.int .i64 a0_0, .slice A0_1 l0_1.length c0_1]] w fun e w' => ∃ v1_ : Value, e = .returned (.agg #[.int .i64 r1, v1_]) ∧ Kd.R k59 59 w' w.heap.size (fun _ => True) v1_ r2 ∧ Below w.heap.size w w' := by
 have hu25 := Try.underlying25
 have HR0_1 := YJ hr0_1; have HC0_1 := YJ hc0_1; clear hr0_1 hc0_1
 have HB := YJ (Below.refl w.heap.size w)
 have H : (if ([] : List (S59)).length + l0_1.length < 8796093022208 then (some (a0_0, (([] : List (S59)) ++ l0_1))) else (none)) = some (r1, r2) := h
 clear h
 by_cases c2 : ([] : List (S59)).length + l0_1.length < 8796093022208
 rotate_left
 ·rw [if_neg c2] at H
  exact absurd H (by simp)
 rw [if_pos c2] at H; have LMc2 := YJ c2; clear c2
 obtain ⟨y271, hy271⟩ : ∃ y_ : List (S59), y_ = (([] : List (S59)) ++ l0_1) := ⟨_, rfl⟩
 replace H : (some (a0_0, y271)) = some (r1, r2) := by first | (rw [hy271]; with_reducible exact H) | (have H2_ := (Option.bind_some _ _).symm.trans H; rw [hy271]; with_reducible exact H2_) | (have H2_ := (Option.bind_some _ _).symm.trans H; with_reducible exact H2_) | with_reducible exact H | (rw [hy271]; exact H) | exact H
 have Ny271 := YJ hy271; clear hy271
 simp only [Option.some.injEq, Prod.mk.injEq] at H
 obtain ⟨rfl, rfl⟩ := H
 go_enter Try.func15, Try.ntmps15
 go_wp2_with (first | ((with_reducible refine gate_dst (N := 1) rfl ?_); refine box_event ?hg (N := 1) ?hd (cs := #[.int .i64 a0_0, .slice A0_1 l0_1.length c0_1]) (t := 25) ?hr ?_; (case hd => rfl); (case hg => rfl); (case hr => first | (go_simp; done) | (go_simp; rfl)); intro gb268 hg w3 hbox hb; have n0_ := YJ (below_step (by repeat (first | (with_reducible first | exact HB.out | apply YA | apply YB | apply YC) | exact HB.out)) hb); have n1_ := YJ (hbox); have n2_ := YJ ((by rw [hg]; exact (YD (by repeat (first | (with_reducible first | exact HB.out | apply YA | apply YB | apply YC) | exact HB.out))) : w.heap.size ≤ gb268)); have n3_ := YJ ((by rw [hg]; exact (YD (by repeat (first | (with_reducible first | exact HB.out | apply YA | apply YB | apply YC) | exact HB.out))) : w.heap.size ≤ gb268)); clear HB; have HB := n0_; have BK268 := n1_; have GW268 := n2_; have GE268 := n3_; clear n0_ n1_ n2_ n3_; clear hb hbox hg) | ((with_reducible refine gate_dst (N := 2) rfl ?_); refine box_event ?hg (N := 2) ?hd (cs := #[.int .i64 0, .slice none 0 0]) (t := 25) ?hr ?_; (case hd => rfl); (case hg => rfl); (case hr => first | (go_simp; done) | (go_simp; rfl)); intro gb269 hg w4 hbox hb; have n0_ := YJ (blk_below (g := gb268) (o := .cells #[.int .i64 a0_0, .slice A0_1 l0_1.length c0_1] 25 (0, 0)) (by (with_reducible repeat (first | refine YE ?_ _ | refine YF ?_ | refine YG ?_ _)); exact BK268.out) hb); have n1_ := YJ (below_step (by repeat (first | (with_reducible first | exact HB.out | apply YA | apply YB | apply YC | refine below_set ?_ GE268.out) | exact HB.out)) hb); have n2_ := YJ (hbox); have n3_ := YJ ((by rw [hg]; exact (YD (by repeat (first | (with_reducible first | exact HB.out | apply YA | apply YB | apply YC | refine below_set ?_ GE268.out) | exact HB.out))) : w.heap.size ≤ gb269)); have n4_ := YJ ((by rw [hg]; exact (YD (by repeat (first | (with_reducible first | exact HB.out | apply YA | apply YB | apply YC | refine below_set ?_ GE268.out) | exact HB.out))) : w.heap.size ≤ gb269)); have n5_ := YJ ((by rw [hg]; exact Nat.ne_of_lt (blk_lt (g := gb268) (o := .cells #[.int .i64 a0_0, .slice A0_1 l0_1.length c0_1] 25 (0, 0)) (by (with_reducible repeat (first | refine YE ?_ _ | refine YF ?_ | refine YG ?_ _)); exact BK268.out)) : gb268 ≠ gb269)); have n6_ := YJ ((by rw [hg]; exact Nat.ne_of_gt (blk_lt (g := gb268) (o := .cells #[.int .i64 a0_0, .slice A0_1 l0_1.length c0_1] 25 (0, 0)) (by (with_reducible repeat (first | refine YE ?_ _ | refine YF ?_ | refine YG ?_ _)); exact BK268.out)) : gb269 ≠ gb268)); clear BK268; clear HB; have BK268 := n0_; have HB := n1_; have BK269 := n2_; have GW269 := n3_; have GE269 := n4_; have NB268_269 := n5_; have NB269_268 := n6_; clear n0_ n1_ n2_ n3_ n4_ n5_ n6_; clear hb hbox hg; have hnb5 := NB268_269.out; have hnc5 := NB269_268.out; have q6_0 : w4.cell? ⟨gb268, 0, none⟩ = some (.int .i64 a0_0) := (YH BK268.out 0).trans rfl; have q6_1 : w4.cell? ⟨gb268, 1, none⟩ = some (.slice A0_1 l0_1.length c0_1) := (YH BK268.out 1).trans rfl; have f6_0 := YI BK268.out 0; have f6_1 := YI BK268.out 1) | ((with_reducible refine gate_dst (N := 3) rfl ?_); refine box_event ?hg (N := 3) ?hd (cs := #[.int .i64 0, .slice none 0 0]) (t := 25) ?hr ?_; (case hd => rfl); (case hg => rfl); (case hr => first | (go_simp; done) | (go_simp; rfl)); intro gb270 hg w7 hbox hb; have n0_ := YJ (blk_below (g := gb268) (o := .cells #[.int .i64 a0_0, .slice A0_1 l0_1.length c0_1] 25 (0, 0)) (by (with_reducible repeat (first | refine YE ?_ _ | refine YF ?_ | refine YG ?_ _)); exact BK268.out) hb); have n1_ := YJ (blk_below (g := gb269) (o := .cells #[.int .i64 0, .slice none 0 0] 25 (0, 0)) (by (with_reducible repeat (first | refine YE ?_ _ | refine YF ?_ | refine YG ?_ _)); exact BK269.out) hb); have n2_ := YJ (below_step (by repeat (first | (with_reducible first | exact HB.out | apply YA | apply YB | apply YC | refine below_set ?_ GE268.out | refine below_set ?_ GE269.out) | exact HB.out)) hb); have n3_ := YJ (hbox); have n4_ := YJ ((by rw [hg]; exact (YD (by repeat (first | (with_reducible first | exact HB.out | apply YA | apply YB | apply YC | refine below_set ?_ GE268.out | refine below_set ?_ GE269.out) | exact HB.out))) : w.heap.size ≤ gb270)); have n5_ := YJ ((by rw [hg]; exact (YD (by repeat (first | (with_reducible first | exact HB.out | apply YA | apply YB | apply YC | refine below_set ?_ GE268.out | refine below_set ?_ GE269.out) | exact HB.out))) : w.heap.size ≤ gb270)); have n6_ := YJ ((by rw [hg]; exact Nat.ne_of_lt (blk_lt (g := gb268) (o := .cells #[.int .i64 a0_0, .slice A0_1 l0_1.length c0_1] 25 (0, 0)) (by (with_reducible repeat (first | refine YE ?_ _ | refine YF ?_ | refine YG ?_ _)); exact BK268.out)) : gb268 ≠ gb270)); have n7_ := YJ ((by rw [hg]; exact Nat.ne_of_gt (blk_lt (g := gb268) (o := .cells #[.int .i64 a0_0, .slice A0_1 l0_1.length c0_1] 25 (0, 0)) (by (with_reducible repeat (first | refine YE ?_ _ | refine YF ?_ | refine YG ?_ _)); exact BK268.out)) : gb270 ≠ gb268)); have n8_ := YJ ((by rw [hg]; exact Nat.ne_of_lt (blk_lt (g := gb269) (o := .cells #[.int .i64 0, .slice none 0 0] 25 (0, 0)) (by (with_reducible repeat (first | refine YE ?_ _ | refine YF ?_ | refine YG ?_ _)); exact BK269.out)) : gb269 ≠ gb270)); have n9_ := YJ ((by rw [hg]; exact Nat.ne_of_gt (blk_lt (g := gb269) (o := .cells #[.int .i64 0, .slice none 0 0] 25 (0, 0)) (by (with_reducible repeat (first | refine YE ?_ _ | refine YF ?_ | refine YG ?_ _)); exact BK269.out)) : gb270 ≠ gb269)); clear BK268; clear BK269; clear HB; have BK268 := n0_; have BK269 := n1_; have HB := n2_; have BK270 := n3_; have GW270 := n4_; have GE270 := n5_; have NB268_270 := n6_; have NB270_268 := n7_; have NB269_270 := n8_; have NB270_269 := n9_; clear n0_ n1_ n2_ n3_ n4_ n5_ n6_ n7_ n8_ n9_; clear hb hbox hg; have hnb8 := NB270_268.out; have hnc8 := NB268_270.out; have hnb9 := NB270_269.out; have hnc9 := NB269_270.out; have q10_0 : w7.cell? ⟨gb270, 0, none⟩ = some (.int .i64 0) := (YH BK270.out 0).trans rfl; have q10_1 : w7.cell? ⟨gb270, 1, none⟩ = some (.slice none 0 0) := (YH BK270.out 1).trans rfl; have f10_0 := YI BK270.out 0; have f10_1 := YI BK270.out 1; have q11_0 : w7.cell? ⟨gb268, 0, none⟩ = some (.int .i64 a0_0) := (YH BK268.out 0).trans rfl; have q11_1 : w7.cell? ⟨gb268, 1, none⟩ = some (.slice A0_1 l0_1.length c0_1) := (YH BK268.out 1).trans rfl; have f11_0 := YI BK268.out 0; have f11_1 := YI BK268.out 1) | ((with_reducible refine gate_builtin (b := .append) (xs := #[.tmp 8, .tmp 10]) rfl ?_); at_builtin; refine Kd.R_append_rows k59 (w0 := w) w.heap.size rfl (.tmp 8) (.tmp 10) 23 59 (.agg #[(.int .i64 0), (.int .i64 0)]) 16 rfl Try.underlying23 info59 rfl (by decide) (by omega) (.slice none 0 0) ([] : List (S59)) l0_1 _ _ _ (fun _ => True) (fun _ => False) rfl rfl ?aO ?aR (fun _ _ h => h) (fun _ h => h.elim) ?aF ?aB ?aS ?aL ?_; (case aR => exact Kd.C_below HR0_1.out (by repeat (first | (with_reducible first | exact HB.out | apply YA | apply YB | apply YC | refine below_set ?_ GE268.out | refine below_set ?_ GE269.out | refine below_set ?_ GE270.out) | exact HB.out))); (case aB => exact (by repeat (first | (with_reducible first | exact HB.out | apply YA | apply YB | apply YC | refine below_set ?_ GE268.out | refine below_set ?_ GE269.out | refine below_set ?_ GE270.out) | exact HB.out))); (case aF => exact (fun _ _ => trivial)); (case aO => exact ((Kd.R_nil _ _ _ _ (fun _ => True)))); (case aS => exact (YD (by repeat (first | (with_reducible first | exact HB.out | apply YA | apply YB | apply YC | refine below_set ?_ GE268.out | refine below_set ?_ GE269.out | refine below_set ?_ GE270.out) | exact HB.out)))); (case aL => have := LMc2.out; omega); intro v272 w12 ho hb hg hat; rw [← Ny271.out] at ho; have n0_ := YJ (blk_grown (g := gb268) (o := .cells #[.int .i64 a0_0, .slice A0_1 l0_1.length c0_1] 25 (0, 0)) (by (with_reducible repeat (first | refine YE ?_ _ | refine YF ?_ | refine YG ?_ _)); refine blk_far ?_ NB268_270.out _; (with_reducible repeat (first | refine YE ?_ _ | refine YF ?_ | refine YG ?_ _)); refine blk_far ?_ NB268_270.out _; (with_reducible repeat (first | refine YE ?_ _ | refine YF ?_ | refine YG ?_ _)); exact BK268.out) hg (by simp [Value.ownBlock])); have n1_ := YJ (blk_grown (g := gb269) (o := .cells #[.int .i64 0, .slice none 0 0] 25 (0, 0)) (by (with_reducible repeat (first | refine YE ?_ _ | refine YF ?_ | refine YG ?_ _)); refine blk_far ?_ NB269_270.out _; (with_reducible repeat (first | refine YE ?_ _ | refine YF ?_ | refine YG ?_ _)); refine blk_far ?_ NB269_270.out _; (with_reducible repeat (first | refine YE ?_ _ | refine YF ?_ | refine YG ?_ _)); exact BK269.out) hg (by simp [Value.ownBlock])); have n2_ := YJ (blk_grown (g := gb270) (o := .cells #[.int .i64 a0_0, .slice none 0 0] 25 (0, 0)) (by (with_reducible repeat (first | refine YE ?_ _ | refine YF ?_ | refine YG ?_ _)); refine blk_put (cs := #[.int .i64 a0_0, .slice none 0 0]) ?_ 1 _ rfl; (with_reducible repeat (first | refine YE ?_ _ | refine YF ?_ | refine YG ?_ _)); refine blk_put (cs := #[.int .i64 0, .slice none 0 0]) ?_ 0 _ rfl; (with_reducible repeat (first | refine YE ?_ _ | refine YF ?_ | refine YG ?_ _)); exact BK270.out) hg (by simp [Value.ownBlock])); have n3_ := YJ (hb); have n4_ := YJ (ho); clear BK268; clear BK269; clear BK270; clear HB; have BK268 := n0_; have BK269 := n1_; have BK270 := n2_; have HB := n3_; have HO273 := n4_; clear n0_ n1_ n2_ n3_ n4_; clear ho hb hg hat; obtain ⟨Ao13, co13, eo13⟩ := Kd.R_slice HO273.out; subst eo13; have q14_0 : w12.cell? ⟨gb270, 0, none⟩ = some (.int .i64 a0_0) := (YH BK270.out 0).trans rfl; have q14_1 : w12.cell? ⟨gb270, 1, none⟩ = some (.slice none 0 0) := (YH BK270.out 1).trans rfl; have f14_0 := YI BK270.out 0; have f14_1 := YI BK270.out 1; have q15_0 : w12.cell? ⟨gb269, 0, none⟩ = some (.int .i64 0) := (YH BK269.out 0).trans rfl; have q15_1 : w12.cell? ⟨gb269, 1, none⟩ = some (.slice none 0 0) := (YH BK269.out 1).trans rfl; have f15_0 := YI BK269.out 0; have f15_1 := YI BK269.out 1))
 refine bodyPost_ret (results_cell_row rfl _ _ gb269 25 #[.int .i64 a0_0, .slice Ao13 y271.length co13] (0, 0) _ rfl (by (with_reducible repeat (first | refine YE ?_ _ | refine YF ?_ | refine YG ?_ _)); refine blk_put (cs := #[.int .i64 a0_0, .slice none 0 0]) ?_ 1 _ rfl; (with_reducible repeat (first | refine YE ?_ _ | refine YF ?_ | refine YG ?_ _)); refine blk_put (cs := #[.int .i64 0, .slice none 0 0]) ?_ 0 _ rfl; (with_reducible repeat (first | refine YE ?_ _ | refine YF ?_ | refine YG ?_ _)); refine blk_far ?_ NB269_270.out _; (with_reducible repeat (first | refine YE ?_ _ | refine YF ?_ | refine YG ?_ _)); exact BK269.out) Try.underlying25 rfl (by kernel_rfl)) rfl ?_
 exact ⟨_, by first | rfl | (simp [errW_none, errW_some] <;> rfl) | (simp [*, errW_none, errW_some] <;> rfl), by (with_reducible repeat (first | apply Kd.R_alloc | apply Kd.R_drewN | apply Kd.R_drew)); exact Kd.R_mono (Kd.R_far (p := ⟨gb269, 1, none⟩) (Kd.R_far (p := ⟨gb269, 0, none⟩) (Kd.R_far (p := ⟨gb270, 1, none⟩) (Kd.R_types (Kd.R_types HO273.out BK270.out (by decide)) BK269.out (by decide)) (fun _ hk => hk.1.2) (.slice Ao13 y271.length co13)) (fun _ hk => hk.2) (.int .i64 a0_0)) (fun _ hk => hk.2) (.slice Ao13 y271.length co13)) (fun _ hk => trivial), by repeat (first | (with_reducible first | exact HB.out | apply YA | apply YB | apply YC | refine below_set ?_ GE268.out | refine below_set ?_ GE269.out | refine below_set ?_ GE270.out) | exact HB.out)⟩
def thalwegref01_power.l0 : Nat → Int → Int → Int → Option (Int)
 | 0, _, _, _ => none
 | k + 1, x0, x3, x4 => if x4 < x0 then (thalwegref01_power.l0 k x0 (wrap64 (256 * x3)) (wrap64 (x4 + 1))) else (some x3)
def thalwegref01_power.f (k : Nat) (a0 : Int) : Option (Int) := thalwegref01_power.l0 k a0 1 0
theorem thalwegref01_power.mono_l : ∀ k, (∀ y0 y1 y2, LeO (thalwegref01_power.l0 k y0 y1 y2) (thalwegref01_power.l0 (k + 1) y0 y1 y2))
 | 0 => fun _ _ _ r h => by simp [thalwegref01_power.l0] at h
 | k + 1 => by
  have ih0 := thalwegref01_power.mono_l k
  ·intro y0 y1 y2
   unfold thalwegref01_power.l0
   repeat' first
   | (with_reducible exact ih0 _ _ _)
   | (with_reducible exact LeO.refl _)
   | (with_reducible exact LeO.none _)
   | (with_reducible refine LeO.ite ?_ ?_)
   | (with_reducible refine LeO.bind ?_ (fun _ => ?_))
   | exact ih0 _ _ _
   | exact LeO.none _
   | refine LeO.ite ?_ ?_
   | refine LeO.bind ?_ (fun _ => ?_)
theorem thalwegref01_power.mono : ∀ a0 k, LeO (thalwegref01_power.f k a0) (thalwegref01_power.f (k + 1) a0) := by
 intro a0 k
 have ih0 := thalwegref01_power.mono_l k
 unfold thalwegref01_power.f
 repeat' first
   | (with_reducible exact ih0 _ _ _)
   | (with_reducible exact LeO.refl _)
   | (with_reducible exact LeO.none _)
   | (with_reducible refine LeO.ite ?_ ?_)
   | (with_reducible refine LeO.bind ?_ (fun _ => ?_))
   | exact ih0 _ _ _
   | exact LeO.none _
   | refine LeO.ite ?_ ?_
   | refine LeO.bind ?_ (fun _ => ?_)
theorem thalwegref01_power.calls (k : Nat) (a0 : Int) (r : Int) (w : World) (h : thalwegref01_power.f k a0 = some r) :
  Calls Try.prog 46 #[.int .i64 a0] w fun e w' => e = .returned (.int .i64 r) ∧ Drawn0 w w' := by
 have H : (thalwegref01_power.l0 k a0 1 0) = some r := h
 clear h
 have H' := YJ H
 clear H
 go_enter Try.func46, Try.ntmps46
 go_wp2
 go_loopg [3, 4] k (fun kq v3 v4 w' => ∃ (x3_1 : Int) (x4_1 : Int), v3 = .int .i64 x3_1 ∧ v4 = .int .i64 x4_1 ∧ Aside0 (thalwegref01_power.l0 kq a0 x3_1 x4_1 = some r) ∧ Aside0 (kq ≤ k) ∧ Drawn0 w w')
 case atStart => exact ⟨(1), (0), (by first | rfl | (simp; done) | (simp [*]; done)), (by first | rfl | (simp; done) | (simp [*]; done)), H', ⟨Nat.le_refl _⟩, by repeat (first | exact Drawn0.refl _ | apply Drawn0.step)⟩
 case round =>
  clear H'
  obtain ⟨x3_1, x4_1, rfl, rfl, HA, HK1, ⟨m1, rfl⟩⟩ := hrel
  cases gk with
  | zero => exact absurd HA.out (by simp [thalwegref01_power.l0])
  | succ k1 =>
   have H := HA.out
   clear HA
   simp only [thalwegref01_power.l0] at H
   by_cases c2 : x4_1 < a0
   ·rw [if_pos c2] at H
    have c2b0 : decide (x4_1 < a0) = true := decide_eq_true c2; clear c2
    have H' := YJ H
    clear H
    go_wp2
    go_roundg k1
    case measure => have := HK1.out; omega
    case rel => exact ⟨(wrap64 (256 * x3_1)), (wrap64 (x4_1 + 1)), (by first | rfl | (simp; done) | (simp [*]; done)), (by first | rfl | (simp; done) | (simp [*]; done)), H', ⟨by have := HK1.out; omega⟩, by repeat (first | exact Drawn0.refl _ | apply Drawn0.step)⟩
   rw [if_neg c2] at H; have c2b0 : decide (x4_1 < a0) = false := decide_eq_false c2; clear c2
   obtain rfl := Option.some.inj H
   go_wp2
   go_ret
   exact ⟨by first | rfl | (simp; done) | (simp [*]; done), by repeat (first | exact Drawn0.refl _ | apply Drawn0.step)⟩
end Go.Proofs.Ytaiklcpmlkpfjaa.P
namespace Go.Proofs.Ytaiklcpmlkpfjaa.P
open Go.RowKit YtaiklcpmlkpfjaaW.PrintWords YtaiklcpmlkpfjaaW.PrintLast YtaiklcpmlkpfjaaW.PrintMore
open YtaiklcpmlkpfjaaW.PrintWords renaming below_alloc → YA, pw_below_drewN → YB, below_drew1 → YC
open YtaiklcpmlkpfjaaW.PrintWords.Aside0 renaming mk → YD
attribute [local go_sem] max2_int min2_int max_two min_two max_three min_three max_four min_four
mutual
def thalwegref01_Put.j0 : Nat → Int → Int → Bool → Option (List Int × Int)
 | 0, _, _, _ => none
 | k + 1, x0, x1, x23 => if x23 = true then (some (([] : List Int), 1)) else (if 0 ≤ x1 then (if (x1 : Int).toNat ≤ 281474976710656 then (thalwegref01_Put.l0 k x0 (List.replicate (x1 : Int).toNat 0) (wrap64 (x1 - 1))) else (none)) else (none))
def thalwegref01_Put.l0 : Nat → Int → List Int → Int → Option (List Int × Int)
 | 0, _, _, _ => none
 | k + 1, x0, x6, x7 => if x7 ≥ 0 then (if 0 ≤ x7 then (if x7 < (x6.length : Int) then (thalwegref01_Put.l0 k (wrap64 (Int.tdiv x0 256)) (x6.set (x7 : Int).toNat ((Int.tmod x0 256) % 256)) (wrap64 (x7 - 1))) else (none)) else (none)) else (some (x6, 0))
end
def thalwegref01_Put.f (k : Nat) (a0 : Int) (a1 : Int) : Option (List Int × Int) := if a1 < 1 then (thalwegref01_Put.j0 k a0 a1 true) else (if a1 > 7 then (thalwegref01_Put.j0 k a0 a1 true) else (if a0 < 0 then (thalwegref01_Put.j0 k a0 a1 true) else ((thalwegref01_power.f k a1).bind fun t274 => (thalwegref01_Put.j0 k a0 a1 (decide (a0 ≥ t274))))))
theorem thalwegref01_Put.mono_l : ∀ k, (∀ y0 y1 y2, LeO (thalwegref01_Put.j0 k y0 y1 y2) (thalwegref01_Put.j0 (k + 1) y0 y1 y2)) ∧ (∀ y0 y1 y2, LeO (thalwegref01_Put.l0 k y0 y1 y2) (thalwegref01_Put.l0 (k + 1) y0 y1 y2))
 | 0 => ⟨fun _ _ _ r h => by simp [thalwegref01_Put.j0] at h, fun _ _ _ r h => by simp [thalwegref01_Put.l0] at h⟩
 | k + 1 => by
  obtain ⟨ih0, ih1⟩ := thalwegref01_Put.mono_l k
  refine ⟨?_, ?_⟩
  ·intro y0 y1 y2
   unfold thalwegref01_Put.j0
   repeat' first
   | (with_reducible exact ih0 _ _ _)
   | (with_reducible exact ih1 _ _ _)
   | (with_reducible exact thalwegref01_power.mono _ _)
   | (with_reducible exact LeO.refl _)
   | (with_reducible exact LeO.none _)
   | (with_reducible refine LeO.ite ?_ ?_)
   | (with_reducible refine LeO.bind ?_ (fun _ => ?_))
   | exact ih0 _ _ _
   | exact ih1 _ _ _
   | exact thalwegref01_power.mono _ _
   | exact LeO.none _
   | refine LeO.ite ?_ ?_
   | refine LeO.bind ?_ (fun _ => ?_)
  intro y0 y1 y2
  unfold thalwegref01_Put.l0
  repeat' first
  | (with_reducible exact ih0 _ _ _)
  | (with_reducible exact ih1 _ _ _)
  | (with_reducible exact thalwegref01_power.mono _ _)
  | (with_reducible exact LeO.refl _)
  | (with_reducible exact LeO.none _)
  | (with_reducible refine LeO.ite ?_ ?_)
  | (with_reducible refine LeO.bind ?_ (fun _ => ?_))
  | exact ih0 _ _ _
  | exact ih1 _ _ _
  | exact thalwegref01_power.mono _ _
  | exact LeO.none _
  | refine LeO.ite ?_ ?_
  | refine LeO.bind ?_ (fun _ => ?_)
theorem thalwegref01_Put.mono : ∀ a0 a1 k, LeO (thalwegref01_Put.f k a0 a1) (thalwegref01_Put.f (k + 1) a0 a1) := by
 intro a0 a1 k
 obtain ⟨ih0, ih1⟩ := thalwegref01_Put.mono_l k
 unfold thalwegref01_Put.f
 repeat' first
   | (with_reducible exact ih0 _ _ _)
   | (with_reducible exact ih1 _ _ _)
   | (with_reducible exact thalwegref01_power.mono _ _)
   | (with_reducible exact LeO.refl _)
   | (with_reducible exact LeO.none _)
   | (with_reducible refine LeO.ite ?_ ?_)
   | (with_reducible refine LeO.bind ?_ (fun _ => ?_))
   | exact ih0 _ _ _
   | exact ih1 _ _ _
   | exact thalwegref01_power.mono _ _
   | exact LeO.none _
   | refine LeO.ite ?_ ?_
   | refine LeO.bind ?_ (fun _ => ?_)
theorem thalwegref01_Put.calls (k : Nat) (a0 : Int) (a1 : Int) (r1 : List Int) (r2 : Int) (w : World) (h : thalwegref01_Put.f k a0 a1 = some (r1, r2)) :
  Calls Try.prog 32 #[.int .i64 a0, .int .i64 a1] w fun e w' => ∃ v0_ : Value, e = .returned (.tuple #[v0_, .int .i64 r2]) ∧ Kd.R (Kd.int .u8) 5 w' w.heap.size (fun _ => True) v0_ r1 ∧ Below w.heap.size w w' := by
 have HB := YD (Below.refl w.heap.size w)
 have H : (if a1 < 1 then (thalwegref01_Put.j0 k a0 a1 true) else (if a1 > 7 then (thalwegref01_Put.j0 k a0 a1 true) else (if a0 < 0 then (thalwegref01_Put.j0 k a0 a1 true) else ((thalwegref01_power.f k a1).bind fun t274 => (thalwegref01_Put.j0 k a0 a1 (decide (a0 ≥ t274))))))) = some (r1, r2) := h
 clear h; have HC3 := YD H; clear H
 go_enter Try.func32, Try.ntmps32
 go_upto_region 1 with (fail)
 go_cut [23] (fun v23 wc => ∃ (kq : Nat) (x23_2 : Bool), v23 = .bool x23_2 ∧ Aside0 (thalwegref01_Put.j0 kq a0 a1 x23_2 = some (r1, r2)) ∧ Aside0 (kq ≤ k) ∧ Aside0 (Below w.heap.size w wc))
 case first =>
  have H := HC3.out
  clear HC3
  by_cases c4 : a1 < 1
  ·rw [if_pos c4] at H
   have c4b0 : decide (a1 < 1) = true := decide_eq_true c4; clear c4
   (first | rw [c4b0] | (simp only [i64_w, i32_w]; rw [c4b0]) | rw [c4b1] | skip)
   have H' := YD H
   clear H
   go_wp2
   go_meet
   case rel => exact ⟨_, (true), (by first | rfl | (simp; done) | (simp [*]; done)), H', ⟨by first | omega | exact Nat.le_refl _⟩, ⟨by repeat (first | (with_reducible first | exact HB.out | apply YA | apply YB | apply YC) | exact HB.out)⟩⟩
  rw [if_neg c4] at H; have c4b0 : decide (a1 < 1) = false := decide_eq_false c4; clear c4
  (first | rw [c4b0] | (simp only [i64_w, i32_w]; rw [c4b0]) | rw [c4b1] | skip)
  by_cases c5 : a1 > 7
  ·rw [if_pos c5] at H
   have c5b0 : decide (7 < a1) = true := decide_eq_true c5; clear c5
   have H' := YD H
   clear H
   go_wp2
   go_meet
   case rel => exact ⟨_, (true), (by first | rfl | (simp; done) | (simp [*]; done)), H', ⟨by first | omega | exact Nat.le_refl _⟩, ⟨by repeat (first | (with_reducible first | exact HB.out | apply YA | apply YB | apply YC) | exact HB.out)⟩⟩
  rw [if_neg c5] at H; have c5b0 : decide (7 < a1) = false := decide_eq_false c5; clear c5
  by_cases c6 : a0 < 0
  ·rw [if_pos c6] at H
   have c6b0 : decide (a0 < 0) = true := decide_eq_true c6; clear c6
   have H' := YD H
   clear H
   go_wp2
   go_meet
   case rel => exact ⟨_, (true), (by first | rfl | (simp; done) | (simp [*]; done)), H', ⟨by first | omega | exact Nat.le_refl _⟩, ⟨by repeat (first | (with_reducible first | exact HB.out | apply YA | apply YB | apply YC) | exact HB.out)⟩⟩
  rw [if_neg c6] at H; have c6b0 : decide (a0 < 0) = false := decide_eq_false c6; clear c6; replace H := Option.bind_eq_some_iff.mp H; obtain ⟨t274, A70, H⟩ := H
  replace H : (thalwegref01_Put.j0 k a0 a1 (decide (a0 ≥ t274))) = some (r1, r2) := H
  have A7 := YD A70; clear A70
  have H' := YD H
  clear H
  go_wp2_with (first | (go_at_call 46; (with_reducible refine (thalwegref01_power.calls k a1 t274 _ A7.out).mono ?_); rintro e w' ⟨rfl, ⟨nd, rfl⟩⟩))
  go_meet
  case rel => exact ⟨_, (decide (a0 ≥ t274)), (by first | rfl | (simp; done) | (simp [*]; done)), H', ⟨by first | omega | exact Nat.le_refl _⟩, ⟨by repeat (first | (with_reducible first | exact HB.out | apply YA | apply YB | apply YC) | exact HB.out)⟩⟩
 case rest =>
  clear HC3
  try clear p2; try clear c3
  try clear c4; try clear c4b0
  try clear c5; try clear c5b0
  try clear c6; try clear c6b0
  obtain ⟨kq, x23_2, rfl, HA, HJ2, HB⟩ := hcut
  cases kq with
  | zero => exact absurd HA.out (by simp [thalwegref01_Put.j0])
  | succ kj2 =>
   have H := HA.out
   clear HA
   simp only [thalwegref01_Put.j0] at H
   by_cases c8 : x23_2 = true
   ·subst c8
    have H1 : (some (([] : List Int), 1)) = some (r1, r2) := by rw [if_pos rfl] at H; exact H
    clear H
    have H := H1
    clear H1
    simp only [Option.some.injEq, Prod.mk.injEq] at H
    obtain ⟨rfl, rfl⟩ := H
    go_wp2
    go_ret2
    exact ⟨_, by first | rfl | (simp [errW_none, errW_some] <;> rfl) | (simp [*, errW_none, errW_some] <;> rfl), by first | exact Kd.R_nil _ _ _ _ _ | exact Kd.N_nil _ _ _ _ _ | exact Kd.V_nil _ _ _ _ _ | exact Kd.Q_nil _ _ _ _ _ | exact Kd.S_nil _ _ _ _ _, by repeat (first | (with_reducible first | exact HB.out | apply YA | apply YB | apply YC) | exact HB.out)⟩
   replace c8 := Bool.eq_false_iff.mpr c8
   subst c8
   have H1 : (if 0 ≤ a1 then (if (a1 : Int).toNat ≤ 281474976710656 then (thalwegref01_Put.l0 kj2 a0 (List.replicate (a1 : Int).toNat 0) (wrap64 (a1 - 1))) else (none)) else (none)) = some (r1, r2) := by rw [if_neg (show ¬ (false = true) by decide)] at H; exact H
   clear H
   have H := H1
   clear H1
   by_cases c9 : 0 ≤ a1
   rotate_left
   ·rw [if_neg c9] at H
    exact absurd H (by simp)
   rw [if_pos c9] at H
   have c9b0 := eq_true c9
   have c9b1 : decide (0 ≤ a1) = true := decide_eq_true c9; clear c9
   by_cases c10 : (a1 : Int).toNat ≤ 281474976710656
   rotate_left
   ·rw [if_neg c10] at H
    exact absurd H (by simp)
   rw [if_pos c10] at H
   have c10b0 := eq_true c10
   have c10b1 : decide ((a1 : Int).toNat ≤ 281474976710656) = true := decide_eq_true c10
   clear c10
   obtain ⟨y275, hy275⟩ : ∃ y_ : List Int, y_ = (List.replicate (a1 : Int).toNat 0) := ⟨_, rfl⟩
   replace H : (thalwegref01_Put.l0 kj2 a0 y275 (wrap64 (a1 - 1))) = some (r1, r2) := by first | (rw [hy275]; with_reducible exact H) | (have H2_ := (Option.bind_some _ _).symm.trans H; rw [hy275]; with_reducible exact H2_) | (have H2_ := (Option.bind_some _ _).symm.trans H; with_reducible exact H2_) | with_reducible exact H | (rw [hy275]; exact H) | exact H
   have Ny275 := YD hy275; clear hy275
   have H' := YD H
   clear H
   go_wp2_with (first | ((with_reducible refine gate_dst (N := 25) rfl ?_); refine Kd.R_make (Kd.int .u8) _ 5 rfl (N := 25) rfl 22 _ _ rfl a1 rfl rfl Try.underlying22 (.int .u8 0) 1 info5 rfl (by decide) (by omega) 0 (ok := fun _ => True) (okp := fun _ => True) rfl (fun _ hk => hk) trivial (of_decide_eq_true (by first | (with_reducible assumption) | assumption)) (Nat.le_trans (Nat.mul_le_mul_right _ (of_decide_eq_true (by first | (with_reducible assumption) | assumption) : a1.toNat ≤ 281474976710656)) (by omega)) (Below.refl _ _) (Nat.le_refl _) ?_; intro v276 w11 ho12 hb hg_ hnew_; clear hg_ hnew_; (first | rw [← Ny275.out] at ho12 | (simp only [Int.reduceToNat] at ho12; rw [← Ny275.out] at ho12)); have n0_ := YD (Kd.R_lower ho12 (below_size (by repeat (first | (with_reducible first | exact HB.out | apply YA | apply YB | apply YC) | exact HB.out)))); have n1_ := YD (below_step (by repeat (first | (with_reducible first | exact HB.out | apply YA | apply YB | apply YC) | exact HB.out)) hb); clear HB; have HO277 := n0_; have HB := n1_; clear n0_ n1_; clear hb ho12))
   go_loopg [0, 7] kj2 (fun kq v0 v7 w' => ∃ (x0_2 : Int) (x6_2 : List Int) (x7_2 : Int), v0 = .int .i64 x0_2 ∧ v7 = .int .i64 x7_2 ∧ Aside0 (thalwegref01_Put.l0 kq x0_2 x6_2 x7_2 = some (r1, r2)) ∧ Aside0 (kq ≤ kj2) ∧ Aside0 (Kd.R (Kd.int .u8) 5 w' w.heap.size (fun _ => True) v276 x6_2) ∧ Aside0 (Below w.heap.size w w'))
   case atStart => exact ⟨(a0), (y275), (wrap64 (a1 - 1)), (by first | rfl | (simp; done) | (simp [*]; done)), (by first | rfl | (simp; done) | (simp [*]; done)), H', ⟨Nat.le_refl _⟩, ⟨by (with_reducible repeat (first | apply Kd.R_alloc | apply Kd.R_drewN | apply Kd.R_drew)); exact HO277.out⟩, ⟨by repeat (first | (with_reducible first | exact HB.out | apply YA | apply YB | apply YC) | exact HB.out)⟩⟩
   case round =>
    clear H'
    try clear c1; try clear p2
    try clear c3; try clear c4
    try clear c4b0; try clear c5
    try clear c5b0; try clear c6
    try clear c6b0; try clear p6
    try clear c8; try clear c9
    try clear c9b0; try clear c9b1
    try clear c10; try clear c10b0
    try clear c10b1; try clear p2
    obtain ⟨x0_2, x6_2, x7_2, rfl, rfl, HA, HK2, HO_6, HB⟩ := hrel
    cases gk with
    | zero => exact absurd HA.out (by simp [thalwegref01_Put.l0])
    | succ k2 =>
     have H := HA.out
     clear HA
     simp only [thalwegref01_Put.l0] at H
     by_cases c13 : x7_2 ≥ 0
     ·rw [if_pos c13] at H
      have c13b0 : decide (0 ≤ x7_2) = true := decide_eq_true c13; clear c13
      by_cases c14 : 0 ≤ x7_2
      rotate_left
      ·rw [if_neg c14] at H
       exact absurd H (by simp)
      rw [if_pos c14] at H; have c14b0 : decide (0 ≤ x7_2) = true := decide_eq_true c14; clear c14
      by_cases c15 : x7_2 < (x6_2.length : Int)
      rotate_left
      ·rw [if_neg c15] at H
       exact absurd H (by simp)
      rw [if_pos c15] at H
      have c15b0 : decide (x7_2 < (x6_2.length : Int)) = true := decide_eq_true c15
      clear c15
      obtain ⟨y278, hy278⟩ : ∃ y_ : List Int, y_ = (x6_2.set (x7_2 : Int).toNat ((Int.tmod x0_2 256) % 256)) := ⟨_, rfl⟩
      replace H : (thalwegref01_Put.l0 k2 (wrap64 (Int.tdiv x0_2 256)) y278 (wrap64 (x7_2 - 1))) = some (r1, r2) := by first | (rw [hy278]; with_reducible exact H) | (have H2_ := (Option.bind_some _ _).symm.trans H; rw [hy278]; with_reducible exact H2_) | (have H2_ := (Option.bind_some _ _).symm.trans H; with_reducible exact H2_) | with_reducible exact H | (rw [hy278]; exact H) | exact H
      have Ny278 := YD hy278; clear hy278
      have H' := YD H
      clear H
      have p16 : 0 ≤ (x7_2 : Int) := of_decide_eq_true (by first | (with_reducible assumption) | assumption)
      have q16 : (x7_2 : Int) < ((x6_2.length : Int) : Int) := of_decide_eq_true (by first | (with_reducible assumption) | assumption)
      obtain ⟨go16, co16, eo16, gb16, gl16, cl16, HG16⟩ := Kd.R_form HO_6.out (by omega)
      (first | cases eo16 | (injection eo16 with ea_ en_ ec_; (first | subst ea_ | (injection ea_ with ea_; subst ea_)); subst ec_; clear en_))
      have GB16 := YD gb16; have GG16 := YD HG16; clear gb16 gl16 HG16
      obtain ⟨hx16_0, hf16_0⟩ := Kd.R_celln 0 HO_6.out (x7_2 : Int) p16 q16
      replace p16 := eq_true p16
      replace q16 := eq_true q16
      have HP17 := Kd.R_putg HO_6.out (x7_2 : Int) ((Int.tmod x0_2 256) % 256)
      go_wp2_with (first | ((with_reducible refine gate_store (t := 5) (p := 37) rfl ?_); refine store_event (t := 5) (p := 37) (v := ?vo_w18) (w1 := (wr.setCell ⟨go16, (x7_2 : Int).toNat, none⟩ (.int .u8 ((Int.tmod x0_2 256) % 256)))) ?hg ?ho ?hn ?hr ?_; (case ho => rfl); (case hg => rfl); (case hn => rfl); (case hr => first | (go_simp; done) | (go_simp; rfl)); intro w18 hw; have hg : wr.grownBy w18 (some go16) := (by rw [hw]; exact HP17.2); have hp_ : Kd.R (Kd.int .u8) 5 w18 w.heap.size (fun _ => True) (.slice (some ⟨go16, 0, none⟩) x6_2.length co16) y278 := (by rw [hw, Ny278.out]; exact HP17.1); clear HP17; have n0_ := YD (hp_); have n1_ := YD ((by rw [hw]; exact below_set (HB.out) GB16.out : Below w.heap.size w w18)); clear HO_6; clear HB; have HO_6 := n0_; have HB := n1_; clear n0_ n1_; clear hg hw hp_))
      go_roundg k2
      case measure => have := HJ2.out; have := HK2.out; omega
      case rel => exact ⟨(wrap64 (Int.tdiv x0_2 256)), (y278), (wrap64 (x7_2 - 1)), (by first | rfl | (simp; done) | (simp [*]; done)), (by first | rfl | (simp; done) | (simp [*]; done)), H', ⟨by have := HJ2.out; have := HK2.out; omega⟩, ⟨by (with_reducible repeat (first | apply Kd.R_alloc | apply Kd.R_drewN | apply Kd.R_drew)); exact HO_6.out⟩, ⟨by repeat (first | (with_reducible first | exact HB.out | apply YA | apply YB | apply YC) | exact HB.out)⟩⟩
     rw [if_neg c13] at H; have c13b0 : decide (0 ≤ x7_2) = false := decide_eq_false c13; clear c13
     simp only [Option.some.injEq, Prod.mk.injEq] at H
     obtain ⟨rfl, rfl⟩ := H
     go_wp2
     go_ret2
     exact ⟨_, by first | rfl | (simp [errW_none, errW_some] <;> rfl) | (simp [*, errW_none, errW_some] <;> rfl), by (with_reducible repeat (first | apply Kd.R_alloc | apply Kd.R_drewN | apply Kd.R_drew)); exact HO_6.out, by repeat (first | (with_reducible first | exact HB.out | apply YA | apply YB | apply YC) | exact HB.out)⟩
end Go.Proofs.Ytaiklcpmlkpfjaa.P
