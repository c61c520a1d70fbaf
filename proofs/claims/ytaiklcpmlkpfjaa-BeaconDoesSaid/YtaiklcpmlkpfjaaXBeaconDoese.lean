/- Walks. -/
import Derived.Test.YtaiklcpmlkpfjaaXBeaconDoesa
import Derived.Test.YtaiklcpmlkpfjaaXBeaconDoesb
import Derived.Test.YtaiklcpmlkpfjaaXBeaconDoesc
import Derived.Test.YtaiklcpmlkpfjaaXBeaconDoesd
set_option linter.unusedVariables false
set_option linter.unusedSimpArgs false
set_option maxHeartbeats 8000000
set_option maxRecDepth 100000
namespace Go.Proofs.Ytaiklcpmlkpfjaa.P
open Go.RowKit YtaiklcpmlkpfjaaW.PrintWords YtaiklcpmlkpfjaaW.PrintLast YtaiklcpmlkpfjaaW.PrintMore
open YtaiklcpmlkpfjaaW.PrintWords renaming below_alloc → YA, pw_below_drewN → YB, below_drew1 → YC, below_step → YD, below_size → YE, blk_drewN → YF, blk_drew → YG, blk_alloc → YH, blk_cell → YI, blk_frozen → YJ, blk_below → YK
open YtaiklcpmlkpfjaaW.PrintWords.Aside0 renaming mk → YL
open List renaming setIfInBounds_toArray → YM, set_cons_zero → YN, set_cons_succ → YO, map_toArray → YP, length_take → YQ, length_drop → YR
open YtaiklcpmlkpfjaaW.PrintWords.Kd renaming R_alloc → YS, R_drewN → YT, R_drew → YU, R_below → YV
attribute [local go_sem] max2_int min2_int max_two min_two max_three min_three max_four min_four
def thalweglaw06_BeaconDoes.j0 : Nat → Int → Int → Int → Int → Bool → Int → List (S59) → Int → List (S59) → Int → List (S59) → Int → List (S59) → Int → List (S59) → Int → List (S59) → Option (Bool)
 | 0, _, _, _, _, _, _, _, _, _, _, _, _, _, _, _, _, _ => none
 | k + 1, x17, x19, x21, x23, x24, x335000, x335001, x340000, x340001, x358000, x358001, x364000, x364001, x370000, x370001, x376000, x376001 => (thalweglaw06_awake.f k).bind fun t378 => (if t378 = true then (if x24 = true then ((thalwegref06_Same.f k x358000 x358001 x364000 x364001).bind fun t379 => (if t379 = true then (if x17 = x19 then ((thalwegref06_Same.f k x370000 x370001 x376000 x376001).bind fun t380 => (if t380 = true then (if x21 = x23 then ((thalwegref06_Same.f k x340000 x340001 x335000 x335001).bind fun t381 => (some t381)) else (none)) else (none))) else (none)) else (none))) else (none)) else (none))
def thalweglaw06_BeaconDoes.f (k : Nat) (a0_0 : Int) (l0_1 : List (S59)) (a1 : Int) (a2 : Int) : Option (Bool) := if (l0_1.length : Int) > 100 then (some true) else ((thalwegref06_Own.f a0_0 l0_1).bind fun bt335 => ((beacon_Bytes.f k bt335.1 bt335.2).bind fun bt340 => ((thalwegref06_Bytes.f k a0_0 l0_1).bind fun bt344 => ((beacon_Heard.f bt335.1 bt335.2 a1).bind fun bt348 => ((thalwegref06_Heard.f k a0_0 l0_1 a1).bind fun bt350 => ((beacon_With.f bt335.1 bt335.2 a1 a2).bind fun bt352 => ((thalwegref06_With.f k a0_0 l0_1 a1 a2).bind fun bt358 => ((beacon_Without.f bt335.1 bt335.2 a1).bind fun bt364 => ((thalwegref06_Without.f k a0_0 l0_1 a1).bind fun bt370 => ((beacon_Check.f k bt335.1 bt335.2).bind fun t376 => ((thalwegref06_Right.f k a0_0 l0_1).bind fun t377 => (if ((t376 == 0) == t377) = true then (if (strOfNums bt340.1).toList = (strOfNums bt344.1).toList then (if bt340.2 = bt344.2 then (if bt348.1 = bt350.1 then (thalweglaw06_BeaconDoes.j0 k bt352.2.2 bt358.2.2 bt364.2.2 bt370.2.2 (bt348.2 == bt350.2) a0_0 l0_1 bt335.1 bt335.2 bt352.1 bt352.2.1 bt358.1 bt358.2.1 bt364.1 bt364.2.1 bt370.1 bt370.2.1) else (thalweglaw06_BeaconDoes.j0 k bt352.2.2 bt358.2.2 bt364.2.2 bt370.2.2 false a0_0 l0_1 bt335.1 bt335.2 bt352.1 bt352.2.1 bt358.1 bt358.2.1 bt364.1 bt364.2.1 bt370.1 bt370.2.1)) else (thalweglaw06_BeaconDoes.j0 k bt352.2.2 bt358.2.2 bt364.2.2 bt370.2.2 false a0_0 l0_1 bt335.1 bt335.2 bt352.1 bt352.2.1 bt358.1 bt358.2.1 bt364.1 bt364.2.1 bt370.1 bt370.2.1)) else (thalweglaw06_BeaconDoes.j0 k bt352.2.2 bt358.2.2 bt364.2.2 bt370.2.2 false a0_0 l0_1 bt335.1 bt335.2 bt352.1 bt352.2.1 bt358.1 bt358.2.1 bt364.1 bt364.2.1 bt370.1 bt370.2.1)) else (thalweglaw06_BeaconDoes.j0 k bt352.2.2 bt358.2.2 bt364.2.2 bt370.2.2 false a0_0 l0_1 bt335.1 bt335.2 bt352.1 bt352.2.1 bt358.1 bt358.2.1 bt364.1 bt364.2.1 bt370.1 bt370.2.1)))))))))))))
theorem thalweglaw06_BeaconDoes.mono_l : ∀ k, (∀ y0 y1 y2 y3 y4 y5 y6 y7 y8 y9 y10 y11 y12 y13 y14 y15 y16, LeO (thalweglaw06_BeaconDoes.j0 k y0 y1 y2 y3 y4 y5 y6 y7 y8 y9 y10 y11 y12 y13 y14 y15 y16) (thalweglaw06_BeaconDoes.j0 (k + 1) y0 y1 y2 y3 y4 y5 y6 y7 y8 y9 y10 y11 y12 y13 y14 y15 y16))
 | 0 => fun _ _ _ _ _ _ _ _ _ _ _ _ _ _ _ _ _ r h => by simp [thalweglaw06_BeaconDoes.j0] at h
 | k + 1 => by
  have ih0 := thalweglaw06_BeaconDoes.mono_l k
  ·intro y0 y1 y2 y3 y4 y5 y6 y7 y8 y9 y10 y11 y12 y13 y14 y15 y16
   unfold thalweglaw06_BeaconDoes.j0
   repeat' first
   | (with_reducible exact ih0 _ _ _ _ _ _ _ _ _ _ _ _ _ _ _ _ _)
   | (with_reducible exact beacon_Bytes.mono _ _ _)
   | (with_reducible exact beacon_Check.mono _ _ _)
   | (with_reducible exact thalweglaw06_awake.mono _)
   | (with_reducible exact thalwegref06_Bytes.mono _ _ _)
   | (with_reducible exact thalwegref06_Heard.mono _ _ _ _)
   | (with_reducible exact thalwegref06_Right.mono _ _ _)
   | (with_reducible exact thalwegref06_Same.mono _ _ _ _ _)
   | (with_reducible exact thalwegref06_With.mono _ _ _ _ _)
   | (with_reducible exact thalwegref06_Without.mono _ _ _ _)
   | (with_reducible exact LeO.refl _)
   | (with_reducible exact LeO.none _)
   | (with_reducible refine LeO.ite ?_ ?_)
   | (with_reducible refine LeO.bind ?_ (fun _ => ?_))
   | exact ih0 _ _ _ _ _ _ _ _ _ _ _ _ _ _ _ _ _
   | exact beacon_Bytes.mono _ _ _
   | exact beacon_Check.mono _ _ _
   | exact thalweglaw06_awake.mono _
   | exact thalwegref06_Bytes.mono _ _ _
   | exact thalwegref06_Heard.mono _ _ _ _
   | exact thalwegref06_Right.mono _ _ _
   | exact thalwegref06_Same.mono _ _ _ _ _
   | exact thalwegref06_With.mono _ _ _ _ _
   | exact thalwegref06_Without.mono _ _ _ _
   | exact LeO.none _
   | refine LeO.ite ?_ ?_
   | refine LeO.bind ?_ (fun _ => ?_)
theorem thalweglaw06_BeaconDoes.mono : ∀ a0 a1 a2 a3 k, LeO (thalweglaw06_BeaconDoes.f k a0 a1 a2 a3) (thalweglaw06_BeaconDoes.f (k + 1) a0 a1 a2 a3) := by
 intro a0 a1 a2 a3 k
 have ih0 := thalweglaw06_BeaconDoes.mono_l k
 unfold thalweglaw06_BeaconDoes.f
 repeat' first
   | (with_reducible exact ih0 _ _ _ _ _ _ _ _ _ _ _ _ _ _ _ _ _)
   | (with_reducible exact beacon_Bytes.mono _ _ _)
   | (with_reducible exact beacon_Check.mono _ _ _)
   | (with_reducible exact thalweglaw06_awake.mono _)
   | (with_reducible exact thalwegref06_Bytes.mono _ _ _)
   | (with_reducible exact thalwegref06_Heard.mono _ _ _ _)
   | (with_reducible exact thalwegref06_Right.mono _ _ _)
   | (with_reducible exact thalwegref06_Same.mono _ _ _ _ _)
   | (with_reducible exact thalwegref06_With.mono _ _ _ _ _)
   | (with_reducible exact thalwegref06_Without.mono _ _ _ _)
   | (with_reducible exact LeO.refl _)
   | (with_reducible exact LeO.none _)
   | (with_reducible refine LeO.ite ?_ ?_)
   | (with_reducible refine LeO.bind ?_ (fun _ => ?_))
   | exact ih0 _ _ _ _ _ _ _ _ _ _ _ _ _ _ _ _ _
   | exact beacon_Bytes.mono _ _ _
   | exact beacon_Check.mono _ _ _
   | exact thalweglaw06_awake.mono _
   | exact thalwegref06_Bytes.mono _ _ _
   | exact thalwegref06_Heard.mono _ _ _ _
   | exact thalwegref06_Right.mono _ _ _
   | exact thalwegref06_Same.mono _ _ _ _ _
   | exact thalwegref06_With.mono _ _ _ _ _
   | exact thalwegref06_Without.mono _ _ _ _
   | exact LeO.none _
   | refine LeO.ite ?_ ?_
   | refine LeO.bind ?_ (fun _ => ?_)
def thalweglaw06_BeaconDoes.T12 : Bool × List (List Nat × List Nat) := (true, [([], []), ([0], [0]), ([1], [1]), ([], []), ([3, 1], [3]), ([2, 4], [2, 4]), ([5, 4], [5]), ([6], [6]), ([7, 6], [6, 7]), ([6], [6]), ([9, 6], [6, 9]), ([8, 10, 6], [6, 8, 10]), ([6, 11], [6, 11]), ([12, 6], [12]), ([13], [13]), ([13], [13]), ([14, 15, 13], [13, 14, 15]), ([13, 16], [13, 16]), ([17, 13], [17]), ([18], [18]), ([18], [18]), ([19, 20, 18], [18, 19, 20]), ([18, 21], [18, 21]), ([22, 18], [22]), ([23], [23]), ([23], [23]), ([24, 25, 23], [23, 24, 25]), ([23, 26], [23, 26]), ([27, 23, 0, 1, 2, 3, 4, 5, 6, 7, 8, 9, 10, 11, 12, 13, 14, 15, 16, 17, 18, 19, 20, 21, 22, 23, 24, 25, 26, 27], [27])])
def thalweglaw06_BeaconDoes.B12 : List Nat := [0, 1, 3, 0, 11, 31, 63, 127, 255, 127, 639, 2047, 4095, 8191, 16383, 16383, 65535, 131071, 262143, 524287, 524287, 2097151, 4194303, 8388607, 16777215, 16777215, 67108863, 134217727, 268435455]
theorem thalweglaw06_BeaconDoes.tab12 : rtab .any (opsOf Try.f6 12) = thalweglaw06_BeaconDoes.T12 := by kernel_rfl
theorem thalweglaw06_BeaconDoes.bits12 : waitsOk thalweglaw06_BeaconDoes.T12.2 thalweglaw06_BeaconDoes.B12 = true := by kernel_rfl
theorem thalweglaw06_BeaconDoes.calls (k : Nat) (a0_0 : Int) (A0_1 : Option Addr) (c0_1 : Nat) (l0_1 : List (S59)) (a1 : Int) (a2 : Int) (r : Bool) (w : World) (hr0_1 : Kd.C k59 w A0_1 l0_1.length l0_1) (hc0_1 : l0_1.length ≤ c0_1) (h : thalweglaw06_BeaconDoes.f k a0_0 l0_1 a1 a2 = some r) :
  Calls Try.prog 6 #[.agg #[.int .i64 a0_0, .slice A0_1 l0_1.length c0_1], .int .i64 a1, .int .i64 a2] w fun e w' => e = .returned (.bool r) ∧ Below w.heap.size w w' := by
 have hu25 := Try.underlying25
 have HR0_1 := YL hr0_1; have HC0_1 := YL hc0_1; clear hr0_1 hc0_1
 have HB := YL (Below.refl w.heap.size w)
 have H : (if (l0_1.length : Int) > 100 then (some true) else ((thalwegref06_Own.f a0_0 l0_1).bind fun bt335 => ((beacon_Bytes.f k bt335.1 bt335.2).bind fun bt340 => ((thalwegref06_Bytes.f k a0_0 l0_1).bind fun bt344 => ((beacon_Heard.f bt335.1 bt335.2 a1).bind fun bt348 => ((thalwegref06_Heard.f k a0_0 l0_1 a1).bind fun bt350 => ((beacon_With.f bt335.1 bt335.2 a1 a2).bind fun bt352 => ((thalwegref06_With.f k a0_0 l0_1 a1 a2).bind fun bt358 => ((beacon_Without.f bt335.1 bt335.2 a1).bind fun bt364 => ((thalwegref06_Without.f k a0_0 l0_1 a1).bind fun bt370 => ((beacon_Check.f k bt335.1 bt335.2).bind fun t376 => ((thalwegref06_Right.f k a0_0 l0_1).bind fun t377 => (if ((t376 == 0) == t377) = true then (if (strOfNums bt340.1).toList = (strOfNums bt344.1).toList then (if bt340.2 = bt344.2 then (if bt348.1 = bt350.1 then (thalweglaw06_BeaconDoes.j0 k bt352.2.2 bt358.2.2 bt364.2.2 bt370.2.2 (bt348.2 == bt350.2) a0_0 l0_1 bt335.1 bt335.2 bt352.1 bt352.2.1 bt358.1 bt358.2.1 bt364.1 bt364.2.1 bt370.1 bt370.2.1) else (thalweglaw06_BeaconDoes.j0 k bt352.2.2 bt358.2.2 bt364.2.2 bt370.2.2 false a0_0 l0_1 bt335.1 bt335.2 bt352.1 bt352.2.1 bt358.1 bt358.2.1 bt364.1 bt364.2.1 bt370.1 bt370.2.1)) else (thalweglaw06_BeaconDoes.j0 k bt352.2.2 bt358.2.2 bt364.2.2 bt370.2.2 false a0_0 l0_1 bt335.1 bt335.2 bt352.1 bt352.2.1 bt358.1 bt358.2.1 bt364.1 bt364.2.1 bt370.1 bt370.2.1)) else (thalweglaw06_BeaconDoes.j0 k bt352.2.2 bt358.2.2 bt364.2.2 bt370.2.2 false a0_0 l0_1 bt335.1 bt335.2 bt352.1 bt352.2.1 bt358.1 bt358.2.1 bt364.1 bt364.2.1 bt370.1 bt370.2.1)) else (thalweglaw06_BeaconDoes.j0 k bt352.2.2 bt358.2.2 bt364.2.2 bt370.2.2 false a0_0 l0_1 bt335.1 bt335.2 bt352.1 bt352.2.1 bt358.1 bt358.2.1 bt364.1 bt364.2.1 bt370.1 bt370.2.1)))))))))))))) = some r := h
 clear h
 by_cases c4 : (l0_1.length : Int) > 100
 ·rw [if_pos c4] at H
  have c4b0 : decide (100 < (l0_1.length : Int)) = true := decide_eq_true c4
  have c4b1 : decide (100 < l0_1.length) = true := decide_eq_true (by omega)
  clear c4
  obtain rfl := Option.some.inj H
  go_enter Try.func6, Try.ntmps6
  go_wp2_with (first | ((with_reducible refine gate_dst (N := 3) rfl ?_); refine box_event ?hg (N := 3) ?hd (cs := #[.int .i64 a0_0, .slice A0_1 l0_1.length c0_1]) (t := 25) ?hr ?_; (case hd => rfl); (case hg => rfl); (case hr => first | (go_simp; done) | (go_simp; rfl)); intro gb334 hg w5 hbox hb; have n0_ := YL (YD (by repeat (first | (with_reducible first | exact HB.out | apply YA | apply YB | apply YC) | exact HB.out)) hb); have n1_ := YL (hbox); have n2_ := YL ((by rw [hg]; exact (YE (by repeat (first | (with_reducible first | exact HB.out | apply YA | apply YB | apply YC) | exact HB.out))) : w.heap.size ≤ gb334)); have n3_ := YL ((by rw [hg]; exact (YE (by repeat (first | (with_reducible first | exact HB.out | apply YA | apply YB | apply YC) | exact HB.out))) : w.heap.size ≤ gb334)); clear HB; have HB := n0_; have BK334 := n1_; have GW334 := n2_; have GE334 := n3_; clear n0_ n1_ n2_ n3_; clear hb hbox hg; have q6_0 : w5.cell? ⟨gb334, 0, none⟩ = some (.int .i64 a0_0) := (YI BK334.out 0).trans rfl; have q6_1 : w5.cell? ⟨gb334, 1, none⟩ = some (.slice A0_1 l0_1.length c0_1) := (YI BK334.out 1).trans rfl; have f6_0 := YJ BK334.out 0; have f6_1 := YJ BK334.out 1))
  go_ret
  exact ⟨by first | rfl | (simp [errW_none, errW_some] <;> rfl) | (simp [*, errW_none, errW_some] <;> rfl), by repeat (first | (with_reducible first | exact HB.out | apply YA | apply YB | apply YC | refine below_set ?_ GE334.out) | exact HB.out)⟩
 rw [if_neg c4] at H
 have c4b0 : decide (100 < (l0_1.length : Int)) = false := decide_eq_false c4
 have c4b1 : decide (100 < l0_1.length) = false := decide_eq_false (by omega)
 clear c4; replace H := Option.bind_eq_some_iff.mp H
 obtain ⟨⟨t335, t336⟩, A70, H⟩ := H
 replace H : ((beacon_Bytes.f k t335 t336).bind fun bt340 => ((thalwegref06_Bytes.f k a0_0 l0_1).bind fun bt344 => ((beacon_Heard.f t335 t336 a1).bind fun bt348 => ((thalwegref06_Heard.f k a0_0 l0_1 a1).bind fun bt350 => ((beacon_With.f t335 t336 a1 a2).bind fun bt352 => ((thalwegref06_With.f k a0_0 l0_1 a1 a2).bind fun bt358 => ((beacon_Without.f t335 t336 a1).bind fun bt364 => ((thalwegref06_Without.f k a0_0 l0_1 a1).bind fun bt370 => ((beacon_Check.f k t335 t336).bind fun t376 => ((thalwegref06_Right.f k a0_0 l0_1).bind fun t377 => (if ((t376 == 0) == t377) = true then (if (strOfNums bt340.1).toList = (strOfNums bt344.1).toList then (if bt340.2 = bt344.2 then (if bt348.1 = bt350.1 then (thalweglaw06_BeaconDoes.j0 k bt352.2.2 bt358.2.2 bt364.2.2 bt370.2.2 (bt348.2 == bt350.2) a0_0 l0_1 t335 t336 bt352.1 bt352.2.1 bt358.1 bt358.2.1 bt364.1 bt364.2.1 bt370.1 bt370.2.1) else (thalweglaw06_BeaconDoes.j0 k bt352.2.2 bt358.2.2 bt364.2.2 bt370.2.2 false a0_0 l0_1 t335 t336 bt352.1 bt352.2.1 bt358.1 bt358.2.1 bt364.1 bt364.2.1 bt370.1 bt370.2.1)) else (thalweglaw06_BeaconDoes.j0 k bt352.2.2 bt358.2.2 bt364.2.2 bt370.2.2 false a0_0 l0_1 t335 t336 bt352.1 bt352.2.1 bt358.1 bt358.2.1 bt364.1 bt364.2.1 bt370.1 bt370.2.1)) else (thalweglaw06_BeaconDoes.j0 k bt352.2.2 bt358.2.2 bt364.2.2 bt370.2.2 false a0_0 l0_1 t335 t336 bt352.1 bt352.2.1 bt358.1 bt358.2.1 bt364.1 bt364.2.1 bt370.1 bt370.2.1)) else (thalweglaw06_BeaconDoes.j0 k bt352.2.2 bt358.2.2 bt364.2.2 bt370.2.2 false a0_0 l0_1 t335 t336 bt352.1 bt352.2.1 bt358.1 bt358.2.1 bt364.1 bt364.2.1 bt370.1 bt370.2.1)))))))))))) = some r := H
 have A7 := YL A70; clear A70; replace H := Option.bind_eq_some_iff.mp H
 obtain ⟨⟨t340, t343⟩, A80, H⟩ := H
 replace H : ((thalwegref06_Bytes.f k a0_0 l0_1).bind fun bt344 => ((beacon_Heard.f t335 t336 a1).bind fun bt348 => ((thalwegref06_Heard.f k a0_0 l0_1 a1).bind fun bt350 => ((beacon_With.f t335 t336 a1 a2).bind fun bt352 => ((thalwegref06_With.f k a0_0 l0_1 a1 a2).bind fun bt358 => ((beacon_Without.f t335 t336 a1).bind fun bt364 => ((thalwegref06_Without.f k a0_0 l0_1 a1).bind fun bt370 => ((beacon_Check.f k t335 t336).bind fun t376 => ((thalwegref06_Right.f k a0_0 l0_1).bind fun t377 => (if ((t376 == 0) == t377) = true then (if (strOfNums t340).toList = (strOfNums bt344.1).toList then (if t343 = bt344.2 then (if bt348.1 = bt350.1 then (thalweglaw06_BeaconDoes.j0 k bt352.2.2 bt358.2.2 bt364.2.2 bt370.2.2 (bt348.2 == bt350.2) a0_0 l0_1 t335 t336 bt352.1 bt352.2.1 bt358.1 bt358.2.1 bt364.1 bt364.2.1 bt370.1 bt370.2.1) else (thalweglaw06_BeaconDoes.j0 k bt352.2.2 bt358.2.2 bt364.2.2 bt370.2.2 false a0_0 l0_1 t335 t336 bt352.1 bt352.2.1 bt358.1 bt358.2.1 bt364.1 bt364.2.1 bt370.1 bt370.2.1)) else (thalweglaw06_BeaconDoes.j0 k bt352.2.2 bt358.2.2 bt364.2.2 bt370.2.2 false a0_0 l0_1 t335 t336 bt352.1 bt352.2.1 bt358.1 bt358.2.1 bt364.1 bt364.2.1 bt370.1 bt370.2.1)) else (thalweglaw06_BeaconDoes.j0 k bt352.2.2 bt358.2.2 bt364.2.2 bt370.2.2 false a0_0 l0_1 t335 t336 bt352.1 bt352.2.1 bt358.1 bt358.2.1 bt364.1 bt364.2.1 bt370.1 bt370.2.1)) else (thalweglaw06_BeaconDoes.j0 k bt352.2.2 bt358.2.2 bt364.2.2 bt370.2.2 false a0_0 l0_1 t335 t336 bt352.1 bt352.2.1 bt358.1 bt358.2.1 bt364.1 bt364.2.1 bt370.1 bt370.2.1))))))))))) = some r := H
 have A8 := YL A80; clear A80; replace H := Option.bind_eq_some_iff.mp H
 obtain ⟨⟨t344, t347⟩, A90, H⟩ := H
 replace H : ((beacon_Heard.f t335 t336 a1).bind fun bt348 => ((thalwegref06_Heard.f k a0_0 l0_1 a1).bind fun bt350 => ((beacon_With.f t335 t336 a1 a2).bind fun bt352 => ((thalwegref06_With.f k a0_0 l0_1 a1 a2).bind fun bt358 => ((beacon_Without.f t335 t336 a1).bind fun bt364 => ((thalwegref06_Without.f k a0_0 l0_1 a1).bind fun bt370 => ((beacon_Check.f k t335 t336).bind fun t376 => ((thalwegref06_Right.f k a0_0 l0_1).bind fun t377 => (if ((t376 == 0) == t377) = true then (if (strOfNums t340).toList = (strOfNums t344).toList then (if t343 = t347 then (if bt348.1 = bt350.1 then (thalweglaw06_BeaconDoes.j0 k bt352.2.2 bt358.2.2 bt364.2.2 bt370.2.2 (bt348.2 == bt350.2) a0_0 l0_1 t335 t336 bt352.1 bt352.2.1 bt358.1 bt358.2.1 bt364.1 bt364.2.1 bt370.1 bt370.2.1) else (thalweglaw06_BeaconDoes.j0 k bt352.2.2 bt358.2.2 bt364.2.2 bt370.2.2 false a0_0 l0_1 t335 t336 bt352.1 bt352.2.1 bt358.1 bt358.2.1 bt364.1 bt364.2.1 bt370.1 bt370.2.1)) else (thalweglaw06_BeaconDoes.j0 k bt352.2.2 bt358.2.2 bt364.2.2 bt370.2.2 false a0_0 l0_1 t335 t336 bt352.1 bt352.2.1 bt358.1 bt358.2.1 bt364.1 bt364.2.1 bt370.1 bt370.2.1)) else (thalweglaw06_BeaconDoes.j0 k bt352.2.2 bt358.2.2 bt364.2.2 bt370.2.2 false a0_0 l0_1 t335 t336 bt352.1 bt352.2.1 bt358.1 bt358.2.1 bt364.1 bt364.2.1 bt370.1 bt370.2.1)) else (thalweglaw06_BeaconDoes.j0 k bt352.2.2 bt358.2.2 bt364.2.2 bt370.2.2 false a0_0 l0_1 t335 t336 bt352.1 bt352.2.1 bt358.1 bt358.2.1 bt364.1 bt364.2.1 bt370.1 bt370.2.1)))))))))) = some r := H
 have A9 := YL A90; clear A90; replace H := Option.bind_eq_some_iff.mp H
 obtain ⟨⟨t348, t349⟩, A100, H⟩ := H
 replace H : ((thalwegref06_Heard.f k a0_0 l0_1 a1).bind fun bt350 => ((beacon_With.f t335 t336 a1 a2).bind fun bt352 => ((thalwegref06_With.f k a0_0 l0_1 a1 a2).bind fun bt358 => ((beacon_Without.f t335 t336 a1).bind fun bt364 => ((thalwegref06_Without.f k a0_0 l0_1 a1).bind fun bt370 => ((beacon_Check.f k t335 t336).bind fun t376 => ((thalwegref06_Right.f k a0_0 l0_1).bind fun t377 => (if ((t376 == 0) == t377) = true then (if (strOfNums t340).toList = (strOfNums t344).toList then (if t343 = t347 then (if t348 = bt350.1 then (thalweglaw06_BeaconDoes.j0 k bt352.2.2 bt358.2.2 bt364.2.2 bt370.2.2 (t349 == bt350.2) a0_0 l0_1 t335 t336 bt352.1 bt352.2.1 bt358.1 bt358.2.1 bt364.1 bt364.2.1 bt370.1 bt370.2.1) else (thalweglaw06_BeaconDoes.j0 k bt352.2.2 bt358.2.2 bt364.2.2 bt370.2.2 false a0_0 l0_1 t335 t336 bt352.1 bt352.2.1 bt358.1 bt358.2.1 bt364.1 bt364.2.1 bt370.1 bt370.2.1)) else (thalweglaw06_BeaconDoes.j0 k bt352.2.2 bt358.2.2 bt364.2.2 bt370.2.2 false a0_0 l0_1 t335 t336 bt352.1 bt352.2.1 bt358.1 bt358.2.1 bt364.1 bt364.2.1 bt370.1 bt370.2.1)) else (thalweglaw06_BeaconDoes.j0 k bt352.2.2 bt358.2.2 bt364.2.2 bt370.2.2 false a0_0 l0_1 t335 t336 bt352.1 bt352.2.1 bt358.1 bt358.2.1 bt364.1 bt364.2.1 bt370.1 bt370.2.1)) else (thalweglaw06_BeaconDoes.j0 k bt352.2.2 bt358.2.2 bt364.2.2 bt370.2.2 false a0_0 l0_1 t335 t336 bt352.1 bt352.2.1 bt358.1 bt358.2.1 bt364.1 bt364.2.1 bt370.1 bt370.2.1))))))))) = some r := H
 have A10 := YL A100; clear A100; replace H := Option.bind_eq_some_iff.mp H
 obtain ⟨⟨t350, t351⟩, A110, H⟩ := H
 replace H : ((beacon_With.f t335 t336 a1 a2).bind fun bt352 => ((thalwegref06_With.f k a0_0 l0_1 a1 a2).bind fun bt358 => ((beacon_Without.f t335 t336 a1).bind fun bt364 => ((thalwegref06_Without.f k a0_0 l0_1 a1).bind fun bt370 => ((beacon_Check.f k t335 t336).bind fun t376 => ((thalwegref06_Right.f k a0_0 l0_1).bind fun t377 => (if ((t376 == 0) == t377) = true then (if (strOfNums t340).toList = (strOfNums t344).toList then (if t343 = t347 then (if t348 = t350 then (thalweglaw06_BeaconDoes.j0 k bt352.2.2 bt358.2.2 bt364.2.2 bt370.2.2 (t349 == t351) a0_0 l0_1 t335 t336 bt352.1 bt352.2.1 bt358.1 bt358.2.1 bt364.1 bt364.2.1 bt370.1 bt370.2.1) else (thalweglaw06_BeaconDoes.j0 k bt352.2.2 bt358.2.2 bt364.2.2 bt370.2.2 false a0_0 l0_1 t335 t336 bt352.1 bt352.2.1 bt358.1 bt358.2.1 bt364.1 bt364.2.1 bt370.1 bt370.2.1)) else (thalweglaw06_BeaconDoes.j0 k bt352.2.2 bt358.2.2 bt364.2.2 bt370.2.2 false a0_0 l0_1 t335 t336 bt352.1 bt352.2.1 bt358.1 bt358.2.1 bt364.1 bt364.2.1 bt370.1 bt370.2.1)) else (thalweglaw06_BeaconDoes.j0 k bt352.2.2 bt358.2.2 bt364.2.2 bt370.2.2 false a0_0 l0_1 t335 t336 bt352.1 bt352.2.1 bt358.1 bt358.2.1 bt364.1 bt364.2.1 bt370.1 bt370.2.1)) else (thalweglaw06_BeaconDoes.j0 k bt352.2.2 bt358.2.2 bt364.2.2 bt370.2.2 false a0_0 l0_1 t335 t336 bt352.1 bt352.2.1 bt358.1 bt358.2.1 bt364.1 bt364.2.1 bt370.1 bt370.2.1)))))))) = some r := H
 have A11 := YL A110; clear A110; replace H := Option.bind_eq_some_iff.mp H
 obtain ⟨⟨t352, t353, t356⟩, A120, H⟩ := H
 replace H : ((thalwegref06_With.f k a0_0 l0_1 a1 a2).bind fun bt358 => ((beacon_Without.f t335 t336 a1).bind fun bt364 => ((thalwegref06_Without.f k a0_0 l0_1 a1).bind fun bt370 => ((beacon_Check.f k t335 t336).bind fun t376 => ((thalwegref06_Right.f k a0_0 l0_1).bind fun t377 => (if ((t376 == 0) == t377) = true then (if (strOfNums t340).toList = (strOfNums t344).toList then (if t343 = t347 then (if t348 = t350 then (thalweglaw06_BeaconDoes.j0 k t356 bt358.2.2 bt364.2.2 bt370.2.2 (t349 == t351) a0_0 l0_1 t335 t336 t352 t353 bt358.1 bt358.2.1 bt364.1 bt364.2.1 bt370.1 bt370.2.1) else (thalweglaw06_BeaconDoes.j0 k t356 bt358.2.2 bt364.2.2 bt370.2.2 false a0_0 l0_1 t335 t336 t352 t353 bt358.1 bt358.2.1 bt364.1 bt364.2.1 bt370.1 bt370.2.1)) else (thalweglaw06_BeaconDoes.j0 k t356 bt358.2.2 bt364.2.2 bt370.2.2 false a0_0 l0_1 t335 t336 t352 t353 bt358.1 bt358.2.1 bt364.1 bt364.2.1 bt370.1 bt370.2.1)) else (thalweglaw06_BeaconDoes.j0 k t356 bt358.2.2 bt364.2.2 bt370.2.2 false a0_0 l0_1 t335 t336 t352 t353 bt358.1 bt358.2.1 bt364.1 bt364.2.1 bt370.1 bt370.2.1)) else (thalweglaw06_BeaconDoes.j0 k t356 bt358.2.2 bt364.2.2 bt370.2.2 false a0_0 l0_1 t335 t336 t352 t353 bt358.1 bt358.2.1 bt364.1 bt364.2.1 bt370.1 bt370.2.1))))))) = some r := H
 have A12 := YL A120; clear A120; replace H := Option.bind_eq_some_iff.mp H
 obtain ⟨⟨t358, t359, t362⟩, A130, H⟩ := H
 replace H : ((beacon_Without.f t335 t336 a1).bind fun bt364 => ((thalwegref06_Without.f k a0_0 l0_1 a1).bind fun bt370 => ((beacon_Check.f k t335 t336).bind fun t376 => ((thalwegref06_Right.f k a0_0 l0_1).bind fun t377 => (if ((t376 == 0) == t377) = true then (if (strOfNums t340).toList = (strOfNums t344).toList then (if t343 = t347 then (if t348 = t350 then (thalweglaw06_BeaconDoes.j0 k t356 t362 bt364.2.2 bt370.2.2 (t349 == t351) a0_0 l0_1 t335 t336 t352 t353 t358 t359 bt364.1 bt364.2.1 bt370.1 bt370.2.1) else (thalweglaw06_BeaconDoes.j0 k t356 t362 bt364.2.2 bt370.2.2 false a0_0 l0_1 t335 t336 t352 t353 t358 t359 bt364.1 bt364.2.1 bt370.1 bt370.2.1)) else (thalweglaw06_BeaconDoes.j0 k t356 t362 bt364.2.2 bt370.2.2 false a0_0 l0_1 t335 t336 t352 t353 t358 t359 bt364.1 bt364.2.1 bt370.1 bt370.2.1)) else (thalweglaw06_BeaconDoes.j0 k t356 t362 bt364.2.2 bt370.2.2 false a0_0 l0_1 t335 t336 t352 t353 t358 t359 bt364.1 bt364.2.1 bt370.1 bt370.2.1)) else (thalweglaw06_BeaconDoes.j0 k t356 t362 bt364.2.2 bt370.2.2 false a0_0 l0_1 t335 t336 t352 t353 t358 t359 bt364.1 bt364.2.1 bt370.1 bt370.2.1)))))) = some r := H
 have A13 := YL A130; clear A130; replace H := Option.bind_eq_some_iff.mp H
 obtain ⟨⟨t364, t365, t368⟩, A140, H⟩ := H
 replace H : ((thalwegref06_Without.f k a0_0 l0_1 a1).bind fun bt370 => ((beacon_Check.f k t335 t336).bind fun t376 => ((thalwegref06_Right.f k a0_0 l0_1).bind fun t377 => (if ((t376 == 0) == t377) = true then (if (strOfNums t340).toList = (strOfNums t344).toList then (if t343 = t347 then (if t348 = t350 then (thalweglaw06_BeaconDoes.j0 k t356 t362 t368 bt370.2.2 (t349 == t351) a0_0 l0_1 t335 t336 t352 t353 t358 t359 t364 t365 bt370.1 bt370.2.1) else (thalweglaw06_BeaconDoes.j0 k t356 t362 t368 bt370.2.2 false a0_0 l0_1 t335 t336 t352 t353 t358 t359 t364 t365 bt370.1 bt370.2.1)) else (thalweglaw06_BeaconDoes.j0 k t356 t362 t368 bt370.2.2 false a0_0 l0_1 t335 t336 t352 t353 t358 t359 t364 t365 bt370.1 bt370.2.1)) else (thalweglaw06_BeaconDoes.j0 k t356 t362 t368 bt370.2.2 false a0_0 l0_1 t335 t336 t352 t353 t358 t359 t364 t365 bt370.1 bt370.2.1)) else (thalweglaw06_BeaconDoes.j0 k t356 t362 t368 bt370.2.2 false a0_0 l0_1 t335 t336 t352 t353 t358 t359 t364 t365 bt370.1 bt370.2.1))))) = some r := H
 have A14 := YL A140; clear A140; replace H := Option.bind_eq_some_iff.mp H
 obtain ⟨⟨t370, t371, t374⟩, A150, H⟩ := H
 replace H : ((beacon_Check.f k t335 t336).bind fun t376 => ((thalwegref06_Right.f k a0_0 l0_1).bind fun t377 => (if ((t376 == 0) == t377) = true then (if (strOfNums t340).toList = (strOfNums t344).toList then (if t343 = t347 then (if t348 = t350 then (thalweglaw06_BeaconDoes.j0 k t356 t362 t368 t374 (t349 == t351) a0_0 l0_1 t335 t336 t352 t353 t358 t359 t364 t365 t370 t371) else (thalweglaw06_BeaconDoes.j0 k t356 t362 t368 t374 false a0_0 l0_1 t335 t336 t352 t353 t358 t359 t364 t365 t370 t371)) else (thalweglaw06_BeaconDoes.j0 k t356 t362 t368 t374 false a0_0 l0_1 t335 t336 t352 t353 t358 t359 t364 t365 t370 t371)) else (thalweglaw06_BeaconDoes.j0 k t356 t362 t368 t374 false a0_0 l0_1 t335 t336 t352 t353 t358 t359 t364 t365 t370 t371)) else (thalweglaw06_BeaconDoes.j0 k t356 t362 t368 t374 false a0_0 l0_1 t335 t336 t352 t353 t358 t359 t364 t365 t370 t371)))) = some r := H
 have A15 := YL A150; clear A150; have HC16 := YL H; clear H
 go_enter Try.func6, Try.ntmps6
 go_upto_region 12 with (first | ((with_reducible refine gate_dst (N := 3) rfl ?_); refine box_event ?hg (N := 3) ?hd (cs := #[.int .i64 a0_0, .slice A0_1 l0_1.length c0_1]) (t := 25) ?hr ?_; (case hd => rfl); (case hg => rfl); (case hr => first | (go_simp; done) | (go_simp; rfl)); intro gb334 hg w17 hbox hb; have n0_ := YL (YD (by repeat (first | (with_reducible first | exact HB.out | apply YA | apply YB | apply YC) | exact HB.out)) hb); have n1_ := YL (hbox); have n2_ := YL ((by rw [hg]; exact (YE (by repeat (first | (with_reducible first | exact HB.out | apply YA | apply YB | apply YC) | exact HB.out))) : w.heap.size ≤ gb334)); have n3_ := YL ((by rw [hg]; exact (YE (by repeat (first | (with_reducible first | exact HB.out | apply YA | apply YB | apply YC) | exact HB.out))) : w.heap.size ≤ gb334)); clear HB; have HB := n0_; have BK334 := n1_; have GW334 := n2_; have GE334 := n3_; clear n0_ n1_ n2_ n3_; clear hb hbox hg; have q18_0 : w17.cell? ⟨gb334, 0, none⟩ = some (.int .i64 a0_0) := (YI BK334.out 0).trans rfl; have q18_1 : w17.cell? ⟨gb334, 1, none⟩ = some (.slice A0_1 l0_1.length c0_1) := (YI BK334.out 1).trans rfl; have f18_0 := YJ BK334.out 0; have f18_1 := YJ BK334.out 1) | ((with_reducible refine gate_callee (f := 15) rfl ?_); refine goesL_ (some 30) rfl rfl Try.func15 (by kernel_rfl) rfl #[.agg #[.int .i64 a0_0, .slice A0_1 l0_1.length c0_1]] rfl (by (try simp only [YP, List.map_cons, List.map_nil]); first | done | rfl | (simp only [YR, YQ]; rfl)) ?_; (with_reducible refine (thalwegref06_Own.calls a0_0 _ _ l0_1 t335 t336 _ ?side1 ?side2 A7.out).mono ?_); (case side1 => repeat (first | exact (Kd.C_below HR0_1.out HB.out) | (with_reducible refine Kd.C_alloc ?_ _) | (with_reducible refine Kd.C_drewN ?_ _) | (with_reducible refine Kd.C_drew ?_))); (case side2 => exact HC0_1.out); rintro e w19 ⟨v337, rfl, ho0, hb⟩; refine ⟨_, rfl, ?_⟩; have n0_ := YL (Kd.R_lower ho0 (YE (by repeat (first | (with_reducible first | exact HB.out | apply YA | apply YB | apply YC | refine below_set ?_ GE334.out) | exact HB.out)))); have n1_ := YL (YK (g := gb334) (o := .cells #[.int .i64 a0_0, .slice A0_1 l0_1.length c0_1] 25 (0, 0)) (by (with_reducible repeat (first | refine YF ?_ _ | refine YG ?_ | refine YH ?_ _)); exact BK334.out) hb); have n2_ := YL (YD (by repeat (first | (with_reducible first | exact HB.out | apply YA | apply YB | apply YC | refine below_set ?_ GE334.out) | exact HB.out)) hb); clear BK334; clear HB; have HO338 := n0_; have BK334 := n1_; have HB := n2_; clear n0_ n1_ n2_; (try clear hb); (try clear hb2); (try clear hk); (try clear hi); (try clear ho0)) | ((with_reducible refine gate_dst (N := 7) rfl ?_); refine box_event ?hg (N := 7) ?hd (cs := #[.int .i64 0, .slice none 0 0]) (t := 25) ?hr ?_; (case hd => rfl); (case hg => rfl); (case hr => first | (go_simp; done) | (go_simp; rfl)); intro gb339 hg w20 hbox hb; have n0_ := YL (YV (by (with_reducible repeat (first | apply YS | apply YT | apply YU)); exact HO338.out) hb); have n1_ := YL (YK (g := gb334) (o := .cells #[.int .i64 a0_0, .slice A0_1 l0_1.length c0_1] 25 (0, 0)) (by (with_reducible repeat (first | refine YF ?_ _ | refine YG ?_ | refine YH ?_ _)); exact BK334.out) hb); have n2_ := YL (YD (by repeat (first | (with_reducible first | exact HB.out | apply YA | apply YB | apply YC | refine below_set ?_ GE334.out) | exact HB.out)) hb); have n3_ := YL (hbox); have n4_ := YL ((by rw [hg]; exact (YE (by repeat (first | (with_reducible first | exact HB.out | apply YA | apply YB | apply YC | refine below_set ?_ GE334.out) | exact HB.out))) : w.heap.size ≤ gb339)); have n5_ := YL ((by rw [hg]; exact (YE (by repeat (first | (with_reducible first | exact HB.out | apply YA | apply YB | apply YC | refine below_set ?_ GE334.out) | exact HB.out))) : w.heap.size ≤ gb339)); have n6_ := YL ((by rw [hg]; exact Nat.ne_of_lt (blk_lt (g := gb334) (o := .cells #[.int .i64 a0_0, .slice A0_1 l0_1.length c0_1] 25 (0, 0)) (by (with_reducible repeat (first | refine YF ?_ _ | refine YG ?_ | refine YH ?_ _)); exact BK334.out)) : gb334 ≠ gb339)); have n7_ := YL ((by rw [hg]; exact Nat.ne_of_gt (blk_lt (g := gb334) (o := .cells #[.int .i64 a0_0, .slice A0_1 l0_1.length c0_1] 25 (0, 0)) (by (with_reducible repeat (first | refine YF ?_ _ | refine YG ?_ | refine YH ?_ _)); exact BK334.out)) : gb339 ≠ gb334)); clear HO338; clear BK334; clear HB; have HO338 := n0_; have BK334 := n1_; have HB := n2_; have BK339 := n3_; have GW339 := n4_; have GE339 := n5_; have NB334_339 := n6_; have NB339_334 := n7_; clear n0_ n1_ n2_ n3_ n4_ n5_ n6_ n7_; clear hb hbox hg; have hnb21 := NB339_334.out; have hnc21 := NB334_339.out; have q22_0 : w20.cell? ⟨gb339, 0, none⟩ = some (.int .i64 0) := (YI BK339.out 0).trans rfl; have q22_1 : w20.cell? ⟨gb339, 1, none⟩ = some (.slice none 0 0) := (YI BK339.out 1).trans rfl; have f22_0 := YJ BK339.out 0; have f22_1 := YJ BK339.out 1; obtain ⟨Ao23, co23, eo23⟩ := Kd.R_slice HO338.out; subst eo23) | ((with_reducible refine gate_callee (f := 12) rfl ?_); refine goesL_ (some 33) rfl rfl Try.func12 (by kernel_rfl) rfl #[.agg #[.int .i64 t335, .slice Ao23 t336.length co23]] rfl (by (try simp only [YP, List.map_cons, List.map_nil]); first | done | rfl | (simp only [YR, YQ]; rfl)) ?_; (with_reducible refine (beacon_Bytes.calls k t335 _ _ t336 t340 t343 _ ?side1 ?side2 A8.out).mono ?_); (case side1 => refine (Kd.R_reads' (e := 59) (base := w.heap.size) (ok := fun k_ => True) (n := t336.length) (c := co23) ?_).2.2; exact (by (with_reducible repeat (first | apply YS | apply YT | apply YU)); exact (Kd.R_mono (Kd.R_far (p := ⟨gb339, 1, none⟩) (Kd.R_far (p := ⟨gb339, 0, none⟩) (Kd.R_types HO338.out BK339.out (by decide)) (fun _ hk => hk.2) (.int .i64 t335)) (fun _ hk => hk.2) (.slice Ao23 t336.length co23)) (fun _ h_ => h_.1)))); (case side2 => exact (Kd.R_reads' HO338.out).2.1); rintro e w24 ⟨v341, rfl, ho0, hb⟩; refine ⟨_, rfl, ?_⟩; have n0_ := YL (YV (by (with_reducible repeat (first | apply YS | apply YT | apply YU)); exact (Kd.R_mono (Kd.R_far (p := ⟨gb339, 1, none⟩) (Kd.R_far (p := ⟨gb339, 0, none⟩) (Kd.R_types HO338.out BK339.out (by decide)) (fun _ hk => hk.2) (.int .i64 t335)) (fun _ hk => hk.2) (.slice Ao23 t336.length co23)) (fun _ h_ => h_.1))) hb); have n1_ := YL (Kd.R_lower ho0 (YE (by repeat (first | (with_reducible first | exact HB.out | apply YA | apply YB | apply YC | refine below_set ?_ GE334.out | refine below_set ?_ GE339.out) | exact HB.out)))); have n2_ := YL (YK (g := gb334) (o := .cells #[.int .i64 a0_0, .slice A0_1 l0_1.length c0_1] 25 (0, 0)) (by (with_reducible repeat (first | refine YF ?_ _ | refine YG ?_ | refine YH ?_ _)); refine blk_far ?_ NB334_339.out _; (with_reducible repeat (first | refine YF ?_ _ | refine YG ?_ | refine YH ?_ _)); refine blk_far ?_ NB334_339.out _; (with_reducible repeat (first | refine YF ?_ _ | refine YG ?_ | refine YH ?_ _)); exact BK334.out) hb); have n3_ := YL (YK (g := gb339) (o := .cells #[.int .i64 t335, .slice Ao23 t336.length co23] 25 (0, 0)) (by (with_reducible repeat (first | refine YF ?_ _ | refine YG ?_ | refine YH ?_ _)); refine blk_put (cs := #[.int .i64 t335, .slice none 0 0]) ?_ 1 _ rfl; (with_reducible repeat (first | refine YF ?_ _ | refine YG ?_ | refine YH ?_ _)); refine blk_put (cs := #[.int .i64 0, .slice none 0 0]) ?_ 0 _ rfl; (with_reducible repeat (first | refine YF ?_ _ | refine YG ?_ | refine YH ?_ _)); exact BK339.out) hb); have n4_ := YL (YD (by repeat (first | (with_reducible first | exact HB.out | apply YA | apply YB | apply YC | refine below_set ?_ GE334.out | refine below_set ?_ GE339.out) | exact HB.out)) hb); clear HO338; clear BK334; clear BK339; clear HB; have HO338 := n0_; have HO342 := n1_; have BK334 := n2_; have BK339 := n3_; have HB := n4_; clear n0_ n1_ n2_ n3_ n4_; (try clear hb); (try clear hb2); (try clear hk); (try clear hi); (try clear ho0); have q25_0 : w24.cell? ⟨gb334, 0, none⟩ = some (.int .i64 a0_0) := (YI BK334.out 0).trans rfl; have q25_1 : w24.cell? ⟨gb334, 1, none⟩ = some (.slice A0_1 l0_1.length c0_1) := (YI BK334.out 1).trans rfl; have f25_0 := YJ BK334.out 0; have f25_1 := YJ BK334.out 1) | ((with_reducible refine gate_callee (f := 16) rfl ?_); refine goesL_ (some 38) rfl rfl Try.func16 (by kernel_rfl) rfl #[.agg #[.int .i64 a0_0, .slice A0_1 l0_1.length c0_1]] rfl (by (try simp only [YP, List.map_cons, List.map_nil]); first | done | rfl | (simp only [YR, YQ]; rfl)) ?_; (with_reducible refine (thalwegref06_Bytes.calls k a0_0 _ _ l0_1 t344 t347 _ ?side1 ?side2 A9.out).mono ?_); (case side1 => repeat (first | exact (Kd.C_below HR0_1.out HB.out) | (with_reducible refine Kd.C_alloc ?_ _) | (with_reducible refine Kd.C_drewN ?_ _) | (with_reducible refine Kd.C_drew ?_))); (case side2 => exact HC0_1.out); rintro e w26 ⟨v345, rfl, ho0, hb⟩; refine ⟨_, rfl, ?_⟩; have n0_ := YL (YV (by (with_reducible repeat (first | apply YS | apply YT | apply YU)); exact HO338.out) hb); have n1_ := YL (Kd.R_elder' (by (with_reducible repeat (first | apply YS | apply YT | apply YU)); exact HO342.out) (Kd.R_base ho0) hb); have n2_ := YL (Kd.R_lower (Kd.R_new' ho0 (Kd.R_lt (by (with_reducible repeat (first | apply YS | apply YT | apply YU)); exact HO342.out))) (YE (by repeat (first | (with_reducible first | exact HB.out | apply YA | apply YB | apply YC | refine below_set ?_ GE334.out | refine below_set ?_ GE339.out) | exact HB.out)))); have n3_ := YL (YK (g := gb334) (o := .cells #[.int .i64 a0_0, .slice A0_1 l0_1.length c0_1] 25 (0, 0)) (by (with_reducible repeat (first | refine YF ?_ _ | refine YG ?_ | refine YH ?_ _)); exact BK334.out) hb); have n4_ := YL (YK (g := gb339) (o := .cells #[.int .i64 t335, .slice Ao23 t336.length co23] 25 (0, 0)) (by (with_reducible repeat (first | refine YF ?_ _ | refine YG ?_ | refine YH ?_ _)); exact BK339.out) hb); have n5_ := YL (YD (by repeat (first | (with_reducible first | exact HB.out | apply YA | apply YB | apply YC | refine below_set ?_ GE334.out | refine below_set ?_ GE339.out) | exact HB.out)) hb); clear HO338; clear HO342; clear BK334; clear BK339; clear HB; have HO338 := n0_; have HO342 := n1_; have HO346 := n2_; have BK334 := n3_; have BK339 := n4_; have HB := n5_; clear n0_ n1_ n2_ n3_ n4_ n5_; (try clear hb); (try clear hb2); (try clear hk); (try clear hi); (try clear ho0); have q27_0 : w26.cell? ⟨gb339, 0, none⟩ = some (.int .i64 t335) := (YI BK339.out 0).trans rfl; have q27_1 : w26.cell? ⟨gb339, 1, none⟩ = some (.slice Ao23 t336.length co23) := (YI BK339.out 1).trans rfl; have f27_0 := YJ BK339.out 0; have f27_1 := YJ BK339.out 1) | ((with_reducible refine gate_callee (f := 17) rfl ?_); refine goesL_ (some 44) rfl rfl Try.func17 (by kernel_rfl) rfl #[.agg #[.int .i64 t335, .slice Ao23 t336.length co23], .int .i64 a1] rfl (by (try simp only [YP, List.map_cons, List.map_nil]); first | done | rfl | (simp only [YR, YQ]; rfl)) ?_; (with_reducible refine (beacon_Heard.calls t335 _ _ t336 a1 t348 t349 _ ?side1 ?side2 A10.out).mono ?_); (case side1 => repeat (first | exact (Kd.R_reads' HO338.out).2.2 | (with_reducible refine Kd.C_alloc ?_ _) | (with_reducible refine Kd.C_drewN ?_ _) | (with_reducible refine Kd.C_drew ?_))); (case side2 => exact (Kd.R_reads' HO338.out).2.1); rintro e w28 ⟨rfl, hb⟩; refine ⟨_, rfl, ?_⟩; have n0_ := YL (YV (by (with_reducible repeat (first | apply YS | apply YT | apply YU)); exact HO338.out) hb); have n1_ := YL (YV (by (with_reducible repeat (first | apply YS | apply YT | apply YU)); exact HO342.out) hb); have n2_ := YL (YV (by (with_reducible repeat (first | apply YS | apply YT | apply YU)); exact HO346.out) hb); have n3_ := YL (YK (g := gb334) (o := .cells #[.int .i64 a0_0, .slice A0_1 l0_1.length c0_1] 25 (0, 0)) (by (with_reducible repeat (first | refine YF ?_ _ | refine YG ?_ | refine YH ?_ _)); exact BK334.out) hb); have n4_ := YL (YK (g := gb339) (o := .cells #[.int .i64 t335, .slice Ao23 t336.length co23] 25 (0, 0)) (by (with_reducible repeat (first | refine YF ?_ _ | refine YG ?_ | refine YH ?_ _)); exact BK339.out) hb); have n5_ := YL (YD (by repeat (first | (with_reducible first | exact HB.out | apply YA | apply YB | apply YC | refine below_set ?_ GE334.out | refine below_set ?_ GE339.out) | exact HB.out)) hb); clear HO338; clear HO342; clear HO346; clear BK334; clear BK339; clear HB; have HO338 := n0_; have HO342 := n1_; have HO346 := n2_; have BK334 := n3_; have BK339 := n4_; have HB := n5_; clear n0_ n1_ n2_ n3_ n4_ n5_; (try clear hb); (try clear hb2); (try clear hk); (try clear hi); have q29_0 : w28.cell? ⟨gb334, 0, none⟩ = some (.int .i64 a0_0) := (YI BK334.out 0).trans rfl; have q29_1 : w28.cell? ⟨gb334, 1, none⟩ = some (.slice A0_1 l0_1.length c0_1) := (YI BK334.out 1).trans rfl; have f29_0 := YJ BK334.out 0; have f29_1 := YJ BK334.out 1) | ((with_reducible refine gate_callee (f := 18) rfl ?_); refine goesL_ (some 50) rfl rfl Try.func18 (by kernel_rfl) rfl #[.agg #[.int .i64 a0_0, .slice A0_1 l0_1.length c0_1], .int .i64 a1] rfl (by (try simp only [YP, List.map_cons, List.map_nil]); first | done | rfl | (simp only [YR, YQ]; rfl)) ?_; (with_reducible refine (thalwegref06_Heard.calls k a0_0 _ _ l0_1 a1 t350 t351 _ ?side1 ?side2 A11.out).mono ?_); (case side1 => repeat (first | exact (Kd.C_below HR0_1.out HB.out) | (with_reducible refine Kd.C_alloc ?_ _) | (with_reducible refine Kd.C_drewN ?_ _) | (with_reducible refine Kd.C_drew ?_))); (case side2 => exact HC0_1.out); rintro e w30 ⟨rfl, hb⟩; refine ⟨_, rfl, ?_⟩; have n0_ := YL (YV (by (with_reducible repeat (first | apply YS | apply YT | apply YU)); exact HO338.out) hb); have n1_ := YL (YV (by (with_reducible repeat (first | apply YS | apply YT | apply YU)); exact HO342.out) hb); have n2_ := YL (YV (by (with_reducible repeat (first | apply YS | apply YT | apply YU)); exact HO346.out) hb); have n3_ := YL (YK (g := gb334) (o := .cells #[.int .i64 a0_0, .slice A0_1 l0_1.length c0_1] 25 (0, 0)) (by (with_reducible repeat (first | refine YF ?_ _ | refine YG ?_ | refine YH ?_ _)); exact BK334.out) hb); have n4_ := YL (YK (g := gb339) (o := .cells #[.int .i64 t335, .slice Ao23 t336.length co23] 25 (0, 0)) (by (with_reducible repeat (first | refine YF ?_ _ | refine YG ?_ | refine YH ?_ _)); exact BK339.out) hb); have n5_ := YL (YD (by repeat (first | (with_reducible first | exact HB.out | apply YA | apply YB | apply YC | refine below_set ?_ GE334.out | refine below_set ?_ GE339.out) | exact HB.out)) hb); clear HO338; clear HO342; clear HO346; clear BK334; clear BK339; clear HB; have HO338 := n0_; have HO342 := n1_; have HO346 := n2_; have BK334 := n3_; have BK339 := n4_; have HB := n5_; clear n0_ n1_ n2_ n3_ n4_ n5_; (try clear hb); (try clear hb2); (try clear hk); (try clear hi); have q31_0 : w30.cell? ⟨gb339, 0, none⟩ = some (.int .i64 t335) := (YI BK339.out 0).trans rfl; have q31_1 : w30.cell? ⟨gb339, 1, none⟩ = some (.slice Ao23 t336.length co23) := (YI BK339.out 1).trans rfl; have f31_0 := YJ BK339.out 0; have f31_1 := YJ BK339.out 1) | ((with_reducible refine gate_callee (f := 14) rfl ?_); refine goesL_ (some 57) rfl rfl Try.func14 (by kernel_rfl) rfl #[.agg #[.int .i64 t335, .slice Ao23 t336.length co23], .int .i64 a1, .int .i64 a2] rfl (by (try simp only [YP, List.map_cons, List.map_nil]); first | done | rfl | (simp only [YR, YQ]; rfl)) ?_; (with_reducible refine (beacon_With.calls t335 _ _ t336 a1 a2 t352 t353 t356 _ ?side1 ?side2 A12.out).mono ?_); (case side1 => repeat (first | exact (Kd.R_reads' HO338.out).2.2 | (with_reducible refine Kd.C_alloc ?_ _) | (with_reducible refine Kd.C_drewN ?_ _) | (with_reducible refine Kd.C_drew ?_))); (case side2 => exact (Kd.R_reads' HO338.out).2.1); rintro e w32 ⟨v354, rfl, ho0, hb⟩; refine ⟨_, rfl, ?_⟩; have n0_ := YL (Kd.R_elder' (by (with_reducible repeat (first | apply YS | apply YT | apply YU)); exact HO338.out) (Kd.R_base ho0) hb); have n1_ := YL (YV (by (with_reducible repeat (first | apply YS | apply YT | apply YU)); exact HO342.out) hb); have n2_ := YL (YV (by (with_reducible repeat (first | apply YS | apply YT | apply YU)); exact HO346.out) hb); have n3_ := YL (Kd.R_lower (Kd.R_new' ho0 (Kd.R_lt (by (with_reducible repeat (first | apply YS | apply YT | apply YU)); exact HO338.out))) (YE (by repeat (first | (with_reducible first | exact HB.out | apply YA | apply YB | apply YC | refine below_set ?_ GE334.out | refine below_set ?_ GE339.out) | exact HB.out)))); have n4_ := YL (YK (g := gb334) (o := .cells #[.int .i64 a0_0, .slice A0_1 l0_1.length c0_1] 25 (0, 0)) (by (with_reducible repeat (first | refine YF ?_ _ | refine YG ?_ | refine YH ?_ _)); exact BK334.out) hb); have n5_ := YL (YK (g := gb339) (o := .cells #[.int .i64 t335, .slice Ao23 t336.length co23] 25 (0, 0)) (by (with_reducible repeat (first | refine YF ?_ _ | refine YG ?_ | refine YH ?_ _)); exact BK339.out) hb); have n6_ := YL (YD (by repeat (first | (with_reducible first | exact HB.out | apply YA | apply YB | apply YC | refine below_set ?_ GE334.out | refine below_set ?_ GE339.out) | exact HB.out)) hb); clear HO338; clear HO342; clear HO346; clear BK334; clear BK339; clear HB; have HO338 := n0_; have HO342 := n1_; have HO346 := n2_; have HO355 := n3_; have BK334 := n4_; have BK339 := n5_; have HB := n6_; clear n0_ n1_ n2_ n3_ n4_ n5_ n6_; (try clear hb); (try clear hb2); (try clear hk); (try clear hi); (try clear ho0)) | ((with_reducible refine gate_dst (N := 16) rfl ?_); refine box_event ?hg (N := 16) ?hd (cs := #[.int .i64 0, .slice none 0 0]) (t := 25) ?hr ?_; (case hd => rfl); (case hg => rfl); (case hr => first | (go_simp; done) | (go_simp; rfl)); intro gb357 hg w33 hbox hb; have n0_ := YL (YV (by (with_reducible repeat (first | apply YS | apply YT | apply YU)); exact HO338.out) hb); have n1_ := YL (YV (by (with_reducible repeat (first | apply YS | apply YT | apply YU)); exact HO342.out) hb); have n2_ := YL (YV (by (with_reducible repeat (first | apply YS | apply YT | apply YU)); exact HO346.out) hb); have n3_ := YL (YV (by (with_reducible repeat (first | apply YS | apply YT | apply YU)); exact HO355.out) hb); have n4_ := YL (YK (g := gb334) (o := .cells #[.int .i64 a0_0, .slice A0_1 l0_1.length c0_1] 25 (0, 0)) (by (with_reducible repeat (first | refine YF ?_ _ | refine YG ?_ | refine YH ?_ _)); exact BK334.out) hb); have n5_ := YL (YK (g := gb339) (o := .cells #[.int .i64 t335, .slice Ao23 t336.length co23] 25 (0, 0)) (by (with_reducible repeat (first | refine YF ?_ _ | refine YG ?_ | refine YH ?_ _)); exact BK339.out) hb); have n6_ := YL (YD (by repeat (first | (with_reducible first | exact HB.out | apply YA | apply YB | apply YC | refine below_set ?_ GE334.out | refine below_set ?_ GE339.out) | exact HB.out)) hb); have n7_ := YL (hbox); have n8_ := YL ((by rw [hg]; exact (YE (by repeat (first | (with_reducible first | exact HB.out | apply YA | apply YB | apply YC | refine below_set ?_ GE334.out | refine below_set ?_ GE339.out) | exact HB.out))) : w.heap.size ≤ gb357)); have n9_ := YL ((by rw [hg]; exact (YE (by repeat (first | (with_reducible first | exact HB.out | apply YA | apply YB | apply YC | refine below_set ?_ GE334.out | refine below_set ?_ GE339.out) | exact HB.out))) : w.heap.size ≤ gb357)); have n10_ := YL ((by rw [hg]; exact Nat.ne_of_lt (blk_lt (g := gb334) (o := .cells #[.int .i64 a0_0, .slice A0_1 l0_1.length c0_1] 25 (0, 0)) (by (with_reducible repeat (first | refine YF ?_ _ | refine YG ?_ | refine YH ?_ _)); exact BK334.out)) : gb334 ≠ gb357)); have n11_ := YL ((by rw [hg]; exact Nat.ne_of_gt (blk_lt (g := gb334) (o := .cells #[.int .i64 a0_0, .slice A0_1 l0_1.length c0_1] 25 (0, 0)) (by (with_reducible repeat (first | refine YF ?_ _ | refine YG ?_ | refine YH ?_ _)); exact BK334.out)) : gb357 ≠ gb334)); have n12_ := YL ((by rw [hg]; exact Nat.ne_of_lt (blk_lt (g := gb339) (o := .cells #[.int .i64 t335, .slice Ao23 t336.length co23] 25 (0, 0)) (by (with_reducible repeat (first | refine YF ?_ _ | refine YG ?_ | refine YH ?_ _)); exact BK339.out)) : gb339 ≠ gb357)); have n13_ := YL ((by rw [hg]; exact Nat.ne_of_gt (blk_lt (g := gb339) (o := .cells #[.int .i64 t335, .slice Ao23 t336.length co23] 25 (0, 0)) (by (with_reducible repeat (first | refine YF ?_ _ | refine YG ?_ | refine YH ?_ _)); exact BK339.out)) : gb357 ≠ gb339)); clear HO338; clear HO342; clear HO346; clear HO355; clear BK334; clear BK339; clear HB; have HO338 := n0_; have HO342 := n1_; have HO346 := n2_; have HO355 := n3_; have BK334 := n4_; have BK339 := n5_; have HB := n6_; have BK357 := n7_; have GW357 := n8_; have GE357 := n9_; have NB334_357 := n10_; have NB357_334 := n11_; have NB339_357 := n12_; have NB357_339 := n13_; clear n0_ n1_ n2_ n3_ n4_ n5_ n6_ n7_ n8_ n9_ n10_ n11_ n12_ n13_; clear hb hbox hg; have hnb34 := NB357_334.out; have hnc34 := NB334_357.out; have hnb35 := NB357_339.out; have hnc35 := NB339_357.out; have q36_0 : w33.cell? ⟨gb357, 0, none⟩ = some (.int .i64 0) := (YI BK357.out 0).trans rfl; have q36_1 : w33.cell? ⟨gb357, 1, none⟩ = some (.slice none 0 0) := (YI BK357.out 1).trans rfl; have f36_0 := YJ BK357.out 0; have f36_1 := YJ BK357.out 1; obtain ⟨Ao37, co37, eo37⟩ := Kd.R_slice HO355.out; subst eo37; have q38_0 : w33.cell? ⟨gb334, 0, none⟩ = some (.int .i64 a0_0) := (YI BK334.out 0).trans rfl; have q38_1 : w33.cell? ⟨gb334, 1, none⟩ = some (.slice A0_1 l0_1.length c0_1) := (YI BK334.out 1).trans rfl; have f38_0 := YJ BK334.out 0; have f38_1 := YJ BK334.out 1) | ((with_reducible refine gate_callee (f := 19) rfl ?_); refine goesL_ (some 64) rfl rfl Try.func19 (by kernel_rfl) rfl #[.agg #[.int .i64 a0_0, .slice A0_1 l0_1.length c0_1], .int .i64 a1, .int .i64 a2] rfl (by (try simp only [YP, List.map_cons, List.map_nil]); first | done | rfl | (simp only [YR, YQ]; rfl)) ?_; (with_reducible refine (thalwegref06_With.calls k a0_0 _ _ l0_1 a1 a2 t358 t359 t362 _ ?side1 ?side2 A13.out).mono ?_); (case side1 => exact Kd.C_below HR0_1.out (by repeat (first | (with_reducible first | exact HB.out | apply YA | apply YB | apply YC | refine below_set ?_ GE334.out | refine below_set ?_ GE339.out | refine below_set ?_ GE357.out) | exact HB.out))); (case side2 => exact HC0_1.out); rintro e w39 ⟨v360, rfl, ho0, hb⟩; refine ⟨_, rfl, ?_⟩; have n0_ := YL (Kd.R_elder' (by (with_reducible repeat (first | apply YS | apply YT | apply YU)); exact (Kd.R_mono (Kd.R_far (p := ⟨gb357, 1, none⟩) (Kd.R_far (p := ⟨gb357, 0, none⟩) (Kd.R_types HO338.out BK357.out (by decide)) (fun _ hk => hk.2) (.int .i64 t352)) (fun _ hk => hk.2) (.slice Ao37 t353.length co37)) (fun _ h_ => h_.1))) (Kd.R_base ho0) hb); have n1_ := YL (YV (by (with_reducible repeat (first | apply YS | apply YT | apply YU)); exact (Kd.R_mono (Kd.R_far (p := ⟨gb357, 1, none⟩) (Kd.R_far (p := ⟨gb357, 0, none⟩) (Kd.R_types HO342.out BK357.out (by decide)) (fun _ hk => hk.2) (.int .i64 t352)) (fun _ hk => hk.2) (.slice Ao37 t353.length co37)) (fun _ h_ => h_.1))) hb); have n2_ := YL (YV (by (with_reducible repeat (first | apply YS | apply YT | apply YU)); exact (Kd.R_mono (Kd.R_far (p := ⟨gb357, 1, none⟩) (Kd.R_far (p := ⟨gb357, 0, none⟩) (Kd.R_types HO346.out BK357.out (by decide)) (fun _ hk => hk.2) (.int .i64 t352)) (fun _ hk => hk.2) (.slice Ao37 t353.length co37)) (fun _ h_ => h_.1))) hb); have n3_ := YL (Kd.R_elder' (by (with_reducible repeat (first | apply YS | apply YT | apply YU)); exact (Kd.R_mono (Kd.R_far (p := ⟨gb357, 1, none⟩) (Kd.R_far (p := ⟨gb357, 0, none⟩) (Kd.R_types HO355.out BK357.out (by decide)) (fun _ hk => hk.2) (.int .i64 t352)) (fun _ hk => hk.2) (.slice Ao37 t353.length co37)) (fun _ h_ => h_.1))) (Kd.R_base ho0) hb); have n4_ := YL (Kd.R_lower (Kd.R_new' (Kd.R_new' ho0 (Kd.R_lt (by (with_reducible repeat (first | apply YS | apply YT | apply YU)); exact (Kd.R_mono (Kd.R_far (p := ⟨gb357, 1, none⟩) (Kd.R_far (p := ⟨gb357, 0, none⟩) (Kd.R_types HO338.out BK357.out (by decide)) (fun _ hk => hk.2) (.int .i64 t352)) (fun _ hk => hk.2) (.slice Ao37 t353.length co37)) (fun _ h_ => h_.1))))) (Kd.R_lt (by (with_reducible repeat (first | apply YS | apply YT | apply YU)); exact (Kd.R_mono (Kd.R_far (p := ⟨gb357, 1, none⟩) (Kd.R_far (p := ⟨gb357, 0, none⟩) (Kd.R_types HO355.out BK357.out (by decide)) (fun _ hk => hk.2) (.int .i64 t352)) (fun _ hk => hk.2) (.slice Ao37 t353.length co37)) (fun _ h_ => h_.1))))) (YE (by repeat (first | (with_reducible first | exact HB.out | apply YA | apply YB | apply YC | refine below_set ?_ GE334.out | refine below_set ?_ GE339.out | refine below_set ?_ GE357.out) | exact HB.out)))); have n5_ := YL (YK (g := gb334) (o := .cells #[.int .i64 a0_0, .slice A0_1 l0_1.length c0_1] 25 (0, 0)) (by (with_reducible repeat (first | refine YF ?_ _ | refine YG ?_ | refine YH ?_ _)); refine blk_far ?_ NB334_357.out _; (with_reducible repeat (first | refine YF ?_ _ | refine YG ?_ | refine YH ?_ _)); refine blk_far ?_ NB334_357.out _; (with_reducible repeat (first | refine YF ?_ _ | refine YG ?_ | refine YH ?_ _)); exact BK334.out) hb); have n6_ := YL (YK (g := gb339) (o := .cells #[.int .i64 t335, .slice Ao23 t336.length co23] 25 (0, 0)) (by (with_reducible repeat (first | refine YF ?_ _ | refine YG ?_ | refine YH ?_ _)); refine blk_far ?_ NB339_357.out _; (with_reducible repeat (first | refine YF ?_ _ | refine YG ?_ | refine YH ?_ _)); refine blk_far ?_ NB339_357.out _; (with_reducible repeat (first | refine YF ?_ _ | refine YG ?_ | refine YH ?_ _)); exact BK339.out) hb); have n7_ := YL (YK (g := gb357) (o := .cells #[.int .i64 t352, .slice Ao37 t353.length co37] 25 (0, 0)) (by (with_reducible repeat (first | refine YF ?_ _ | refine YG ?_ | refine YH ?_ _)); refine blk_put (cs := #[.int .i64 t352, .slice none 0 0]) ?_ 1 _ rfl; (with_reducible repeat (first | refine YF ?_ _ | refine YG ?_ | refine YH ?_ _)); refine blk_put (cs := #[.int .i64 0, .slice none 0 0]) ?_ 0 _ rfl; (with_reducible repeat (first | refine YF ?_ _ | refine YG ?_ | refine YH ?_ _)); exact BK357.out) hb); have n8_ := YL (YD (by repeat (first | (with_reducible first | exact HB.out | apply YA | apply YB | apply YC | refine below_set ?_ GE334.out | refine below_set ?_ GE339.out | refine below_set ?_ GE357.out) | exact HB.out)) hb); clear HO338; clear HO342; clear HO346; clear HO355; clear BK334; clear BK339; clear BK357; clear HB; have HO338 := n0_; have HO342 := n1_; have HO346 := n2_; have HO355 := n3_; have HO361 := n4_; have BK334 := n5_; have BK339 := n6_; have BK357 := n7_; have HB := n8_; clear n0_ n1_ n2_ n3_ n4_ n5_ n6_ n7_ n8_; (try clear hb); (try clear hb2); (try clear hk); (try clear hi); (try clear ho0)) | ((with_reducible refine gate_dst (N := 18) rfl ?_); refine box_event ?hg (N := 18) ?hd (cs := #[.int .i64 0, .slice none 0 0]) (t := 25) ?hr ?_; (case hd => rfl); (case hg => rfl); (case hr => first | (go_simp; done) | (go_simp; rfl)); intro gb363 hg w40 hbox hb; have n0_ := YL (YV (by (with_reducible repeat (first | apply YS | apply YT | apply YU)); exact HO338.out) hb); have n1_ := YL (YV (by (with_reducible repeat (first | apply YS | apply YT | apply YU)); exact HO342.out) hb); have n2_ := YL (YV (by (with_reducible repeat (first | apply YS | apply YT | apply YU)); exact HO346.out) hb); have n3_ := YL (YV (by (with_reducible repeat (first | apply YS | apply YT | apply YU)); exact HO355.out) hb); have n4_ := YL (YV (by (with_reducible repeat (first | apply YS | apply YT | apply YU)); exact HO361.out) hb); have n5_ := YL (YK (g := gb334) (o := .cells #[.int .i64 a0_0, .slice A0_1 l0_1.length c0_1] 25 (0, 0)) (by (with_reducible repeat (first | refine YF ?_ _ | refine YG ?_ | refine YH ?_ _)); exact BK334.out) hb); have n6_ := YL (YK (g := gb339) (o := .cells #[.int .i64 t335, .slice Ao23 t336.length co23] 25 (0, 0)) (by (with_reducible repeat (first | refine YF ?_ _ | refine YG ?_ | refine YH ?_ _)); exact BK339.out) hb); have n7_ := YL (YK (g := gb357) (o := .cells #[.int .i64 t352, .slice Ao37 t353.length co37] 25 (0, 0)) (by (with_reducible repeat (first | refine YF ?_ _ | refine YG ?_ | refine YH ?_ _)); exact BK357.out) hb); have n8_ := YL (YD (by repeat (first | (with_reducible first | exact HB.out | apply YA | apply YB | apply YC | refine below_set ?_ GE334.out | refine below_set ?_ GE339.out | refine below_set ?_ GE357.out) | exact HB.out)) hb); have n9_ := YL (hbox); have n10_ := YL ((by rw [hg]; exact (YE (by repeat (first | (with_reducible first | exact HB.out | apply YA | apply YB | apply YC | refine below_set ?_ GE334.out | refine below_set ?_ GE339.out | refine below_set ?_ GE357.out) | exact HB.out))) : w.heap.size ≤ gb363)); have n11_ := YL ((by rw [hg]; exact (YE (by repeat (first | (with_reducible first | exact HB.out | apply YA | apply YB | apply YC | refine below_set ?_ GE334.out | refine below_set ?_ GE339.out | refine below_set ?_ GE357.out) | exact HB.out))) : w.heap.size ≤ gb363)); have n12_ := YL ((by rw [hg]; exact Nat.ne_of_lt (blk_lt (g := gb334) (o := .cells #[.int .i64 a0_0, .slice A0_1 l0_1.length c0_1] 25 (0, 0)) (by (with_reducible repeat (first | refine YF ?_ _ | refine YG ?_ | refine YH ?_ _)); exact BK334.out)) : gb334 ≠ gb363)); have n13_ := YL ((by rw [hg]; exact Nat.ne_of_gt (blk_lt (g := gb334) (o := .cells #[.int .i64 a0_0, .slice A0_1 l0_1.length c0_1] 25 (0, 0)) (by (with_reducible repeat (first | refine YF ?_ _ | refine YG ?_ | refine YH ?_ _)); exact BK334.out)) : gb363 ≠ gb334)); have n14_ := YL ((by rw [hg]; exact Nat.ne_of_lt (blk_lt (g := gb339) (o := .cells #[.int .i64 t335, .slice Ao23 t336.length co23] 25 (0, 0)) (by (with_reducible repeat (first | refine YF ?_ _ | refine YG ?_ | refine YH ?_ _)); exact BK339.out)) : gb339 ≠ gb363)); have n15_ := YL ((by rw [hg]; exact Nat.ne_of_gt (blk_lt (g := gb339) (o := .cells #[.int .i64 t335, .slice Ao23 t336.length co23] 25 (0, 0)) (by (with_reducible repeat (first | refine YF ?_ _ | refine YG ?_ | refine YH ?_ _)); exact BK339.out)) : gb363 ≠ gb339)); have n16_ := YL ((by rw [hg]; exact Nat.ne_of_lt (blk_lt (g := gb357) (o := .cells #[.int .i64 t352, .slice Ao37 t353.length co37] 25 (0, 0)) (by (with_reducible repeat (first | refine YF ?_ _ | refine YG ?_ | refine YH ?_ _)); exact BK357.out)) : gb357 ≠ gb363)); have n17_ := YL ((by rw [hg]; exact Nat.ne_of_gt (blk_lt (g := gb357) (o := .cells #[.int .i64 t352, .slice Ao37 t353.length co37] 25 (0, 0)) (by (with_reducible repeat (first | refine YF ?_ _ | refine YG ?_ | refine YH ?_ _)); exact BK357.out)) : gb363 ≠ gb357)); clear HO338; clear HO342; clear HO346; clear HO355; clear HO361; clear BK334; clear BK339; clear BK357; clear HB; have HO338 := n0_; have HO342 := n1_; have HO346 := n2_; have HO355 := n3_; have HO361 := n4_; have BK334 := n5_; have BK339 := n6_; have BK357 := n7_; have HB := n8_; have BK363 := n9_; have GW363 := n10_; have GE363 := n11_; have NB334_363 := n12_; have NB363_334 := n13_; have NB339_363 := n14_; have NB363_339 := n15_; have NB357_363 := n16_; have NB363_357 := n17_; clear n0_ n1_ n2_ n3_ n4_ n5_ n6_ n7_ n8_ n9_ n10_ n11_ n12_ n13_ n14_ n15_ n16_ n17_; clear hb hbox hg; have hnb41 := NB363_334.out; have hnc41 := NB334_363.out; have hnb42 := NB363_339.out; have hnc42 := NB339_363.out; have hnb43 := NB363_357.out; have hnc43 := NB357_363.out; have q44_0 : w40.cell? ⟨gb363, 0, none⟩ = some (.int .i64 0) := (YI BK363.out 0).trans rfl; have q44_1 : w40.cell? ⟨gb363, 1, none⟩ = some (.slice none 0 0) := (YI BK363.out 1).trans rfl; have f44_0 := YJ BK363.out 0; have f44_1 := YJ BK363.out 1; obtain ⟨Ao45, co45, eo45⟩ := Kd.R_slice HO361.out; subst eo45; have q46_0 : w40.cell? ⟨gb339, 0, none⟩ = some (.int .i64 t335) := (YI BK339.out 0).trans rfl; have q46_1 : w40.cell? ⟨gb339, 1, none⟩ = some (.slice Ao23 t336.length co23) := (YI BK339.out 1).trans rfl; have f46_0 := YJ BK339.out 0; have f46_1 := YJ BK339.out 1) | ((with_reducible refine gate_callee (f := 20) rfl ?_); refine goesL_ (some 70) rfl rfl Try.func20 (by kernel_rfl) rfl #[.agg #[.int .i64 t335, .slice Ao23 t336.length co23], .int .i64 a1] rfl (by (try simp only [YP, List.map_cons, List.map_nil]); first | done | rfl | (simp only [YR, YQ]; rfl)) ?_; (with_reducible refine (beacon_Without.calls t335 _ _ t336 a1 t364 t365 t368 _ ?side1 ?side2 A14.out).mono ?_); (case side1 => refine (Kd.R_reads' (e := 59) (base := w.heap.size) (ok := fun k_ => ((True ∧ some k_ ≠ (.slice Ao37 t353.length co37 : Value).ownBlock) ∧ some k_ ≠ (.slice Ao45 t359.length co45 : Value).ownBlock)) (n := t336.length) (c := co23) ?_).2.2; exact (by (with_reducible repeat (first | apply YS | apply YT | apply YU)); exact (Kd.R_mono (Kd.R_far (p := ⟨gb363, 1, none⟩) (Kd.R_far (p := ⟨gb363, 0, none⟩) (Kd.R_types HO338.out BK363.out (by decide)) (fun _ hk => hk.2) (.int .i64 t358)) (fun _ hk => hk.2) (.slice Ao45 t359.length co45)) (fun _ h_ => h_.1)))); (case side2 => exact (Kd.R_reads' HO338.out).2.1); rintro e w47 ⟨v366, rfl, ho0, hb⟩; refine ⟨_, rfl, ?_⟩; have n0_ := YL (Kd.R_elder' (by (with_reducible repeat (first | apply YS | apply YT | apply YU)); exact (Kd.R_mono (Kd.R_far (p := ⟨gb363, 1, none⟩) (Kd.R_far (p := ⟨gb363, 0, none⟩) (Kd.R_types HO338.out BK363.out (by decide)) (fun _ hk => hk.2) (.int .i64 t358)) (fun _ hk => hk.2) (.slice Ao45 t359.length co45)) (fun _ h_ => h_.1))) (Kd.R_base ho0) hb); have n1_ := YL (YV (by (with_reducible repeat (first | apply YS | apply YT | apply YU)); exact (Kd.R_mono (Kd.R_far (p := ⟨gb363, 1, none⟩) (Kd.R_far (p := ⟨gb363, 0, none⟩) (Kd.R_types HO342.out BK363.out (by decide)) (fun _ hk => hk.2) (.int .i64 t358)) (fun _ hk => hk.2) (.slice Ao45 t359.length co45)) (fun _ h_ => h_.1))) hb); have n2_ := YL (YV (by (with_reducible repeat (first | apply YS | apply YT | apply YU)); exact (Kd.R_mono (Kd.R_far (p := ⟨gb363, 1, none⟩) (Kd.R_far (p := ⟨gb363, 0, none⟩) (Kd.R_types HO346.out BK363.out (by decide)) (fun _ hk => hk.2) (.int .i64 t358)) (fun _ hk => hk.2) (.slice Ao45 t359.length co45)) (fun _ h_ => h_.1))) hb); have n3_ := YL (Kd.R_elder' (by (with_reducible repeat (first | apply YS | apply YT | apply YU)); exact (Kd.R_mono (Kd.R_far (p := ⟨gb363, 1, none⟩) (Kd.R_far (p := ⟨gb363, 0, none⟩) (Kd.R_types HO355.out BK363.out (by decide)) (fun _ hk => hk.2) (.int .i64 t358)) (fun _ hk => hk.2) (.slice Ao45 t359.length co45)) (fun _ h_ => h_.1))) (Kd.R_base ho0) hb); have n4_ := YL (Kd.R_elder' (by (with_reducible repeat (first | apply YS | apply YT | apply YU)); exact (Kd.R_mono (Kd.R_far (p := ⟨gb363, 1, none⟩) (Kd.R_far (p := ⟨gb363, 0, none⟩) (Kd.R_types HO361.out BK363.out (by decide)) (fun _ hk => hk.2) (.int .i64 t358)) (fun _ hk => hk.2) (.slice Ao45 t359.length co45)) (fun _ h_ => h_.1))) (Kd.R_base ho0) hb); have n5_ := YL (Kd.R_lower (Kd.R_new' (Kd.R_new' (Kd.R_new' ho0 (Kd.R_lt (by (with_reducible repeat (first | apply YS | apply YT | apply YU)); exact (Kd.R_mono (Kd.R_far (p := ⟨gb363, 1, none⟩) (Kd.R_far (p := ⟨gb363, 0, none⟩) (Kd.R_types HO338.out BK363.out (by decide)) (fun _ hk => hk.2) (.int .i64 t358)) (fun _ hk => hk.2) (.slice Ao45 t359.length co45)) (fun _ h_ => h_.1))))) (Kd.R_lt (by (with_reducible repeat (first | apply YS | apply YT | apply YU)); exact (Kd.R_mono (Kd.R_far (p := ⟨gb363, 1, none⟩) (Kd.R_far (p := ⟨gb363, 0, none⟩) (Kd.R_types HO355.out BK363.out (by decide)) (fun _ hk => hk.2) (.int .i64 t358)) (fun _ hk => hk.2) (.slice Ao45 t359.length co45)) (fun _ h_ => h_.1))))) (Kd.R_lt (by (with_reducible repeat (first | apply YS | apply YT | apply YU)); exact (Kd.R_mono (Kd.R_far (p := ⟨gb363, 1, none⟩) (Kd.R_far (p := ⟨gb363, 0, none⟩) (Kd.R_types HO361.out BK363.out (by decide)) (fun _ hk => hk.2) (.int .i64 t358)) (fun _ hk => hk.2) (.slice Ao45 t359.length co45)) (fun _ h_ => h_.1))))) (YE (by repeat (first | (with_reducible first | exact HB.out | apply YA | apply YB | apply YC | refine below_set ?_ GE334.out | refine below_set ?_ GE339.out | refine below_set ?_ GE357.out | refine below_set ?_ GE363.out) | exact HB.out)))); have n6_ := YL (YK (g := gb334) (o := .cells #[.int .i64 a0_0, .slice A0_1 l0_1.length c0_1] 25 (0, 0)) (by (with_reducible repeat (first | refine YF ?_ _ | refine YG ?_ | refine YH ?_ _)); refine blk_far ?_ NB334_363.out _; (with_reducible repeat (first | refine YF ?_ _ | refine YG ?_ | refine YH ?_ _)); refine blk_far ?_ NB334_363.out _; (with_reducible repeat (first | refine YF ?_ _ | refine YG ?_ | refine YH ?_ _)); exact BK334.out) hb); have n7_ := YL (YK (g := gb339) (o := .cells #[.int .i64 t335, .slice Ao23 t336.length co23] 25 (0, 0)) (by (with_reducible repeat (first | refine YF ?_ _ | refine YG ?_ | refine YH ?_ _)); refine blk_far ?_ NB339_363.out _; (with_reducible repeat (first | refine YF ?_ _ | refine YG ?_ | refine YH ?_ _)); refine blk_far ?_ NB339_363.out _; (with_reducible repeat (first | refine YF ?_ _ | refine YG ?_ | refine YH ?_ _)); exact BK339.out) hb); have n8_ := YL (YK (g := gb357) (o := .cells #[.int .i64 t352, .slice Ao37 t353.length co37] 25 (0, 0)) (by (with_reducible repeat (first | refine YF ?_ _ | refine YG ?_ | refine YH ?_ _)); refine blk_far ?_ NB357_363.out _; (with_reducible repeat (first | refine YF ?_ _ | refine YG ?_ | refine YH ?_ _)); refine blk_far ?_ NB357_363.out _; (with_reducible repeat (first | refine YF ?_ _ | refine YG ?_ | refine YH ?_ _)); exact BK357.out) hb); have n9_ := YL (YK (g := gb363) (o := .cells #[.int .i64 t358, .slice Ao45 t359.length co45] 25 (0, 0)) (by (with_reducible repeat (first | refine YF ?_ _ | refine YG ?_ | refine YH ?_ _)); refine blk_put (cs := #[.int .i64 t358, .slice none 0 0]) ?_ 1 _ rfl; (with_reducible repeat (first | refine YF ?_ _ | refine YG ?_ | refine YH ?_ _)); refine blk_put (cs := #[.int .i64 0, .slice none 0 0]) ?_ 0 _ rfl; (with_reducible repeat (first | refine YF ?_ _ | refine YG ?_ | refine YH ?_ _)); exact BK363.out) hb); have n10_ := YL (YD (by repeat (first | (with_reducible first | exact HB.out | apply YA | apply YB | apply YC | refine below_set ?_ GE334.out | refine below_set ?_ GE339.out | refine below_set ?_ GE357.out | refine below_set ?_ GE363.out) | exact HB.out)) hb); clear HO338; clear HO342; clear HO346; clear HO355; clear HO361; clear BK334; clear BK339; clear BK357; clear BK363; clear HB; have HO338 := n0_; have HO342 := n1_; have HO346 := n2_; have HO355 := n3_; have HO361 := n4_; have HO367 := n5_; have BK334 := n6_; have BK339 := n7_; have BK357 := n8_; have BK363 := n9_; have HB := n10_; clear n0_ n1_ n2_ n3_ n4_ n5_ n6_ n7_ n8_ n9_ n10_; (try clear hb); (try clear hb2); (try clear hk); (try clear hi); (try clear ho0)) | ((with_reducible refine gate_dst (N := 20) rfl ?_); refine box_event ?hg (N := 20) ?hd (cs := #[.int .i64 0, .slice none 0 0]) (t := 25) ?hr ?_; (case hd => rfl); (case hg => rfl); (case hr => first | (go_simp; done) | (go_simp; rfl)); intro gb369 hg w48 hbox hb; have n0_ := YL (YV (by (with_reducible repeat (first | apply YS | apply YT | apply YU)); exact HO338.out) hb); have n1_ := YL (YV (by (with_reducible repeat (first | apply YS | apply YT | apply YU)); exact HO342.out) hb); have n2_ := YL (YV (by (with_reducible repeat (first | apply YS | apply YT | apply YU)); exact HO346.out) hb); have n3_ := YL (YV (by (with_reducible repeat (first | apply YS | apply YT | apply YU)); exact HO355.out) hb); have n4_ := YL (YV (by (with_reducible repeat (first | apply YS | apply YT | apply YU)); exact HO361.out) hb); have n5_ := YL (YV (by (with_reducible repeat (first | apply YS | apply YT | apply YU)); exact HO367.out) hb); have n6_ := YL (YK (g := gb334) (o := .cells #[.int .i64 a0_0, .slice A0_1 l0_1.length c0_1] 25 (0, 0)) (by (with_reducible repeat (first | refine YF ?_ _ | refine YG ?_ | refine YH ?_ _)); exact BK334.out) hb); have n7_ := YL (YK (g := gb339) (o := .cells #[.int .i64 t335, .slice Ao23 t336.length co23] 25 (0, 0)) (by (with_reducible repeat (first | refine YF ?_ _ | refine YG ?_ | refine YH ?_ _)); exact BK339.out) hb); have n8_ := YL (YK (g := gb357) (o := .cells #[.int .i64 t352, .slice Ao37 t353.length co37] 25 (0, 0)) (by (with_reducible repeat (first | refine YF ?_ _ | refine YG ?_ | refine YH ?_ _)); exact BK357.out) hb); have n9_ := YL (YK (g := gb363) (o := .cells #[.int .i64 t358, .slice Ao45 t359.length co45] 25 (0, 0)) (by (with_reducible repeat (first | refine YF ?_ _ | refine YG ?_ | refine YH ?_ _)); exact BK363.out) hb); have n10_ := YL (YD (by repeat (first | (with_reducible first | exact HB.out | apply YA | apply YB | apply YC | refine below_set ?_ GE334.out | refine below_set ?_ GE339.out | refine below_set ?_ GE357.out | refine below_set ?_ GE363.out) | exact HB.out)) hb); have n11_ := YL (hbox); have n12_ := YL ((by rw [hg]; exact (YE (by repeat (first | (with_reducible first | exact HB.out | apply YA | apply YB | apply YC | refine below_set ?_ GE334.out | refine below_set ?_ GE339.out | refine below_set ?_ GE357.out | refine below_set ?_ GE363.out) | exact HB.out))) : w.heap.size ≤ gb369)); have n13_ := YL ((by rw [hg]; exact (YE (by repeat (first | (with_reducible first | exact HB.out | apply YA | apply YB | apply YC | refine below_set ?_ GE334.out | refine below_set ?_ GE339.out | refine below_set ?_ GE357.out | refine below_set ?_ GE363.out) | exact HB.out))) : w.heap.size ≤ gb369)); have n14_ := YL ((by rw [hg]; exact Nat.ne_of_lt (blk_lt (g := gb334) (o := .cells #[.int .i64 a0_0, .slice A0_1 l0_1.length c0_1] 25 (0, 0)) (by (with_reducible repeat (first | refine YF ?_ _ | refine YG ?_ | refine YH ?_ _)); exact BK334.out)) : gb334 ≠ gb369)); have n15_ := YL ((by rw [hg]; exact Nat.ne_of_gt (blk_lt (g := gb334) (o := .cells #[.int .i64 a0_0, .slice A0_1 l0_1.length c0_1] 25 (0, 0)) (by (with_reducible repeat (first | refine YF ?_ _ | refine YG ?_ | refine YH ?_ _)); exact BK334.out)) : gb369 ≠ gb334)); have n16_ := YL ((by rw [hg]; exact Nat.ne_of_lt (blk_lt (g := gb339) (o := .cells #[.int .i64 t335, .slice Ao23 t336.length co23] 25 (0, 0)) (by (with_reducible repeat (first | refine YF ?_ _ | refine YG ?_ | refine YH ?_ _)); exact BK339.out)) : gb339 ≠ gb369)); have n17_ := YL ((by rw [hg]; exact Nat.ne_of_gt (blk_lt (g := gb339) (o := .cells #[.int .i64 t335, .slice Ao23 t336.length co23] 25 (0, 0)) (by (with_reducible repeat (first | refine YF ?_ _ | refine YG ?_ | refine YH ?_ _)); exact BK339.out)) : gb369 ≠ gb339)); have n18_ := YL ((by rw [hg]; exact Nat.ne_of_lt (blk_lt (g := gb357) (o := .cells #[.int .i64 t352, .slice Ao37 t353.length co37] 25 (0, 0)) (by (with_reducible repeat (first | refine YF ?_ _ | refine YG ?_ | refine YH ?_ _)); exact BK357.out)) : gb357 ≠ gb369)); have n19_ := YL ((by rw [hg]; exact Nat.ne_of_gt (blk_lt (g := gb357) (o := .cells #[.int .i64 t352, .slice Ao37 t353.length co37] 25 (0, 0)) (by (with_reducible repeat (first | refine YF ?_ _ | refine YG ?_ | refine YH ?_ _)); exact BK357.out)) : gb369 ≠ gb357)); have n20_ := YL ((by rw [hg]; exact Nat.ne_of_lt (blk_lt (g := gb363) (o := .cells #[.int .i64 t358, .slice Ao45 t359.length co45] 25 (0, 0)) (by (with_reducible repeat (first | refine YF ?_ _ | refine YG ?_ | refine YH ?_ _)); exact BK363.out)) : gb363 ≠ gb369)); have n21_ := YL ((by rw [hg]; exact Nat.ne_of_gt (blk_lt (g := gb363) (o := .cells #[.int .i64 t358, .slice Ao45 t359.length co45] 25 (0, 0)) (by (with_reducible repeat (first | refine YF ?_ _ | refine YG ?_ | refine YH ?_ _)); exact BK363.out)) : gb369 ≠ gb363)); clear HO338; clear HO342; clear HO346; clear HO355; clear HO361; clear HO367; clear BK334; clear BK339; clear BK357; clear BK363; clear HB; have HO338 := n0_; have HO342 := n1_; have HO346 := n2_; have HO355 := n3_; have HO361 := n4_; have HO367 := n5_; have BK334 := n6_; have BK339 := n7_; have BK357 := n8_; have BK363 := n9_; have HB := n10_; have BK369 := n11_; have GW369 := n12_; have GE369 := n13_; have NB334_369 := n14_; have NB369_334 := n15_; have NB339_369 := n16_; have NB369_339 := n17_; have NB357_369 := n18_; have NB369_357 := n19_; have NB363_369 := n20_; have NB369_363 := n21_; clear n0_ n1_ n2_ n3_ n4_ n5_ n6_ n7_ n8_ n9_ n10_ n11_ n12_ n13_ n14_ n15_ n16_ n17_ n18_ n19_ n20_ n21_; clear hb hbox hg; have hnb49 := NB369_334.out; have hnc49 := NB334_369.out; have hnb50 := NB369_339.out; have hnc50 := NB339_369.out; have hnb51 := NB369_357.out; have hnc51 := NB357_369.out; have hnb52 := NB369_363.out; have hnc52 := NB363_369.out; have q53_0 : w48.cell? ⟨gb369, 0, none⟩ = some (.int .i64 0) := (YI BK369.out 0).trans rfl; have q53_1 : w48.cell? ⟨gb369, 1, none⟩ = some (.slice none 0 0) := (YI BK369.out 1).trans rfl; have f53_0 := YJ BK369.out 0; have f53_1 := YJ BK369.out 1; obtain ⟨Ao54, co54, eo54⟩ := Kd.R_slice HO367.out; subst eo54; have q55_0 : w48.cell? ⟨gb334, 0, none⟩ = some (.int .i64 a0_0) := (YI BK334.out 0).trans rfl; have q55_1 : w48.cell? ⟨gb334, 1, none⟩ = some (.slice A0_1 l0_1.length c0_1) := (YI BK334.out 1).trans rfl; have f55_0 := YJ BK334.out 0; have f55_1 := YJ BK334.out 1) | ((with_reducible refine gate_callee (f := 21) rfl ?_); refine goesL_ (some 76) rfl rfl Try.func21 (by kernel_rfl) rfl #[.agg #[.int .i64 a0_0, .slice A0_1 l0_1.length c0_1], .int .i64 a1] rfl (by (try simp only [YP, List.map_cons, List.map_nil]); first | done | rfl | (simp only [YR, YQ]; rfl)) ?_; (with_reducible refine (thalwegref06_Without.calls k a0_0 _ _ l0_1 a1 t370 t371 t374 _ ?side1 ?side2 A15.out).mono ?_); (case side1 => exact Kd.C_below HR0_1.out (by repeat (first | (with_reducible first | exact HB.out | apply YA | apply YB | apply YC | refine below_set ?_ GE334.out | refine below_set ?_ GE339.out | refine below_set ?_ GE357.out | refine below_set ?_ GE363.out | refine below_set ?_ GE369.out) | exact HB.out))); (case side2 => exact HC0_1.out); rintro e w56 ⟨v372, rfl, ho0, hb⟩; refine ⟨_, rfl, ?_⟩; have n0_ := YL (Kd.R_elder' (by (with_reducible repeat (first | apply YS | apply YT | apply YU)); exact (Kd.R_mono (Kd.R_far (p := ⟨gb369, 1, none⟩) (Kd.R_far (p := ⟨gb369, 0, none⟩) (Kd.R_types HO338.out BK369.out (by decide)) (fun _ hk => hk.2) (.int .i64 t364)) (fun _ hk => hk.2) (.slice Ao54 t365.length co54)) (fun _ h_ => h_.1))) (Kd.R_base ho0) hb); have n1_ := YL (YV (by (with_reducible repeat (first | apply YS | apply YT | apply YU)); exact (Kd.R_mono (Kd.R_far (p := ⟨gb369, 1, none⟩) (Kd.R_far (p := ⟨gb369, 0, none⟩) (Kd.R_types HO342.out BK369.out (by decide)) (fun _ hk => hk.2) (.int .i64 t364)) (fun _ hk => hk.2) (.slice Ao54 t365.length co54)) (fun _ h_ => h_.1))) hb); have n2_ := YL (YV (by (with_reducible repeat (first | apply YS | apply YT | apply YU)); exact (Kd.R_mono (Kd.R_far (p := ⟨gb369, 1, none⟩) (Kd.R_far (p := ⟨gb369, 0, none⟩) (Kd.R_types HO346.out BK369.out (by decide)) (fun _ hk => hk.2) (.int .i64 t364)) (fun _ hk => hk.2) (.slice Ao54 t365.length co54)) (fun _ h_ => h_.1))) hb); have n3_ := YL (Kd.R_elder' (by (with_reducible repeat (first | apply YS | apply YT | apply YU)); exact (Kd.R_mono (Kd.R_far (p := ⟨gb369, 1, none⟩) (Kd.R_far (p := ⟨gb369, 0, none⟩) (Kd.R_types HO355.out BK369.out (by decide)) (fun _ hk => hk.2) (.int .i64 t364)) (fun _ hk => hk.2) (.slice Ao54 t365.length co54)) (fun _ h_ => h_.1))) (Kd.R_base ho0) hb); have n4_ := YL (Kd.R_elder' (by (with_reducible repeat (first | apply YS | apply YT | apply YU)); exact (Kd.R_mono (Kd.R_far (p := ⟨gb369, 1, none⟩) (Kd.R_far (p := ⟨gb369, 0, none⟩) (Kd.R_types HO361.out BK369.out (by decide)) (fun _ hk => hk.2) (.int .i64 t364)) (fun _ hk => hk.2) (.slice Ao54 t365.length co54)) (fun _ h_ => h_.1))) (Kd.R_base ho0) hb); have n5_ := YL (Kd.R_elder' (by (with_reducible repeat (first | apply YS | apply YT | apply YU)); exact (Kd.R_mono (Kd.R_far (p := ⟨gb369, 1, none⟩) (Kd.R_far (p := ⟨gb369, 0, none⟩) (Kd.R_types HO367.out BK369.out (by decide)) (fun _ hk => hk.2) (.int .i64 t364)) (fun _ hk => hk.2) (.slice Ao54 t365.length co54)) (fun _ h_ => h_.1))) (Kd.R_base ho0) hb); have n6_ := YL (Kd.R_lower (Kd.R_new' (Kd.R_new' (Kd.R_new' (Kd.R_new' ho0 (Kd.R_lt (by (with_reducible repeat (first | apply YS | apply YT | apply YU)); exact (Kd.R_mono (Kd.R_far (p := ⟨gb369, 1, none⟩) (Kd.R_far (p := ⟨gb369, 0, none⟩) (Kd.R_types HO338.out BK369.out (by decide)) (fun _ hk => hk.2) (.int .i64 t364)) (fun _ hk => hk.2) (.slice Ao54 t365.length co54)) (fun _ h_ => h_.1))))) (Kd.R_lt (by (with_reducible repeat (first | apply YS | apply YT | apply YU)); exact (Kd.R_mono (Kd.R_far (p := ⟨gb369, 1, none⟩) (Kd.R_far (p := ⟨gb369, 0, none⟩) (Kd.R_types HO355.out BK369.out (by decide)) (fun _ hk => hk.2) (.int .i64 t364)) (fun _ hk => hk.2) (.slice Ao54 t365.length co54)) (fun _ h_ => h_.1))))) (Kd.R_lt (by (with_reducible repeat (first | apply YS | apply YT | apply YU)); exact (Kd.R_mono (Kd.R_far (p := ⟨gb369, 1, none⟩) (Kd.R_far (p := ⟨gb369, 0, none⟩) (Kd.R_types HO361.out BK369.out (by decide)) (fun _ hk => hk.2) (.int .i64 t364)) (fun _ hk => hk.2) (.slice Ao54 t365.length co54)) (fun _ h_ => h_.1))))) (Kd.R_lt (by (with_reducible repeat (first | apply YS | apply YT | apply YU)); exact (Kd.R_mono (Kd.R_far (p := ⟨gb369, 1, none⟩) (Kd.R_far (p := ⟨gb369, 0, none⟩) (Kd.R_types HO367.out BK369.out (by decide)) (fun _ hk => hk.2) (.int .i64 t364)) (fun _ hk => hk.2) (.slice Ao54 t365.length co54)) (fun _ h_ => h_.1))))) (YE (by repeat (first | (with_reducible first | exact HB.out | apply YA | apply YB | apply YC | refine below_set ?_ GE334.out | refine below_set ?_ GE339.out | refine below_set ?_ GE357.out | refine below_set ?_ GE363.out | refine below_set ?_ GE369.out) | exact HB.out)))); have n7_ := YL (YK (g := gb334) (o := .cells #[.int .i64 a0_0, .slice A0_1 l0_1.length c0_1] 25 (0, 0)) (by (with_reducible repeat (first | refine YF ?_ _ | refine YG ?_ | refine YH ?_ _)); refine blk_far ?_ NB334_369.out _; (with_reducible repeat (first | refine YF ?_ _ | refine YG ?_ | refine YH ?_ _)); refine blk_far ?_ NB334_369.out _; (with_reducible repeat (first | refine YF ?_ _ | refine YG ?_ | refine YH ?_ _)); exact BK334.out) hb); have n8_ := YL (YK (g := gb339) (o := .cells #[.int .i64 t335, .slice Ao23 t336.length co23] 25 (0, 0)) (by (with_reducible repeat (first | refine YF ?_ _ | refine YG ?_ | refine YH ?_ _)); refine blk_far ?_ NB339_369.out _; (with_reducible repeat (first | refine YF ?_ _ | refine YG ?_ | refine YH ?_ _)); refine blk_far ?_ NB339_369.out _; (with_reducible repeat (first | refine YF ?_ _ | refine YG ?_ | refine YH ?_ _)); exact BK339.out) hb); have n9_ := YL (YK (g := gb357) (o := .cells #[.int .i64 t352, .slice Ao37 t353.length co37] 25 (0, 0)) (by (with_reducible repeat (first | refine YF ?_ _ | refine YG ?_ | refine YH ?_ _)); refine blk_far ?_ NB357_369.out _; (with_reducible repeat (first | refine YF ?_ _ | refine YG ?_ | refine YH ?_ _)); refine blk_far ?_ NB357_369.out _; (with_reducible repeat (first | refine YF ?_ _ | refine YG ?_ | refine YH ?_ _)); exact BK357.out) hb); have n10_ := YL (YK (g := gb363) (o := .cells #[.int .i64 t358, .slice Ao45 t359.length co45] 25 (0, 0)) (by (with_reducible repeat (first | refine YF ?_ _ | refine YG ?_ | refine YH ?_ _)); refine blk_far ?_ NB363_369.out _; (with_reducible repeat (first | refine YF ?_ _ | refine YG ?_ | refine YH ?_ _)); refine blk_far ?_ NB363_369.out _; (with_reducible repeat (first | refine YF ?_ _ | refine YG ?_ | refine YH ?_ _)); exact BK363.out) hb); have n11_ := YL (YK (g := gb369) (o := .cells #[.int .i64 t364, .slice Ao54 t365.length co54] 25 (0, 0)) (by (with_reducible repeat (first | refine YF ?_ _ | refine YG ?_ | refine YH ?_ _)); refine blk_put (cs := #[.int .i64 t364, .slice none 0 0]) ?_ 1 _ rfl; (with_reducible repeat (first | refine YF ?_ _ | refine YG ?_ | refine YH ?_ _)); refine blk_put (cs := #[.int .i64 0, .slice none 0 0]) ?_ 0 _ rfl; (with_reducible repeat (first | refine YF ?_ _ | refine YG ?_ | refine YH ?_ _)); exact BK369.out) hb); have n12_ := YL (YD (by repeat (first | (with_reducible first | exact HB.out | apply YA | apply YB | apply YC | refine below_set ?_ GE334.out | refine below_set ?_ GE339.out | refine below_set ?_ GE357.out | refine below_set ?_ GE363.out | refine below_set ?_ GE369.out) | exact HB.out)) hb); clear HO338; clear HO342; clear HO346; clear HO355; clear HO361; clear HO367; clear BK334; clear BK339; clear BK357; clear BK363; clear BK369; clear HB; have HO338 := n0_; have HO342 := n1_; have HO346 := n2_; have HO355 := n3_; have HO361 := n4_; have HO367 := n5_; have HO373 := n6_; have BK334 := n7_; have BK339 := n8_; have BK357 := n9_; have BK363 := n10_; have BK369 := n11_; have HB := n12_; clear n0_ n1_ n2_ n3_ n4_ n5_ n6_ n7_ n8_ n9_ n10_ n11_ n12_; (try clear hb); (try clear hb2); (try clear hk); (try clear hi); (try clear ho0)) | ((with_reducible refine gate_dst (N := 22) rfl ?_); refine box_event ?hg (N := 22) ?hd (cs := #[.int .i64 0, .slice none 0 0]) (t := 25) ?hr ?_; (case hd => rfl); (case hg => rfl); (case hr => first | (go_simp; done) | (go_simp; rfl)); intro gb375 hg w57 hbox hb; have n0_ := YL (YV (by (with_reducible repeat (first | apply YS | apply YT | apply YU)); exact HO338.out) hb); have n1_ := YL (YV (by (with_reducible repeat (first | apply YS | apply YT | apply YU)); exact HO342.out) hb); have n2_ := YL (YV (by (with_reducible repeat (first | apply YS | apply YT | apply YU)); exact HO346.out) hb); have n3_ := YL (YV (by (with_reducible repeat (first | apply YS | apply YT | apply YU)); exact HO355.out) hb); have n4_ := YL (YV (by (with_reducible repeat (first | apply YS | apply YT | apply YU)); exact HO361.out) hb); have n5_ := YL (YV (by (with_reducible repeat (first | apply YS | apply YT | apply YU)); exact HO367.out) hb); have n6_ := YL (YV (by (with_reducible repeat (first | apply YS | apply YT | apply YU)); exact HO373.out) hb); have n7_ := YL (YK (g := gb334) (o := .cells #[.int .i64 a0_0, .slice A0_1 l0_1.length c0_1] 25 (0, 0)) (by (with_reducible repeat (first | refine YF ?_ _ | refine YG ?_ | refine YH ?_ _)); exact BK334.out) hb); have n8_ := YL (YK (g := gb339) (o := .cells #[.int .i64 t335, .slice Ao23 t336.length co23] 25 (0, 0)) (by (with_reducible repeat (first | refine YF ?_ _ | refine YG ?_ | refine YH ?_ _)); exact BK339.out) hb); have n9_ := YL (YK (g := gb357) (o := .cells #[.int .i64 t352, .slice Ao37 t353.length co37] 25 (0, 0)) (by (with_reducible repeat (first | refine YF ?_ _ | refine YG ?_ | refine YH ?_ _)); exact BK357.out) hb); have n10_ := YL (YK (g := gb363) (o := .cells #[.int .i64 t358, .slice Ao45 t359.length co45] 25 (0, 0)) (by (with_reducible repeat (first | refine YF ?_ _ | refine YG ?_ | refine YH ?_ _)); exact BK363.out) hb); have n11_ := YL (YK (g := gb369) (o := .cells #[.int .i64 t364, .slice Ao54 t365.length co54] 25 (0, 0)) (by (with_reducible repeat (first | refine YF ?_ _ | refine YG ?_ | refine YH ?_ _)); exact BK369.out) hb); have n12_ := YL (YD (by repeat (first | (with_reducible first | exact HB.out | apply YA | apply YB | apply YC | refine below_set ?_ GE334.out | refine below_set ?_ GE339.out | refine below_set ?_ GE357.out | refine below_set ?_ GE363.out | refine below_set ?_ GE369.out) | exact HB.out)) hb); have n13_ := YL (hbox); have n14_ := YL ((by rw [hg]; exact (YE (by repeat (first | (with_reducible first | exact HB.out | apply YA | apply YB | apply YC | refine below_set ?_ GE334.out | refine below_set ?_ GE339.out | refine below_set ?_ GE357.out | refine below_set ?_ GE363.out | refine below_set ?_ GE369.out) | exact HB.out))) : w.heap.size ≤ gb375)); have n15_ := YL ((by rw [hg]; exact (YE (by repeat (first | (with_reducible first | exact HB.out | apply YA | apply YB | apply YC | refine below_set ?_ GE334.out | refine below_set ?_ GE339.out | refine below_set ?_ GE357.out | refine below_set ?_ GE363.out | refine below_set ?_ GE369.out) | exact HB.out))) : w.heap.size ≤ gb375)); have n16_ := YL ((by rw [hg]; exact Nat.ne_of_lt (blk_lt (g := gb334) (o := .cells #[.int .i64 a0_0, .slice A0_1 l0_1.length c0_1] 25 (0, 0)) (by (with_reducible repeat (first | refine YF ?_ _ | refine YG ?_ | refine YH ?_ _)); exact BK334.out)) : gb334 ≠ gb375)); have n17_ := YL ((by rw [hg]; exact Nat.ne_of_gt (blk_lt (g := gb334) (o := .cells #[.int .i64 a0_0, .slice A0_1 l0_1.length c0_1] 25 (0, 0)) (by (with_reducible repeat (first | refine YF ?_ _ | refine YG ?_ | refine YH ?_ _)); exact BK334.out)) : gb375 ≠ gb334)); have n18_ := YL ((by rw [hg]; exact Nat.ne_of_lt (blk_lt (g := gb339) (o := .cells #[.int .i64 t335, .slice Ao23 t336.length co23] 25 (0, 0)) (by (with_reducible repeat (first | refine YF ?_ _ | refine YG ?_ | refine YH ?_ _)); exact BK339.out)) : gb339 ≠ gb375)); have n19_ := YL ((by rw [hg]; exact Nat.ne_of_gt (blk_lt (g := gb339) (o := .cells #[.int .i64 t335, .slice Ao23 t336.length co23] 25 (0, 0)) (by (with_reducible repeat (first | refine YF ?_ _ | refine YG ?_ | refine YH ?_ _)); exact BK339.out)) : gb375 ≠ gb339)); have n20_ := YL ((by rw [hg]; exact Nat.ne_of_lt (blk_lt (g := gb357) (o := .cells #[.int .i64 t352, .slice Ao37 t353.length co37] 25 (0, 0)) (by (with_reducible repeat (first | refine YF ?_ _ | refine YG ?_ | refine YH ?_ _)); exact BK357.out)) : gb357 ≠ gb375)); have n21_ := YL ((by rw [hg]; exact Nat.ne_of_gt (blk_lt (g := gb357) (o := .cells #[.int .i64 t352, .slice Ao37 t353.length co37] 25 (0, 0)) (by (with_reducible repeat (first | refine YF ?_ _ | refine YG ?_ | refine YH ?_ _)); exact BK357.out)) : gb375 ≠ gb357)); have n22_ := YL ((by rw [hg]; exact Nat.ne_of_lt (blk_lt (g := gb363) (o := .cells #[.int .i64 t358, .slice Ao45 t359.length co45] 25 (0, 0)) (by (with_reducible repeat (first | refine YF ?_ _ | refine YG ?_ | refine YH ?_ _)); exact BK363.out)) : gb363 ≠ gb375)); have n23_ := YL ((by rw [hg]; exact Nat.ne_of_gt (blk_lt (g := gb363) (o := .cells #[.int .i64 t358, .slice Ao45 t359.length co45] 25 (0, 0)) (by (with_reducible repeat (first | refine YF ?_ _ | refine YG ?_ | refine YH ?_ _)); exact BK363.out)) : gb375 ≠ gb363)); have n24_ := YL ((by rw [hg]; exact Nat.ne_of_lt (blk_lt (g := gb369) (o := .cells #[.int .i64 t364, .slice Ao54 t365.length co54] 25 (0, 0)) (by (with_reducible repeat (first | refine YF ?_ _ | refine YG ?_ | refine YH ?_ _)); exact BK369.out)) : gb369 ≠ gb375)); have n25_ := YL ((by rw [hg]; exact Nat.ne_of_gt (blk_lt (g := gb369) (o := .cells #[.int .i64 t364, .slice Ao54 t365.length co54] 25 (0, 0)) (by (with_reducible repeat (first | refine YF ?_ _ | refine YG ?_ | refine YH ?_ _)); exact BK369.out)) : gb375 ≠ gb369)); clear HO338; clear HO342; clear HO346; clear HO355; clear HO361; clear HO367; clear HO373; clear BK334; clear BK339; clear BK357; clear BK363; clear BK369; clear HB; have HO338 := n0_; have HO342 := n1_; have HO346 := n2_; have HO355 := n3_; have HO361 := n4_; have HO367 := n5_; have HO373 := n6_; have BK334 := n7_; have BK339 := n8_; have BK357 := n9_; have BK363 := n10_; have BK369 := n11_; have HB := n12_; have BK375 := n13_; have GW375 := n14_; have GE375 := n15_; have NB334_375 := n16_; have NB375_334 := n17_; have NB339_375 := n18_; have NB375_339 := n19_; have NB357_375 := n20_; have NB375_357 := n21_; have NB363_375 := n22_; have NB375_363 := n23_; have NB369_375 := n24_; have NB375_369 := n25_; clear n0_ n1_ n2_ n3_ n4_ n5_ n6_ n7_ n8_ n9_ n10_ n11_ n12_ n13_ n14_ n15_ n16_ n17_ n18_ n19_ n20_ n21_ n22_ n23_ n24_ n25_; clear hb hbox hg; have hnb58 := NB375_334.out; have hnc58 := NB334_375.out; have hnb59 := NB375_339.out; have hnc59 := NB339_375.out; have hnb60 := NB375_357.out; have hnc60 := NB357_375.out; have hnb61 := NB375_363.out; have hnc61 := NB363_375.out; have hnb62 := NB375_369.out; have hnc62 := NB369_375.out; have q63_0 : w57.cell? ⟨gb375, 0, none⟩ = some (.int .i64 0) := (YI BK375.out 0).trans rfl; have q63_1 : w57.cell? ⟨gb375, 1, none⟩ = some (.slice none 0 0) := (YI BK375.out 1).trans rfl; have f63_0 := YJ BK375.out 0; have f63_1 := YJ BK375.out 1; obtain ⟨Ao64, co64, eo64⟩ := Kd.R_slice HO373.out; subst eo64))
 (try simp only [Act.put, YM, YN, YO])
 go_cut [24] (fun v24 wc => ∃ (kq : Nat) (x24_15 : Bool), v24 = .bool x24_15 ∧ Aside0 (thalweglaw06_BeaconDoes.j0 kq t356 t362 t368 t374 x24_15 a0_0 l0_1 t335 t336 t352 t353 t358 t359 t364 t365 t370 t371 = some r) ∧ Aside0 (kq ≤ k) ∧ Aside0 (Kd.R k59 59 wc w.heap.size (fun k_ => some k_ ≠ ((.slice Ao37 t353.length co37) : Value).ownBlock ∧ some k_ ≠ ((.slice Ao45 t359.length co45) : Value).ownBlock ∧ some k_ ≠ ((.slice Ao54 t365.length co54) : Value).ownBlock ∧ some k_ ≠ ((.slice Ao64 t371.length co64) : Value).ownBlock) (.slice Ao23 t336.length co23) t336) ∧ Aside0 (Kd.R k59 59 wc w.heap.size (fun k_ => some k_ ≠ ((.slice Ao23 t336.length co23) : Value).ownBlock ∧ some k_ ≠ ((.slice Ao45 t359.length co45) : Value).ownBlock ∧ some k_ ≠ ((.slice Ao54 t365.length co54) : Value).ownBlock ∧ some k_ ≠ ((.slice Ao64 t371.length co64) : Value).ownBlock) (.slice Ao37 t353.length co37) t353) ∧ Aside0 (Kd.R k59 59 wc w.heap.size (fun k_ => some k_ ≠ ((.slice Ao23 t336.length co23) : Value).ownBlock ∧ some k_ ≠ ((.slice Ao37 t353.length co37) : Value).ownBlock ∧ some k_ ≠ ((.slice Ao54 t365.length co54) : Value).ownBlock ∧ some k_ ≠ ((.slice Ao64 t371.length co64) : Value).ownBlock) (.slice Ao45 t359.length co45) t359) ∧ Aside0 (Kd.R k59 59 wc w.heap.size (fun k_ => some k_ ≠ ((.slice Ao23 t336.length co23) : Value).ownBlock ∧ some k_ ≠ ((.slice Ao37 t353.length co37) : Value).ownBlock ∧ some k_ ≠ ((.slice Ao45 t359.length co45) : Value).ownBlock ∧ some k_ ≠ ((.slice Ao64 t371.length co64) : Value).ownBlock) (.slice Ao54 t365.length co54) t365) ∧ Aside0 (Kd.R k59 59 wc w.heap.size (fun k_ => some k_ ≠ ((.slice Ao23 t336.length co23) : Value).ownBlock ∧ some k_ ≠ ((.slice Ao37 t353.length co37) : Value).ownBlock ∧ some k_ ≠ ((.slice Ao45 t359.length co45) : Value).ownBlock ∧ some k_ ≠ ((.slice Ao54 t365.length co54) : Value).ownBlock) (.slice Ao64 t371.length co64) t371) ∧ Aside0 (wc.heap[gb334]? = some (.cells #[.int .i64 a0_0, (.slice A0_1 l0_1.length c0_1)] 25 (0, 0))) ∧ Aside0 (wc.heap[gb339]? = some (.cells #[.int .i64 t335, (.slice Ao23 t336.length co23)] 25 (0, 0))) ∧ Aside0 (wc.heap[gb357]? = some (.cells #[.int .i64 t352, (.slice Ao37 t353.length co37)] 25 (0, 0))) ∧ Aside0 (wc.heap[gb363]? = some (.cells #[.int .i64 t358, (.slice Ao45 t359.length co45)] 25 (0, 0))) ∧ Aside0 (wc.heap[gb369]? = some (.cells #[.int .i64 t364, (.slice Ao54 t365.length co54)] 25 (0, 0))) ∧ Aside0 (wc.heap[gb375]? = some (.cells #[.int .i64 t370, (.slice Ao64 t371.length co64)] 25 (0, 0))) ∧ Aside0 (Below w.heap.size w wc))
 case first =>
  have H := HC16.out
  clear HC16; replace H := Option.bind_eq_some_iff.mp H; obtain ⟨t376, A650, H⟩ := H
  replace H : ((thalwegref06_Right.f k a0_0 l0_1).bind fun t377 => (if ((t376 == 0) == t377) = true then (if (strOfNums t340).toList = (strOfNums t344).toList then (if t343 = t347 then (if t348 = t350 then (thalweglaw06_BeaconDoes.j0 k t356 t362 t368 t374 (t349 == t351) a0_0 l0_1 t335 t336 t352 t353 t358 t359 t364 t365 t370 t371) else (thalweglaw06_BeaconDoes.j0 k t356 t362 t368 t374 false a0_0 l0_1 t335 t336 t352 t353 t358 t359 t364 t365 t370 t371)) else (thalweglaw06_BeaconDoes.j0 k t356 t362 t368 t374 false a0_0 l0_1 t335 t336 t352 t353 t358 t359 t364 t365 t370 t371)) else (thalweglaw06_BeaconDoes.j0 k t356 t362 t368 t374 false a0_0 l0_1 t335 t336 t352 t353 t358 t359 t364 t365 t370 t371)) else (thalweglaw06_BeaconDoes.j0 k t356 t362 t368 t374 false a0_0 l0_1 t335 t336 t352 t353 t358 t359 t364 t365 t370 t371))) = some r := H
  have A65 := YL A650; clear A650; replace H := Option.bind_eq_some_iff.mp H; obtain ⟨t377, A660, H⟩ := H
  replace H : (if ((t376 == 0) == t377) = true then (if (strOfNums t340).toList = (strOfNums t344).toList then (if t343 = t347 then (if t348 = t350 then (thalweglaw06_BeaconDoes.j0 k t356 t362 t368 t374 (t349 == t351) a0_0 l0_1 t335 t336 t352 t353 t358 t359 t364 t365 t370 t371) else (thalweglaw06_BeaconDoes.j0 k t356 t362 t368 t374 false a0_0 l0_1 t335 t336 t352 t353 t358 t359 t364 t365 t370 t371)) else (thalweglaw06_BeaconDoes.j0 k t356 t362 t368 t374 false a0_0 l0_1 t335 t336 t352 t353 t358 t359 t364 t365 t370 t371)) else (thalweglaw06_BeaconDoes.j0 k t356 t362 t368 t374 false a0_0 l0_1 t335 t336 t352 t353 t358 t359 t364 t365 t370 t371)) else (thalweglaw06_BeaconDoes.j0 k t356 t362 t368 t374 false a0_0 l0_1 t335 t336 t352 t353 t358 t359 t364 t365 t370 t371)) = some r := H
  have A66 := YL A660; clear A660
  by_cases c67 : ((t376 == 0) == t377) = true
  ·rw [if_pos c67] at H
   have c67b0 : ((t376 == 0) == t377) = true := c67
   (try (have c67b1 : decide ((t376 == 0) = t377) = true := by simpa using c67))
   (try (have c67b2 : ((t376 == 0) == t377) = true := by simpa using c67))
   clear c67
   (first | rw [c67b0] | (simp only [i64_w, i32_w]; rw [c67b0]) | rw [c67b1] | skip)
   by_cases c68 : (strOfNums t340).toList = (strOfNums t344).toList
   ·rw [if_pos c68] at H
    have c68b0 : ((strOfNums t340).toList == (strOfNums t344).toList) = true := beq_iff_eq.mpr c68
    have c68b1 : ((strOfNums t340).toList != (strOfNums t344).toList) = false := bne_eq_false_iff_eq.mpr c68
    clear c68
    by_cases c69 : t343 = t347
    ·rw [if_pos c69] at H
     have c69b0 : (t343 == t347) = true := beq_iff_eq.mpr c69
     have c69b1 : (t343 != t347) = false := bne_eq_false_iff_eq.mpr c69
     clear c69
     by_cases c70 : t348 = t350
     ·rw [if_pos c70] at H
      have c70b0 : (t348 == t350) = true := beq_iff_eq.mpr c70
      have c70b1 : (t348 != t350) = false := bne_eq_false_iff_eq.mpr c70
      clear c70
      have H' := YL H
      clear H
      try go_wp2
      have n0_ : Aside0 (Kd.R k59 59 ((w57.setCell ⟨gb375, 0, none⟩ (.int .i64 t370)).setCell ⟨gb375, 1, none⟩ (.slice Ao64 t371.length co64)) w.heap.size (fun k_ => some k_ ≠ (.slice Ao37 t353.length co37 : Value).ownBlock ∧ some k_ ≠ (.slice Ao45 t359.length co45 : Value).ownBlock ∧ some k_ ≠ (.slice Ao54 t365.length co54 : Value).ownBlock ∧ some k_ ≠ (.slice Ao64 t371.length co64 : Value).ownBlock) (.slice Ao23 t336.length co23) t336) := ⟨by (with_reducible repeat (first | apply YS | apply YT | apply YU)); exact Kd.R_mono (Kd.R_far (p := ⟨gb375, 1, none⟩) (Kd.R_far (p := ⟨gb375, 0, none⟩) (Kd.R_types HO338.out BK375.out (by decide)) (fun _ hk => hk.2) (.int .i64 t370)) (fun _ hk => hk.2) (.slice Ao64 t371.length co64)) (fun _ hk => ⟨hk.1.1.1.1.2, ⟨hk.1.1.1.2, ⟨hk.1.1.2, hk.1.2⟩⟩⟩)⟩
      have n1_ : Aside0 (Kd.R (Kd.int .u8) 5 ((w57.setCell ⟨gb375, 0, none⟩ (.int .i64 t370)).setCell ⟨gb375, 1, none⟩ (.slice Ao64 t371.length co64)) w.heap.size (fun k_ => some k_ ≠ (v345 : Value).ownBlock) v341 t340) := ⟨by (with_reducible repeat (first | apply YS | apply YT | apply YU)); exact Kd.R_mono (Kd.R_far (p := ⟨gb375, 1, none⟩) (Kd.R_far (p := ⟨gb375, 0, none⟩) (Kd.R_types HO342.out BK375.out (by decide)) (fun _ hk => hk.2) (.int .i64 t370)) (fun _ hk => hk.2) (.slice Ao64 t371.length co64)) (fun _ hk => hk.1.2)⟩
      have n2_ : Aside0 (Kd.R (Kd.int .u8) 5 ((w57.setCell ⟨gb375, 0, none⟩ (.int .i64 t370)).setCell ⟨gb375, 1, none⟩ (.slice Ao64 t371.length co64)) w.heap.size (fun k_ => some k_ ≠ (v341 : Value).ownBlock) v345 t344) := ⟨by (with_reducible repeat (first | apply YS | apply YT | apply YU)); exact Kd.R_mono (Kd.R_far (p := ⟨gb375, 1, none⟩) (Kd.R_far (p := ⟨gb375, 0, none⟩) (Kd.R_types HO346.out BK375.out (by decide)) (fun _ hk => hk.2) (.int .i64 t370)) (fun _ hk => hk.2) (.slice Ao64 t371.length co64)) (fun _ hk => hk.1.2)⟩
      have n3_ : Aside0 (Kd.R k59 59 ((w57.setCell ⟨gb375, 0, none⟩ (.int .i64 t370)).setCell ⟨gb375, 1, none⟩ (.slice Ao64 t371.length co64)) w.heap.size (fun k_ => some k_ ≠ (.slice Ao23 t336.length co23 : Value).ownBlock ∧ some k_ ≠ (.slice Ao45 t359.length co45 : Value).ownBlock ∧ some k_ ≠ (.slice Ao54 t365.length co54 : Value).ownBlock ∧ some k_ ≠ (.slice Ao64 t371.length co64 : Value).ownBlock) (.slice Ao37 t353.length co37) t353) := ⟨by (with_reducible repeat (first | apply YS | apply YT | apply YU)); exact Kd.R_mono (Kd.R_far (p := ⟨gb375, 1, none⟩) (Kd.R_far (p := ⟨gb375, 0, none⟩) (Kd.R_types HO355.out BK375.out (by decide)) (fun _ hk => hk.2) (.int .i64 t370)) (fun _ hk => hk.2) (.slice Ao64 t371.length co64)) (fun _ hk => ⟨hk.1.1.1.1.2, ⟨hk.1.1.1.2, ⟨hk.1.1.2, hk.1.2⟩⟩⟩)⟩
      have n4_ : Aside0 (Kd.R k59 59 ((w57.setCell ⟨gb375, 0, none⟩ (.int .i64 t370)).setCell ⟨gb375, 1, none⟩ (.slice Ao64 t371.length co64)) w.heap.size (fun k_ => some k_ ≠ (.slice Ao23 t336.length co23 : Value).ownBlock ∧ some k_ ≠ (.slice Ao37 t353.length co37 : Value).ownBlock ∧ some k_ ≠ (.slice Ao54 t365.length co54 : Value).ownBlock ∧ some k_ ≠ (.slice Ao64 t371.length co64 : Value).ownBlock) (.slice Ao45 t359.length co45) t359) := ⟨by (with_reducible repeat (first | apply YS | apply YT | apply YU)); exact Kd.R_mono (Kd.R_far (p := ⟨gb375, 1, none⟩) (Kd.R_far (p := ⟨gb375, 0, none⟩) (Kd.R_types HO361.out BK375.out (by decide)) (fun _ hk => hk.2) (.int .i64 t370)) (fun _ hk => hk.2) (.slice Ao64 t371.length co64)) (fun _ hk => ⟨hk.1.1.1.1.2, ⟨hk.1.1.1.2, ⟨hk.1.1.2, hk.1.2⟩⟩⟩)⟩
      have n5_ : Aside0 (Kd.R k59 59 ((w57.setCell ⟨gb375, 0, none⟩ (.int .i64 t370)).setCell ⟨gb375, 1, none⟩ (.slice Ao64 t371.length co64)) w.heap.size (fun k_ => some k_ ≠ (.slice Ao23 t336.length co23 : Value).ownBlock ∧ some k_ ≠ (.slice Ao37 t353.length co37 : Value).ownBlock ∧ some k_ ≠ (.slice Ao45 t359.length co45 : Value).ownBlock ∧ some k_ ≠ (.slice Ao64 t371.length co64 : Value).ownBlock) (.slice Ao54 t365.length co54) t365) := ⟨by (with_reducible repeat (first | apply YS | apply YT | apply YU)); exact Kd.R_mono (Kd.R_far (p := ⟨gb375, 1, none⟩) (Kd.R_far (p := ⟨gb375, 0, none⟩) (Kd.R_types HO367.out BK375.out (by decide)) (fun _ hk => hk.2) (.int .i64 t370)) (fun _ hk => hk.2) (.slice Ao64 t371.length co64)) (fun _ hk => ⟨hk.1.1.1.1.2, ⟨hk.1.1.1.2, ⟨hk.1.1.2, hk.1.2⟩⟩⟩)⟩
      have n6_ : Aside0 (Kd.R k59 59 ((w57.setCell ⟨gb375, 0, none⟩ (.int .i64 t370)).setCell ⟨gb375, 1, none⟩ (.slice Ao64 t371.length co64)) w.heap.size (fun k_ => some k_ ≠ (.slice Ao23 t336.length co23 : Value).ownBlock ∧ some k_ ≠ (.slice Ao37 t353.length co37 : Value).ownBlock ∧ some k_ ≠ (.slice Ao45 t359.length co45 : Value).ownBlock ∧ some k_ ≠ (.slice Ao54 t365.length co54 : Value).ownBlock) (.slice Ao64 t371.length co64) t371) := ⟨by (with_reducible repeat (first | apply YS | apply YT | apply YU)); exact Kd.R_mono (Kd.R_far (p := ⟨gb375, 1, none⟩) (Kd.R_far (p := ⟨gb375, 0, none⟩) (Kd.R_types HO373.out BK375.out (by decide)) (fun _ hk => hk.2) (.int .i64 t370)) (fun _ hk => hk.2) (.slice Ao64 t371.length co64)) (fun _ hk => ⟨hk.1.1.1.1.2, ⟨hk.1.1.1.2, ⟨hk.1.1.2, hk.1.2⟩⟩⟩)⟩
      have n7_ : Aside0 (((w57.setCell ⟨gb375, 0, none⟩ (.int .i64 t370)).setCell ⟨gb375, 1, none⟩ (.slice Ao64 t371.length co64)).heap[gb334]? = some (.cells #[.int .i64 a0_0, .slice A0_1 l0_1.length c0_1] 25 (0, 0))) := ⟨by (with_reducible repeat (first | refine YF ?_ _ | refine YG ?_ | refine YH ?_ _)); refine blk_far ?_ NB334_375.out _; (with_reducible repeat (first | refine YF ?_ _ | refine YG ?_ | refine YH ?_ _)); refine blk_far ?_ NB334_375.out _; (with_reducible repeat (first | refine YF ?_ _ | refine YG ?_ | refine YH ?_ _)); exact BK334.out⟩
      have n8_ : Aside0 (((w57.setCell ⟨gb375, 0, none⟩ (.int .i64 t370)).setCell ⟨gb375, 1, none⟩ (.slice Ao64 t371.length co64)).heap[gb339]? = some (.cells #[.int .i64 t335, .slice Ao23 t336.length co23] 25 (0, 0))) := ⟨by (with_reducible repeat (first | refine YF ?_ _ | refine YG ?_ | refine YH ?_ _)); refine blk_far ?_ NB339_375.out _; (with_reducible repeat (first | refine YF ?_ _ | refine YG ?_ | refine YH ?_ _)); refine blk_far ?_ NB339_375.out _; (with_reducible repeat (first | refine YF ?_ _ | refine YG ?_ | refine YH ?_ _)); exact BK339.out⟩
      have n9_ : Aside0 (((w57.setCell ⟨gb375, 0, none⟩ (.int .i64 t370)).setCell ⟨gb375, 1, none⟩ (.slice Ao64 t371.length co64)).heap[gb357]? = some (.cells #[.int .i64 t352, .slice Ao37 t353.length co37] 25 (0, 0))) := ⟨by (with_reducible repeat (first | refine YF ?_ _ | refine YG ?_ | refine YH ?_ _)); refine blk_far ?_ NB357_375.out _; (with_reducible repeat (first | refine YF ?_ _ | refine YG ?_ | refine YH ?_ _)); refine blk_far ?_ NB357_375.out _; (with_reducible repeat (first | refine YF ?_ _ | refine YG ?_ | refine YH ?_ _)); exact BK357.out⟩
      have n10_ : Aside0 (((w57.setCell ⟨gb375, 0, none⟩ (.int .i64 t370)).setCell ⟨gb375, 1, none⟩ (.slice Ao64 t371.length co64)).heap[gb363]? = some (.cells #[.int .i64 t358, .slice Ao45 t359.length co45] 25 (0, 0))) := ⟨by (with_reducible repeat (first | refine YF ?_ _ | refine YG ?_ | refine YH ?_ _)); refine blk_far ?_ NB363_375.out _; (with_reducible repeat (first | refine YF ?_ _ | refine YG ?_ | refine YH ?_ _)); refine blk_far ?_ NB363_375.out _; (with_reducible repeat (first | refine YF ?_ _ | refine YG ?_ | refine YH ?_ _)); exact BK363.out⟩
      have n11_ : Aside0 (((w57.setCell ⟨gb375, 0, none⟩ (.int .i64 t370)).setCell ⟨gb375, 1, none⟩ (.slice Ao64 t371.length co64)).heap[gb369]? = some (.cells #[.int .i64 t364, .slice Ao54 t365.length co54] 25 (0, 0))) := ⟨by (with_reducible repeat (first | refine YF ?_ _ | refine YG ?_ | refine YH ?_ _)); refine blk_far ?_ NB369_375.out _; (with_reducible repeat (first | refine YF ?_ _ | refine YG ?_ | refine YH ?_ _)); refine blk_far ?_ NB369_375.out _; (with_reducible repeat (first | refine YF ?_ _ | refine YG ?_ | refine YH ?_ _)); exact BK369.out⟩
      have n12_ : Aside0 (((w57.setCell ⟨gb375, 0, none⟩ (.int .i64 t370)).setCell ⟨gb375, 1, none⟩ (.slice Ao64 t371.length co64)).heap[gb375]? = some (.cells #[.int .i64 t370, .slice Ao64 t371.length co64] 25 (0, 0))) := ⟨by (with_reducible repeat (first | refine YF ?_ _ | refine YG ?_ | refine YH ?_ _)); refine blk_put (cs := #[.int .i64 t370, .slice none 0 0]) ?_ 1 _ rfl; (with_reducible repeat (first | refine YF ?_ _ | refine YG ?_ | refine YH ?_ _)); refine blk_put (cs := #[.int .i64 0, .slice none 0 0]) ?_ 0 _ rfl; (with_reducible repeat (first | refine YF ?_ _ | refine YG ?_ | refine YH ?_ _)); exact BK375.out⟩
      have n13_ : Aside0 (Below w.heap.size w ((w57.setCell ⟨gb375, 0, none⟩ (.int .i64 t370)).setCell ⟨gb375, 1, none⟩ (.slice Ao64 t371.length co64))) := ⟨by repeat (first | (with_reducible first | exact HB.out | apply YA | apply YB | apply YC | refine below_set ?_ GE334.out | refine below_set ?_ GE339.out | refine below_set ?_ GE357.out | refine below_set ?_ GE363.out | refine below_set ?_ GE369.out | refine below_set ?_ GE375.out) | exact HB.out)⟩
      (try clear HO338); (try clear HO342); (try clear HO346); (try clear HO355); (try clear HO361); (try clear HO367); (try clear HO373); (try clear BK334); (try clear BK339); (try clear BK357); (try clear BK363); (try clear BK369); (try clear BK375); (try clear HB)
      generalize ((w57.setCell ⟨gb375, 0, none⟩ (.int .i64 t370)).setCell ⟨gb375, 1, none⟩ (.slice Ao64 t371.length co64)) = w71 at n0_ n1_ n2_ n3_ n4_ n5_ n6_ n7_ n8_ n9_ n10_ n11_ n12_ n13_ ⊢
      have HO338 := n0_; have HO342 := n1_; have HO346 := n2_; have HO355 := n3_; have HO361 := n4_; have HO367 := n5_; have HO373 := n6_; have BK334 := n7_; have BK339 := n8_; have BK357 := n9_; have BK363 := n10_; have BK369 := n11_; have BK375 := n12_; have HB := n13_; clear n0_ n1_ n2_ n3_ n4_ n5_ n6_ n7_ n8_ n9_ n10_ n11_ n12_ n13_
      have n0_ := YL (YU HO338.out)
      have n1_ := YL (YU HO342.out)
      have n2_ := YL (YU HO346.out)
      have n3_ := YL (YU HO355.out)
      have n4_ := YL (YU HO361.out)
      have n5_ := YL (YU HO367.out)
      have n6_ := YL (YU HO373.out)
      have n7_ := YL (YG BK334.out)
      have n8_ := YL (YG BK339.out)
      have n9_ := YL (YG BK357.out)
      have n10_ := YL (YG BK363.out)
      have n11_ := YL (YG BK369.out)
      have n12_ := YL (YG BK375.out)
      have n13_ := YL (YC HB.out)
      clear HO338; clear HO342; clear HO346; clear HO355; clear HO361; clear HO367; clear HO373; clear BK334; clear BK339; clear BK357; clear BK363; clear BK369; clear BK375; clear HB; have HO338 := n0_; have HO342 := n1_; have HO346 := n2_; have HO355 := n3_; have HO361 := n4_; have HO367 := n5_; have HO373 := n6_; have BK334 := n7_; have BK339 := n8_; have BK357 := n9_; have BK363 := n10_; have BK369 := n11_; have BK375 := n12_; have HB := n13_; clear n0_ n1_ n2_ n3_ n4_ n5_ n6_ n7_ n8_ n9_ n10_ n11_ n12_ n13_
      refine start_ (n := 29) (S := fun w' => w'.cell? ⟨gb339, 0, none⟩ = some (.int .i64 t335) ∧ w'.cell? ⟨gb339, 1, none⟩ = some (.slice Ao23 t336.length co23) ∧ w'.cell? ⟨gb334, 0, none⟩ = some (.int .i64 a0_0) ∧ w'.cell? ⟨gb334, 1, none⟩ = some (.slice A0_1 l0_1.length c0_1) ∧ (convert 22 9 v341).run Try.prog w' = .ok (.string (strOfNums t340)) w' ∧ (convert 22 9 v345).run Try.prog w' = .ok (.string (strOfNums t344)) w') (ds := []) #[false, false, false, false, false, false, false, false, false, false, false, false, false, false, false, false, false, false, false, false, false, false, false, false, false, false, false, false, false] (by kernel_rfl) rfl rfl ⟨(YI BK339.out 0).trans rfl, (YI BK339.out 1).trans rfl, (YI BK334.out 0).trans rfl, (YI BK334.out 1).trans rfl, (own_string (P := Try.prog) Try.underlying22 Try.underlying5 Try.underlying9 (Kd.own_of_R (by (with_reducible repeat (first | apply YS | apply YT | apply YU)); exact HO342.out))), (own_string (P := Try.prog) Try.underlying22 Try.underlying5 Try.underlying9 (Kd.own_of_R (by (with_reducible repeat (first | apply YS | apply YT | apply YU)); exact HO346.out)))⟩ (fun hHeld => ?_); refine with_tabW thalweglaw06_BeaconDoes.tab12 thalweglaw06_BeaconDoes.bits12 (fun HT_ HW_ => ?_)
      generalize w71.drew = w72 at HO338 HO342 HO346 HO355 HO361 HO367 HO373 BK334 BK339 BK357 BK363 BK369 BK375 HB hHeld ⊢
      refine take_ (i := 0) (N := some 79) (v := ?_) (a' := ?_) #[true, false, false, false, false, false, false, false, false, false, false, false, false, false, false, false, false, false, false, false, false, false, false, false, false, false, false, false, false] rfl rfl (take_ofW HT_.out HW_.out (by kernel_rfl)) (fun _ _ _ h => h) (Or.inl ⟨by rfl, ?_⟩) hHeld ?_ ?_
      rotate_left
      ·rintro w' ⟨s0, s1, s2, s3, s4, s5⟩
       go_simp; with_reducible rfl
      rotate_left
      ·simp only [Act.put, YM, YN, YO, i64_w, i32_w]
       rfl
      refine take_ (i := 3) (N := some 82) (v := ?_) (a' := ?_) #[true, false, false, true, false, false, false, false, false, false, false, false, false, false, false, false, false, false, false, false, false, false, false, false, false, false, false, false, false] rfl rfl (take_ofW HT_.out HW_.out (by kernel_rfl)) (fun _ _ _ h => h) (Or.inl ⟨by rfl, ?_⟩) hHeld ?_ ?_
      rotate_left
      ·rintro w' ⟨s0, s1, s2, s3, s4, s5⟩
       go_simp; with_reducible rfl
      rotate_left
      ·simp only [Act.put, YM, YN, YO, i64_w, i32_w]
       rfl
      refine one_ (i := 1) (N := some 80) #[true, true, false, true, false, false, false, false, false, false, false, false, false, false, false, false, false, false, false, false, false, false, false, false, false, false, false, false, false] rfl rfl (one_of HT_.out (by kernel_rfl)) (by decide) (fun K hK => ?_)
      refine goes_ Try.func22 (by kernel_rfl) rfl #[.agg #[.int .i64 t335, .slice Ao23 t336.length co23]] (by rfl) rfl rfl (by (try simp only [YP, List.map_cons, List.map_nil]); first | done | rfl | (simp only [YR, YQ]; rfl)) ?_
      with_reducible refine (beacon_Check.calls k t335 _ _ t336 t376 _ ?side1 ?side2 A65.out).mono ?_
      (case side1 => repeat (first | exact (Kd.R_reads' HO338.out).2.2 | (with_reducible refine Kd.C_alloc ?_ _) | (with_reducible refine Kd.C_drewN ?_ _) | (with_reducible refine Kd.C_drew ?_)))
      (case side2 => exact (Kd.R_reads' HO338.out).2.1)
      rintro e w73 ⟨rfl, hb⟩
      refine ⟨_, rfl, ?_⟩
      have n0_ := YL (YV (by (with_reducible repeat (first | apply YS | apply YT | apply YU)); exact HO338.out) hb)
      have n1_ := YL (YV (by (with_reducible repeat (first | apply YS | apply YT | apply YU)); exact HO342.out) hb)
      have n2_ := YL (YV (by (with_reducible repeat (first | apply YS | apply YT | apply YU)); exact HO346.out) hb)
      have n3_ := YL (YV (by (with_reducible repeat (first | apply YS | apply YT | apply YU)); exact HO355.out) hb)
      have n4_ := YL (YV (by (with_reducible repeat (first | apply YS | apply YT | apply YU)); exact HO361.out) hb)
      have n5_ := YL (YV (by (with_reducible repeat (first | apply YS | apply YT | apply YU)); exact HO367.out) hb)
      have n6_ := YL (YV (by (with_reducible repeat (first | apply YS | apply YT | apply YU)); exact HO373.out) hb)
      have n7_ := YL (YK (g := gb334) (o := .cells #[.int .i64 a0_0, .slice A0_1 l0_1.length c0_1] 25 (0, 0)) (by (with_reducible repeat (first | refine YF ?_ _ | refine YG ?_ | refine YH ?_ _)); exact BK334.out) hb)
      have n8_ := YL (YK (g := gb339) (o := .cells #[.int .i64 t335, .slice Ao23 t336.length co23] 25 (0, 0)) (by (with_reducible repeat (first | refine YF ?_ _ | refine YG ?_ | refine YH ?_ _)); exact BK339.out) hb)
      have n9_ := YL (YK (g := gb357) (o := .cells #[.int .i64 t352, .slice Ao37 t353.length co37] 25 (0, 0)) (by (with_reducible repeat (first | refine YF ?_ _ | refine YG ?_ | refine YH ?_ _)); exact BK357.out) hb)
      have n10_ := YL (YK (g := gb363) (o := .cells #[.int .i64 t358, .slice Ao45 t359.length co45] 25 (0, 0)) (by (with_reducible repeat (first | refine YF ?_ _ | refine YG ?_ | refine YH ?_ _)); exact BK363.out) hb)
      have n11_ := YL (YK (g := gb369) (o := .cells #[.int .i64 t364, .slice Ao54 t365.length co54] 25 (0, 0)) (by (with_reducible repeat (first | refine YF ?_ _ | refine YG ?_ | refine YH ?_ _)); exact BK369.out) hb)
      have n12_ := YL (YK (g := gb375) (o := .cells #[.int .i64 t370, .slice Ao64 t371.length co64] 25 (0, 0)) (by (with_reducible repeat (first | refine YF ?_ _ | refine YG ?_ | refine YH ?_ _)); exact BK375.out) hb)
      have n13_ := YL (YD (by repeat (first | (with_reducible first | exact HB.out | apply YA | apply YB | apply YC | refine below_set ?_ GE334.out | refine below_set ?_ GE339.out | refine below_set ?_ GE357.out | refine below_set ?_ GE363.out | refine below_set ?_ GE369.out | refine below_set ?_ GE375.out) | exact HB.out)) hb)
      clear HO338; clear HO342; clear HO346; clear HO355; clear HO361; clear HO367; clear HO373; clear BK334; clear BK339; clear BK357; clear BK363; clear BK369; clear BK375; clear HB; have HO338 := n0_; have HO342 := n1_; have HO346 := n2_; have HO355 := n3_; have HO361 := n4_; have HO367 := n5_; have HO373 := n6_; have BK334 := n7_; have BK339 := n8_; have BK357 := n9_; have BK363 := n10_; have BK369 := n11_; have BK375 := n12_; have HB := n13_; clear n0_ n1_ n2_ n3_ n4_ n5_ n6_ n7_ n8_ n9_ n10_ n11_ n12_ n13_; (try clear hb); (try clear hb2); (try clear hk); (try clear hi)
      refine hK.out _ _ ⟨(YI BK339.out 0).trans rfl, (YI BK339.out 1).trans rfl, (YI BK334.out 0).trans rfl, (YI BK334.out 1).trans rfl, (own_string (P := Try.prog) Try.underlying22 Try.underlying5 Try.underlying9 (Kd.own_of_R (by (with_reducible repeat (first | apply YS | apply YT | apply YU)); exact HO342.out))), (own_string (P := Try.prog) Try.underlying22 Try.underlying5 Try.underlying9 (Kd.own_of_R (by (with_reducible repeat (first | apply YS | apply YT | apply YU)); exact HO346.out)))⟩ (fun hHeld => ?_)
      clear hK K
      refine norm_ (a' := ?_) ?_ ?_
      rotate_left
      ·show Act.put _ (some 80) _ = _
       simp only [Act.put, YM, YN, YO, i64_w, i32_w]
       rfl
      refine pure_ (i := 2) (N := some 81) (v := ?_) (a' := ?_) #[true, true, true, true, false, false, false, false, false, false, false, false, false, false, false, false, false, false, false, false, false, false, false, false, false, false, false, false, false] rfl rfl (any_of HT_.out (by kernel_rfl)) (fun _ _ _ h => h) (Or.inl ⟨by rfl, ?_⟩) ?_ ?_
      rotate_left
      ·intro w'
       go_simp; with_reducible rfl
      rotate_left
      ·simp only [Act.put, YM, YN, YO, i64_w, i32_w]
       rfl
      refine one_ (i := 4) (N := some 83) #[true, true, true, true, true, false, false, false, false, false, false, false, false, false, false, false, false, false, false, false, false, false, false, false, false, false, false, false, false] rfl rfl (one_of HT_.out (by kernel_rfl)) (by decide) (fun K hK => ?_)
      refine goes_ Try.func23 (by kernel_rfl) rfl #[.agg #[.int .i64 a0_0, .slice A0_1 l0_1.length c0_1]] (by rfl) rfl rfl (by (try simp only [YP, List.map_cons, List.map_nil]); first | done | rfl | (simp only [YR, YQ]; rfl)) ?_
      with_reducible refine (thalwegref06_Right.calls k a0_0 _ _ l0_1 t377 _ ?side1 ?side2 A66.out).mono ?_
      (case side1 => repeat (first | exact (Kd.C_below HR0_1.out HB.out) | (with_reducible refine Kd.C_alloc ?_ _) | (with_reducible refine Kd.C_drewN ?_ _) | (with_reducible refine Kd.C_drew ?_)))
      (case side2 => exact HC0_1.out)
      rintro e w74 ⟨rfl, hb⟩
      refine ⟨_, rfl, ?_⟩
      have n0_ := YL (YV (by (with_reducible repeat (first | apply YS | apply YT | apply YU)); exact HO338.out) hb)
      have n1_ := YL (YV (by (with_reducible repeat (first | apply YS | apply YT | apply YU)); exact HO342.out) hb)
      have n2_ := YL (YV (by (with_reducible repeat (first | apply YS | apply YT | apply YU)); exact HO346.out) hb)
      have n3_ := YL (YV (by (with_reducible repeat (first | apply YS | apply YT | apply YU)); exact HO355.out) hb)
      have n4_ := YL (YV (by (with_reducible repeat (first | apply YS | apply YT | apply YU)); exact HO361.out) hb)
      have n5_ := YL (YV (by (with_reducible repeat (first | apply YS | apply YT | apply YU)); exact HO367.out) hb)
      have n6_ := YL (YV (by (with_reducible repeat (first | apply YS | apply YT | apply YU)); exact HO373.out) hb)
      have n7_ := YL (YK (g := gb334) (o := .cells #[.int .i64 a0_0, .slice A0_1 l0_1.length c0_1] 25 (0, 0)) (by (with_reducible repeat (first | refine YF ?_ _ | refine YG ?_ | refine YH ?_ _)); exact BK334.out) hb)
      have n8_ := YL (YK (g := gb339) (o := .cells #[.int .i64 t335, .slice Ao23 t336.length co23] 25 (0, 0)) (by (with_reducible repeat (first | refine YF ?_ _ | refine YG ?_ | refine YH ?_ _)); exact BK339.out) hb)
      have n9_ := YL (YK (g := gb357) (o := .cells #[.int .i64 t352, .slice Ao37 t353.length co37] 25 (0, 0)) (by (with_reducible repeat (first | refine YF ?_ _ | refine YG ?_ | refine YH ?_ _)); exact BK357.out) hb)
      have n10_ := YL (YK (g := gb363) (o := .cells #[.int .i64 t358, .slice Ao45 t359.length co45] 25 (0, 0)) (by (with_reducible repeat (first | refine YF ?_ _ | refine YG ?_ | refine YH ?_ _)); exact BK363.out) hb)
      have n11_ := YL (YK (g := gb369) (o := .cells #[.int .i64 t364, .slice Ao54 t365.length co54] 25 (0, 0)) (by (with_reducible repeat (first | refine YF ?_ _ | refine YG ?_ | refine YH ?_ _)); exact BK369.out) hb)
      have n12_ := YL (YK (g := gb375) (o := .cells #[.int .i64 t370, .slice Ao64 t371.length co64] 25 (0, 0)) (by (with_reducible repeat (first | refine YF ?_ _ | refine YG ?_ | refine YH ?_ _)); exact BK375.out) hb)
      have n13_ := YL (YD (by repeat (first | (with_reducible first | exact HB.out | apply YA | apply YB | apply YC | refine below_set ?_ GE334.out | refine below_set ?_ GE339.out | refine below_set ?_ GE357.out | refine below_set ?_ GE363.out | refine below_set ?_ GE369.out | refine below_set ?_ GE375.out) | exact HB.out)) hb)
      clear HO338; clear HO342; clear HO346; clear HO355; clear HO361; clear HO367; clear HO373; clear BK334; clear BK339; clear BK357; clear BK363; clear BK369; clear BK375; clear HB; have HO338 := n0_; have HO342 := n1_; have HO346 := n2_; have HO355 := n3_; have HO361 := n4_; have HO367 := n5_; have HO373 := n6_; have BK334 := n7_; have BK339 := n8_; have BK357 := n9_; have BK363 := n10_; have BK369 := n11_; have BK375 := n12_; have HB := n13_; clear n0_ n1_ n2_ n3_ n4_ n5_ n6_ n7_ n8_ n9_ n10_ n11_ n12_ n13_; (try clear hb); (try clear hb2); (try clear hk); (try clear hi)
      refine hK.out _ _ ⟨(YI BK339.out 0).trans rfl, (YI BK339.out 1).trans rfl, (YI BK334.out 0).trans rfl, (YI BK334.out 1).trans rfl, (own_string (P := Try.prog) Try.underlying22 Try.underlying5 Try.underlying9 (Kd.own_of_R (by (with_reducible repeat (first | apply YS | apply YT | apply YU)); exact HO342.out))), (own_string (P := Try.prog) Try.underlying22 Try.underlying5 Try.underlying9 (Kd.own_of_R (by (with_reducible repeat (first | apply YS | apply YT | apply YU)); exact HO346.out)))⟩ (fun hHeld => ?_)
      clear hK K
      refine norm_ (a' := ?_) ?_ ?_
      rotate_left
      ·show Act.put _ (some 83) _ = _
       simp only [Act.put, YM, YN, YO, i64_w, i32_w]
       rfl
      refine pure_ (i := 5) (N := some 84) (v := ?_) (a' := ?_) #[true, true, true, true, true, true, false, false, false, false, false, false, false, false, false, false, false, false, false, false, false, false, false, false, false, false, false, false, false] rfl rfl (any_of HT_.out (by kernel_rfl)) (fun _ _ _ h => h) (Or.inl ⟨by rfl, ?_⟩) ?_ ?_
      rotate_left
      ·intro w'
       go_simp; with_reducible rfl
      rotate_left
      ·simp only [Act.put, YM, YN, YO, i64_w, i32_w]
       rfl
      refine pure_ (i := 6) (N := some 85) (v := ?_) (a' := ?_) #[true, true, true, true, true, true, true, false, false, false, false, false, false, false, false, false, false, false, false, false, false, false, false, false, false, false, false, false, false] rfl rfl (any_of HT_.out (by kernel_rfl)) (fun _ _ _ h => h) (Or.inl ⟨by rfl, ?_⟩) ?_ ?_
      rotate_left
      ·intro w'
       go_simp; with_reducible rfl
      rotate_left
      ·simp only [Act.put, YM, YN, YO, i64_w, i32_w]
       rfl
      refine pure_ (i := 7) (N := some 86) (v := ?_) (a' := ?_) #[true, true, true, true, true, true, true, true, false, false, false, false, false, false, false, false, false, false, false, false, false, false, false, false, false, false, false, false, false] rfl rfl (any_of HT_.out (by kernel_rfl)) (fun _ _ _ h => h) (Or.inl ⟨by rfl, ?_⟩) ?_ ?_
      rotate_left
      ·intro w'
       go_simp; with_reducible rfl
      rotate_left
      ·simp only [Act.put, YM, YN, YO, i64_w, i32_w]
       rfl
      refine pure_ (i := 9) (N := some 88) (v := ?_) (a' := ?_) #[true, true, true, true, true, true, true, true, false, true, false, false, false, false, false, false, false, false, false, false, false, false, false, false, false, false, false, false, false] rfl rfl (any_of HT_.out (by kernel_rfl)) (fun _ _ _ h => h) (Or.inl ⟨by rfl, ?_⟩) ?_ ?_
      rotate_left
      ·intro w'
       go_simp; with_reducible rfl
      rotate_left
      ·simp only [Act.put, YM, YN, YO, i64_w, i32_w]
       rfl
      refine take_ (i := 8) (N := some 87) (v := ?_) (a' := ?_) #[true, true, true, true, true, true, true, true, true, true, false, false, false, false, false, false, false, false, false, false, false, false, false, false, false, false, false, false, false] rfl rfl (take_ofW HT_.out HW_.out (by kernel_rfl)) (fun _ _ _ h => h) (Or.inl ⟨by rfl, ?_⟩) hHeld ?_ ?_
      rotate_left
      ·rintro w' ⟨s0, s1, s2, s3, s4, s5⟩
       go_simp; with_reducible rfl
      rotate_left
      ·simp only [Act.put, YM, YN, YO, i64_w, i32_w]
       rfl
      refine take_ (i := 10) (N := some 89) (v := ?_) (a' := ?_) #[true, true, true, true, true, true, true, true, true, true, true, false, false, false, false, false, false, false, false, false, false, false, false, false, false, false, false, false, false] rfl rfl (take_ofW HT_.out HW_.out (by kernel_rfl)) (fun _ _ _ h => h) (Or.inl ⟨by rfl, ?_⟩) hHeld ?_ ?_
      rotate_left
      ·rintro w' ⟨s0, s1, s2, s3, s4, s5⟩
       go_simp; with_reducible rfl
      rotate_left
      ·simp only [Act.put, YM, YN, YO, i64_w, i32_w]
       rfl
      refine pure_ (i := 11) (N := some 90) (v := ?_) (a' := ?_) #[true, true, true, true, true, true, true, true, true, true, true, true, false, false, false, false, false, false, false, false, false, false, false, false, false, false, false, false, false] rfl rfl (any_of HT_.out (by kernel_rfl)) (fun _ _ _ h => h) (Or.inl ⟨by rfl, ?_⟩) ?_ ?_
      rotate_left
      ·intro w'
       go_simp; with_reducible rfl
      rotate_left
      ·simp only [Act.put, YM, YN, YO, i64_w, i32_w]
       rfl
      refine pure_ (i := 12) (N := some 91) (v := ?_) (a' := ?_) #[true, true, true, true, true, true, true, true, true, true, true, true, true, false, false, false, false, false, false, false, false, false, false, false, false, false, false, false, false] rfl rfl (any_of HT_.out (by kernel_rfl)) (fun _ _ _ h => h) (Or.inl ⟨by rfl, ?_⟩) ?_ ?_
      rotate_left
      ·intro w'
       go_simp; with_reducible rfl
      rotate_left
      ·simp only [Act.put, YM, YN, YO, i64_w, i32_w]
       rfl
      refine pure_ (i := 13) (N := some 92) (v := ?_) (a' := ?_) #[true, true, true, true, true, true, true, true, true, true, true, true, true, true, false, false, false, false, false, false, false, false, false, false, false, false, false, false, false] rfl rfl (any_of HT_.out (by kernel_rfl)) (fun _ _ _ h => h) (Or.inl ⟨by rfl, ?_⟩) ?_ ?_
      rotate_left
      ·intro w'
       go_simp; with_reducible rfl
      rotate_left
      ·simp only [Act.put, YM, YN, YO, i64_w, i32_w]
       rfl
      refine pure_ (i := 14) (N := some 93) (v := ?_) (a' := ?_) #[true, true, true, true, true, true, true, true, true, true, true, true, true, true, true, false, false, false, false, false, false, false, false, false, false, false, false, false, false] rfl rfl (any_of HT_.out (by kernel_rfl)) (fun _ _ _ h => h) (Or.inl ⟨by rfl, ?_⟩) ?_ ?_
      rotate_left
      ·intro w'
       go_simp; with_reducible rfl
      rotate_left
      ·simp only [Act.put, YM, YN, YO, i64_w, i32_w]
       rfl
      refine pure_ (i := 15) (N := some 94) (v := ?_) (a' := ?_) #[true, true, true, true, true, true, true, true, true, true, true, true, true, true, true, true, false, false, false, false, false, false, false, false, false, false, false, false, false] rfl rfl (any_of HT_.out (by kernel_rfl)) (fun _ _ _ h => h) (Or.inl ⟨by rfl, ?_⟩) ?_ ?_
      rotate_left
      ·intro w'
       go_simp; with_reducible rfl
      rotate_left
      ·simp only [Act.put, YM, YN, YO, i64_w, i32_w]
       rfl
      refine pure_ (i := 16) (N := some 95) (v := ?_) (a' := ?_) #[true, true, true, true, true, true, true, true, true, true, true, true, true, true, true, true, true, false, false, false, false, false, false, false, false, false, false, false, false] rfl rfl (any_of HT_.out (by kernel_rfl)) (fun _ _ _ h => h) (Or.inl ⟨by rfl, ?_⟩) ?_ ?_
      rotate_left
      ·intro w'
       go_simp; with_reducible rfl
      rotate_left
      ·simp only [Act.put, YM, YN, YO, i64_w, i32_w]
       rfl
      refine pure_ (i := 17) (N := some 96) (v := ?_) (a' := ?_) #[true, true, true, true, true, true, true, true, true, true, true, true, true, true, true, true, true, true, false, false, false, false, false, false, false, false, false, false, false] rfl rfl (any_of HT_.out (by kernel_rfl)) (fun _ _ _ h => h) (Or.inl ⟨by rfl, ?_⟩) ?_ ?_
      rotate_left
      ·intro w'
       go_simp; with_reducible rfl
      rotate_left
      ·simp only [Act.put, YM, YN, YO, i64_w, i32_w]
       rfl
      refine pure_ (i := 18) (N := some 97) (v := ?_) (a' := ?_) #[true, true, true, true, true, true, true, true, true, true, true, true, true, true, true, true, true, true, true, false, false, false, false, false, false, false, false, false, false] rfl rfl (any_of HT_.out (by kernel_rfl)) (fun _ _ _ h => h) (Or.inl ⟨by rfl, ?_⟩) ?_ ?_
      rotate_left
      ·intro w'
       go_simp; with_reducible rfl
      rotate_left
      ·simp only [Act.put, YM, YN, YO, i64_w, i32_w]
       rfl
      refine pure_ (i := 19) (N := some 98) (v := ?_) (a' := ?_) #[true, true, true, true, true, true, true, true, true, true, true, true, true, true, true, true, true, true, true, true, false, false, false, false, false, false, false, false, false] rfl rfl (any_of HT_.out (by kernel_rfl)) (fun _ _ _ h => h) (Or.inl ⟨by rfl, ?_⟩) ?_ ?_
      rotate_left
      ·intro w'
       go_simp; with_reducible rfl
      rotate_left
      ·simp only [Act.put, YM, YN, YO, i64_w, i32_w]
       rfl
      refine pure_ (i := 20) (N := some 99) (v := ?_) (a' := ?_) #[true, true, true, true, true, true, true, true, true, true, true, true, true, true, true, true, true, true, true, true, true, false, false, false, false, false, false, false, false] rfl rfl (any_of HT_.out (by kernel_rfl)) (fun _ _ _ h => h) (Or.inl ⟨by rfl, ?_⟩) ?_ ?_
      rotate_left
      ·intro w'
       go_simp; with_reducible rfl
      rotate_left
      ·simp only [Act.put, YM, YN, YO, i64_w, i32_w]
       rfl
      refine pure_ (i := 21) (N := some 100) (v := ?_) (a' := ?_) #[true, true, true, true, true, true, true, true, true, true, true, true, true, true, true, true, true, true, true, true, true, true, false, false, false, false, false, false, false] rfl rfl (any_of HT_.out (by kernel_rfl)) (fun _ _ _ h => h) (Or.inl ⟨by rfl, ?_⟩) ?_ ?_
      rotate_left
      ·intro w'
       go_simp; with_reducible rfl
      rotate_left
      ·simp only [Act.put, YM, YN, YO, i64_w, i32_w]
       rfl
      refine pure_ (i := 22) (N := some 101) (v := ?_) (a' := ?_) #[true, true, true, true, true, true, true, true, true, true, true, true, true, true, true, true, true, true, true, true, true, true, true, false, false, false, false, false, false] rfl rfl (any_of HT_.out (by kernel_rfl)) (fun _ _ _ h => h) (Or.inl ⟨by rfl, ?_⟩) ?_ ?_
      rotate_left
      ·intro w'
       go_simp; with_reducible rfl
      rotate_left
      ·simp only [Act.put, YM, YN, YO, i64_w, i32_w]
       rfl
      refine pure_ (i := 23) (N := some 102) (v := ?_) (a' := ?_) #[true, true, true, true, true, true, true, true, true, true, true, true, true, true, true, true, true, true, true, true, true, true, true, true, false, false, false, false, false] rfl rfl (any_of HT_.out (by kernel_rfl)) (fun _ _ _ h => h) (Or.inl ⟨by rfl, ?_⟩) ?_ ?_
      rotate_left
      ·intro w'
       go_simp; with_reducible rfl
      rotate_left
      ·simp only [Act.put, YM, YN, YO, i64_w, i32_w]
       rfl
      refine pure_ (i := 24) (N := some 103) (v := ?_) (a' := ?_) #[true, true, true, true, true, true, true, true, true, true, true, true, true, true, true, true, true, true, true, true, true, true, true, true, true, false, false, false, false] rfl rfl (any_of HT_.out (by kernel_rfl)) (fun _ _ _ h => h) (Or.inl ⟨by rfl, ?_⟩) ?_ ?_
      rotate_left
      ·intro w'
       go_simp; with_reducible rfl
      rotate_left
      ·simp only [Act.put, YM, YN, YO, i64_w, i32_w]
       rfl
      refine pure_ (i := 25) (N := some 104) (v := ?_) (a' := ?_) #[true, true, true, true, true, true, true, true, true, true, true, true, true, true, true, true, true, true, true, true, true, true, true, true, true, true, false, false, false] rfl rfl (any_of HT_.out (by kernel_rfl)) (fun _ _ _ h => h) (Or.inl ⟨by rfl, ?_⟩) ?_ ?_
      rotate_left
      ·intro w'
       go_simp; with_reducible rfl
      rotate_left
      ·simp only [Act.put, YM, YN, YO, i64_w, i32_w]
       rfl
      refine pure_ (i := 26) (N := some 105) (v := ?_) (a' := ?_) #[true, true, true, true, true, true, true, true, true, true, true, true, true, true, true, true, true, true, true, true, true, true, true, true, true, true, true, false, false] rfl rfl (any_of HT_.out (by kernel_rfl)) (fun _ _ _ h => h) (Or.inl ⟨by rfl, ?_⟩) ?_ ?_
      rotate_left
      ·intro w'
       go_simp; with_reducible rfl
      rotate_left
      ·simp only [Act.put, YM, YN, YO, i64_w, i32_w]
       rfl
      refine pure_ (i := 27) (N := some 106) (v := ?_) (a' := ?_) #[true, true, true, true, true, true, true, true, true, true, true, true, true, true, true, true, true, true, true, true, true, true, true, true, true, true, true, true, false] rfl rfl (any_of HT_.out (by kernel_rfl)) (fun _ _ _ h => h) (Or.inl ⟨by rfl, ?_⟩) ?_ ?_
      rotate_left
      ·intro w'
       go_simp; with_reducible rfl
      rotate_left
      ·simp only [Act.put, YM, YN, YO, i64_w, i32_w]
       rfl
      refine pure_ (i := 28) (N := some 24) (v := ?_) (a' := ?_) #[true, true, true, true, true, true, true, true, true, true, true, true, true, true, true, true, true, true, true, true, true, true, true, true, true, true, true, true, true] rfl rfl (any_of HT_.out (by kernel_rfl)) (fun _ _ _ h => h) (Or.inl ⟨by rfl, ?_⟩) ?_ ?_
      rotate_left
      ·intro w'
       go_simp; with_reducible rfl
      rotate_left
      ·simp only [Act.put, YM, YN, YO, i64_w, i32_w]
       rfl
      refine done_ (done_of HT_.out (by kernel_rfl)) ?_
      try go_wp2
      go_meet
      case rel => exact ⟨_, ((t349 == t351)), (by first | rfl | (simp; done) | (simp [*]; done)), H', ⟨by first | omega | exact Nat.le_refl _⟩, ⟨by (with_reducible repeat (first | apply YS | apply YT | apply YU)); exact HO338.out⟩, ⟨by (with_reducible repeat (first | apply YS | apply YT | apply YU)); exact HO355.out⟩, ⟨by (with_reducible repeat (first | apply YS | apply YT | apply YU)); exact HO361.out⟩, ⟨by (with_reducible repeat (first | apply YS | apply YT | apply YU)); exact HO367.out⟩, ⟨by (with_reducible repeat (first | apply YS | apply YT | apply YU)); exact HO373.out⟩, ⟨by (with_reducible repeat (first | refine YF ?_ _ | refine YG ?_ | refine YH ?_ _)); exact BK334.out⟩, ⟨by (with_reducible repeat (first | refine YF ?_ _ | refine YG ?_ | refine YH ?_ _)); exact BK339.out⟩, ⟨by (with_reducible repeat (first | refine YF ?_ _ | refine YG ?_ | refine YH ?_ _)); exact BK357.out⟩, ⟨by (with_reducible repeat (first | refine YF ?_ _ | refine YG ?_ | refine YH ?_ _)); exact BK363.out⟩, ⟨by (with_reducible repeat (first | refine YF ?_ _ | refine YG ?_ | refine YH ?_ _)); exact BK369.out⟩, ⟨by (with_reducible repeat (first | refine YF ?_ _ | refine YG ?_ | refine YH ?_ _)); exact BK375.out⟩, ⟨by repeat (first | (with_reducible first | exact HB.out | apply YA | apply YB | apply YC | refine below_set ?_ GE334.out | refine below_set ?_ GE339.out | refine below_set ?_ GE357.out | refine below_set ?_ GE363.out | refine below_set ?_ GE369.out | refine below_set ?_ GE375.out) | exact HB.out)⟩⟩
     rw [if_neg c70] at H
     have c70b0 : (t348 == t350) = false := beq_eq_false_iff_ne.mpr c70
     have c70b1 : (t348 != t350) = true := bne_iff_ne.mpr c70
     have H' := YL H
     clear H
     try go_wp2
     have n0_ : Aside0 (Kd.R k59 59 ((w57.setCell ⟨gb375, 0, none⟩ (.int .i64 t370)).setCell ⟨gb375, 1, none⟩ (.slice Ao64 t371.length co64)) w.heap.size (fun k_ => some k_ ≠ (.slice Ao37 t353.length co37 : Value).ownBlock ∧ some k_ ≠ (.slice Ao45 t359.length co45 : Value).ownBlock ∧ some k_ ≠ (.slice Ao54 t365.length co54 : Value).ownBlock ∧ some k_ ≠ (.slice Ao64 t371.length co64 : Value).ownBlock) (.slice Ao23 t336.length co23) t336) := ⟨by (with_reducible repeat (first | apply YS | apply YT | apply YU)); exact Kd.R_mono (Kd.R_far (p := ⟨gb375, 1, none⟩) (Kd.R_far (p := ⟨gb375, 0, none⟩) (Kd.R_types HO338.out BK375.out (by decide)) (fun _ hk => hk.2) (.int .i64 t370)) (fun _ hk => hk.2) (.slice Ao64 t371.length co64)) (fun _ hk => ⟨hk.1.1.1.1.2, ⟨hk.1.1.1.2, ⟨hk.1.1.2, hk.1.2⟩⟩⟩)⟩
     have n1_ : Aside0 (Kd.R (Kd.int .u8) 5 ((w57.setCell ⟨gb375, 0, none⟩ (.int .i64 t370)).setCell ⟨gb375, 1, none⟩ (.slice Ao64 t371.length co64)) w.heap.size (fun k_ => some k_ ≠ (v345 : Value).ownBlock) v341 t340) := ⟨by (with_reducible repeat (first | apply YS | apply YT | apply YU)); exact Kd.R_mono (Kd.R_far (p := ⟨gb375, 1, none⟩) (Kd.R_far (p := ⟨gb375, 0, none⟩) (Kd.R_types HO342.out BK375.out (by decide)) (fun _ hk => hk.2) (.int .i64 t370)) (fun _ hk => hk.2) (.slice Ao64 t371.length co64)) (fun _ hk => hk.1.2)⟩
     have n2_ : Aside0 (Kd.R (Kd.int .u8) 5 ((w57.setCell ⟨gb375, 0, none⟩ (.int .i64 t370)).setCell ⟨gb375, 1, none⟩ (.slice Ao64 t371.length co64)) w.heap.size (fun k_ => some k_ ≠ (v341 : Value).ownBlock) v345 t344) := ⟨by (with_reducible repeat (first | apply YS | apply YT | apply YU)); exact Kd.R_mono (Kd.R_far (p := ⟨gb375, 1, none⟩) (Kd.R_far (p := ⟨gb375, 0, none⟩) (Kd.R_types HO346.out BK375.out (by decide)) (fun _ hk => hk.2) (.int .i64 t370)) (fun _ hk => hk.2) (.slice Ao64 t371.length co64)) (fun _ hk => hk.1.2)⟩
     have n3_ : Aside0 (Kd.R k59 59 ((w57.setCell ⟨gb375, 0, none⟩ (.int .i64 t370)).setCell ⟨gb375, 1, none⟩ (.slice Ao64 t371.length co64)) w.heap.size (fun k_ => some k_ ≠ (.slice Ao23 t336.length co23 : Value).ownBlock ∧ some k_ ≠ (.slice Ao45 t359.length co45 : Value).ownBlock ∧ some k_ ≠ (.slice Ao54 t365.length co54 : Value).ownBlock ∧ some k_ ≠ (.slice Ao64 t371.length co64 : Value).ownBlock) (.slice Ao37 t353.length co37) t353) := ⟨by (with_reducible repeat (first | apply YS | apply YT | apply YU)); exact Kd.R_mono (Kd.R_far (p := ⟨gb375, 1, none⟩) (Kd.R_far (p := ⟨gb375, 0, none⟩) (Kd.R_types HO355.out BK375.out (by decide)) (fun _ hk => hk.2) (.int .i64 t370)) (fun _ hk => hk.2) (.slice Ao64 t371.length co64)) (fun _ hk => ⟨hk.1.1.1.1.2, ⟨hk.1.1.1.2, ⟨hk.1.1.2, hk.1.2⟩⟩⟩)⟩
     have n4_ : Aside0 (Kd.R k59 59 ((w57.setCell ⟨gb375, 0, none⟩ (.int .i64 t370)).setCell ⟨gb375, 1, none⟩ (.slice Ao64 t371.length co64)) w.heap.size (fun k_ => some k_ ≠ (.slice Ao23 t336.length co23 : Value).ownBlock ∧ some k_ ≠ (.slice Ao37 t353.length co37 : Value).ownBlock ∧ some k_ ≠ (.slice Ao54 t365.length co54 : Value).ownBlock ∧ some k_ ≠ (.slice Ao64 t371.length co64 : Value).ownBlock) (.slice Ao45 t359.length co45) t359) := ⟨by (with_reducible repeat (first | apply YS | apply YT | apply YU)); exact Kd.R_mono (Kd.R_far (p := ⟨gb375, 1, none⟩) (Kd.R_far (p := ⟨gb375, 0, none⟩) (Kd.R_types HO361.out BK375.out (by decide)) (fun _ hk => hk.2) (.int .i64 t370)) (fun _ hk => hk.2) (.slice Ao64 t371.length co64)) (fun _ hk => ⟨hk.1.1.1.1.2, ⟨hk.1.1.1.2, ⟨hk.1.1.2, hk.1.2⟩⟩⟩)⟩
     have n5_ : Aside0 (Kd.R k59 59 ((w57.setCell ⟨gb375, 0, none⟩ (.int .i64 t370)).setCell ⟨gb375, 1, none⟩ (.slice Ao64 t371.length co64)) w.heap.size (fun k_ => some k_ ≠ (.slice Ao23 t336.length co23 : Value).ownBlock ∧ some k_ ≠ (.slice Ao37 t353.length co37 : Value).ownBlock ∧ some k_ ≠ (.slice Ao45 t359.length co45 : Value).ownBlock ∧ some k_ ≠ (.slice Ao64 t371.length co64 : Value).ownBlock) (.slice Ao54 t365.length co54) t365) := ⟨by (with_reducible repeat (first | apply YS | apply YT | apply YU)); exact Kd.R_mono (Kd.R_far (p := ⟨gb375, 1, none⟩) (Kd.R_far (p := ⟨gb375, 0, none⟩) (Kd.R_types HO367.out BK375.out (by decide)) (fun _ hk => hk.2) (.int .i64 t370)) (fun _ hk => hk.2) (.slice Ao64 t371.length co64)) (fun _ hk => ⟨hk.1.1.1.1.2, ⟨hk.1.1.1.2, ⟨hk.1.1.2, hk.1.2⟩⟩⟩)⟩
     have n6_ : Aside0 (Kd.R k59 59 ((w57.setCell ⟨gb375, 0, none⟩ (.int .i64 t370)).setCell ⟨gb375, 1, none⟩ (.slice Ao64 t371.length co64)) w.heap.size (fun k_ => some k_ ≠ (.slice Ao23 t336.length co23 : Value).ownBlock ∧ some k_ ≠ (.slice Ao37 t353.length co37 : Value).ownBlock ∧ some k_ ≠ (.slice Ao45 t359.length co45 : Value).ownBlock ∧ some k_ ≠ (.slice Ao54 t365.length co54 : Value).ownBlock) (.slice Ao64 t371.length co64) t371) := ⟨by (with_reducible repeat (first | apply YS | apply YT | apply YU)); exact Kd.R_mono (Kd.R_far (p := ⟨gb375, 1, none⟩) (Kd.R_far (p := ⟨gb375, 0, none⟩) (Kd.R_types HO373.out BK375.out (by decide)) (fun _ hk => hk.2) (.int .i64 t370)) (fun _ hk => hk.2) (.slice Ao64 t371.length co64)) (fun _ hk => ⟨hk.1.1.1.1.2, ⟨hk.1.1.1.2, ⟨hk.1.1.2, hk.1.2⟩⟩⟩)⟩
     have n7_ : Aside0 (((w57.setCell ⟨gb375, 0, none⟩ (.int .i64 t370)).setCell ⟨gb375, 1, none⟩ (.slice Ao64 t371.length co64)).heap[gb334]? = some (.cells #[.int .i64 a0_0, .slice A0_1 l0_1.length c0_1] 25 (0, 0))) := ⟨by (with_reducible repeat (first | refine YF ?_ _ | refine YG ?_ | refine YH ?_ _)); refine blk_far ?_ NB334_375.out _; (with_reducible repeat (first | refine YF ?_ _ | refine YG ?_ | refine YH ?_ _)); refine blk_far ?_ NB334_375.out _; (with_reducible repeat (first | refine YF ?_ _ | refine YG ?_ | refine YH ?_ _)); exact BK334.out⟩
     have n8_ : Aside0 (((w57.setCell ⟨gb375, 0, none⟩ (.int .i64 t370)).setCell ⟨gb375, 1, none⟩ (.slice Ao64 t371.length co64)).heap[gb339]? = some (.cells #[.int .i64 t335, .slice Ao23 t336.length co23] 25 (0, 0))) := ⟨by (with_reducible repeat (first | refine YF ?_ _ | refine YG ?_ | refine YH ?_ _)); refine blk_far ?_ NB339_375.out _; (with_reducible repeat (first | refine YF ?_ _ | refine YG ?_ | refine YH ?_ _)); refine blk_far ?_ NB339_375.out _; (with_reducible repeat (first | refine YF ?_ _ | refine YG ?_ | refine YH ?_ _)); exact BK339.out⟩
     have n9_ : Aside0 (((w57.setCell ⟨gb375, 0, none⟩ (.int .i64 t370)).setCell ⟨gb375, 1, none⟩ (.slice Ao64 t371.length co64)).heap[gb357]? = some (.cells #[.int .i64 t352, .slice Ao37 t353.length co37] 25 (0, 0))) := ⟨by (with_reducible repeat (first | refine YF ?_ _ | refine YG ?_ | refine YH ?_ _)); refine blk_far ?_ NB357_375.out _; (with_reducible repeat (first | refine YF ?_ _ | refine YG ?_ | refine YH ?_ _)); refine blk_far ?_ NB357_375.out _; (with_reducible repeat (first | refine YF ?_ _ | refine YG ?_ | refine YH ?_ _)); exact BK357.out⟩
     have n10_ : Aside0 (((w57.setCell ⟨gb375, 0, none⟩ (.int .i64 t370)).setCell ⟨gb375, 1, none⟩ (.slice Ao64 t371.length co64)).heap[gb363]? = some (.cells #[.int .i64 t358, .slice Ao45 t359.length co45] 25 (0, 0))) := ⟨by (with_reducible repeat (first | refine YF ?_ _ | refine YG ?_ | refine YH ?_ _)); refine blk_far ?_ NB363_375.out _; (with_reducible repeat (first | refine YF ?_ _ | refine YG ?_ | refine YH ?_ _)); refine blk_far ?_ NB363_375.out _; (with_reducible repeat (first | refine YF ?_ _ | refine YG ?_ | refine YH ?_ _)); exact BK363.out⟩
     have n11_ : Aside0 (((w57.setCell ⟨gb375, 0, none⟩ (.int .i64 t370)).setCell ⟨gb375, 1, none⟩ (.slice Ao64 t371.length co64)).heap[gb369]? = some (.cells #[.int .i64 t364, .slice Ao54 t365.length co54] 25 (0, 0))) := ⟨by (with_reducible repeat (first | refine YF ?_ _ | refine YG ?_ | refine YH ?_ _)); refine blk_far ?_ NB369_375.out _; (with_reducible repeat (first | refine YF ?_ _ | refine YG ?_ | refine YH ?_ _)); refine blk_far ?_ NB369_375.out _; (with_reducible repeat (first | refine YF ?_ _ | refine YG ?_ | refine YH ?_ _)); exact BK369.out⟩
     have n12_ : Aside0 (((w57.setCell ⟨gb375, 0, none⟩ (.int .i64 t370)).setCell ⟨gb375, 1, none⟩ (.slice Ao64 t371.length co64)).heap[gb375]? = some (.cells #[.int .i64 t370, .slice Ao64 t371.length co64] 25 (0, 0))) := ⟨by (with_reducible repeat (first | refine YF ?_ _ | refine YG ?_ | refine YH ?_ _)); refine blk_put (cs := #[.int .i64 t370, .slice none 0 0]) ?_ 1 _ rfl; (with_reducible repeat (first | refine YF ?_ _ | refine YG ?_ | refine YH ?_ _)); refine blk_put (cs := #[.int .i64 0, .slice none 0 0]) ?_ 0 _ rfl; (with_reducible repeat (first | refine YF ?_ _ | refine YG ?_ | refine YH ?_ _)); exact BK375.out⟩
     have n13_ : Aside0 (Below w.heap.size w ((w57.setCell ⟨gb375, 0, none⟩ (.int .i64 t370)).setCell ⟨gb375, 1, none⟩ (.slice Ao64 t371.length co64))) := ⟨by repeat (first | (with_reducible first | exact HB.out | apply YA | apply YB | apply YC | refine below_set ?_ GE334.out | refine below_set ?_ GE339.out | refine below_set ?_ GE357.out | refine below_set ?_ GE363.out | refine below_set ?_ GE369.out | refine below_set ?_ GE375.out) | exact HB.out)⟩
     (try clear HO338); (try clear HO342); (try clear HO346); (try clear HO355); (try clear HO361); (try clear HO367); (try clear HO373); (try clear BK334); (try clear BK339); (try clear BK357); (try clear BK363); (try clear BK369); (try clear BK375); (try clear HB)
     generalize ((w57.setCell ⟨gb375, 0, none⟩ (.int .i64 t370)).setCell ⟨gb375, 1, none⟩ (.slice Ao64 t371.length co64)) = w77 at n0_ n1_ n2_ n3_ n4_ n5_ n6_ n7_ n8_ n9_ n10_ n11_ n12_ n13_ ⊢
     have HO338 := n0_; have HO342 := n1_; have HO346 := n2_; have HO355 := n3_; have HO361 := n4_; have HO367 := n5_; have HO373 := n6_; have BK334 := n7_; have BK339 := n8_; have BK357 := n9_; have BK363 := n10_; have BK369 := n11_; have BK375 := n12_; have HB := n13_; clear n0_ n1_ n2_ n3_ n4_ n5_ n6_ n7_ n8_ n9_ n10_ n11_ n12_ n13_
     have n0_ := YL (YU HO338.out)
     have n1_ := YL (YU HO342.out)
     have n2_ := YL (YU HO346.out)
     have n3_ := YL (YU HO355.out)
     have n4_ := YL (YU HO361.out)
     have n5_ := YL (YU HO367.out)
     have n6_ := YL (YU HO373.out)
     have n7_ := YL (YG BK334.out)
     have n8_ := YL (YG BK339.out)
     have n9_ := YL (YG BK357.out)
     have n10_ := YL (YG BK363.out)
     have n11_ := YL (YG BK369.out)
     have n12_ := YL (YG BK375.out)
     have n13_ := YL (YC HB.out)
     clear HO338; clear HO342; clear HO346; clear HO355; clear HO361; clear HO367; clear HO373; clear BK334; clear BK339; clear BK357; clear BK363; clear BK369; clear BK375; clear HB; have HO338 := n0_; have HO342 := n1_; have HO346 := n2_; have HO355 := n3_; have HO361 := n4_; have HO367 := n5_; have HO373 := n6_; have BK334 := n7_; have BK339 := n8_; have BK357 := n9_; have BK363 := n10_; have BK369 := n11_; have BK375 := n12_; have HB := n13_; clear n0_ n1_ n2_ n3_ n4_ n5_ n6_ n7_ n8_ n9_ n10_ n11_ n12_ n13_
     refine start_ (n := 29) (S := fun w' => w'.cell? ⟨gb339, 0, none⟩ = some (.int .i64 t335) ∧ w'.cell? ⟨gb339, 1, none⟩ = some (.slice Ao23 t336.length co23) ∧ w'.cell? ⟨gb334, 0, none⟩ = some (.int .i64 a0_0) ∧ w'.cell? ⟨gb334, 1, none⟩ = some (.slice A0_1 l0_1.length c0_1) ∧ (convert 22 9 v341).run Try.prog w' = .ok (.string (strOfNums t340)) w' ∧ (convert 22 9 v345).run Try.prog w' = .ok (.string (strOfNums t344)) w') (ds := []) #[false, false, false, false, false, false, false, false, false, false, false, false, false, false, false, false, false, false, false, false, false, false, false, false, false, false, false, false, false] (by kernel_rfl) rfl rfl ⟨(YI BK339.out 0).trans rfl, (YI BK339.out 1).trans rfl, (YI BK334.out 0).trans rfl, (YI BK334.out 1).trans rfl, (own_string (P := Try.prog) Try.underlying22 Try.underlying5 Try.underlying9 (Kd.own_of_R (by (with_reducible repeat (first | apply YS | apply YT | apply YU)); exact HO342.out))), (own_string (P := Try.prog) Try.underlying22 Try.underlying5 Try.underlying9 (Kd.own_of_R (by (with_reducible repeat (first | apply YS | apply YT | apply YU)); exact HO346.out)))⟩ (fun hHeld => ?_); refine with_tabW thalweglaw06_BeaconDoes.tab12 thalweglaw06_BeaconDoes.bits12 (fun HT_ HW_ => ?_)
     generalize w77.drew = w78 at HO338 HO342 HO346 HO355 HO361 HO367 HO373 BK334 BK339 BK357 BK363 BK369 BK375 HB hHeld ⊢
     refine take_ (i := 0) (N := some 79) (v := ?_) (a' := ?_) #[true, false, false, false, false, false, false, false, false, false, false, false, false, false, false, false, false, false, false, false, false, false, false, false, false, false, false, false, false] rfl rfl (take_ofW HT_.out HW_.out (by kernel_rfl)) (fun _ _ _ h => h) (Or.inl ⟨by rfl, ?_⟩) hHeld ?_ ?_
     rotate_left
     ·rintro w' ⟨s0, s1, s2, s3, s4, s5⟩
      go_simp; with_reducible rfl
     rotate_left
     ·simp only [Act.put, YM, YN, YO, i64_w, i32_w]
      rfl
     refine take_ (i := 3) (N := some 82) (v := ?_) (a' := ?_) #[true, false, false, true, false, false, false, false, false, false, false, false, false, false, false, false, false, false, false, false, false, false, false, false, false, false, false, false, false] rfl rfl (take_ofW HT_.out HW_.out (by kernel_rfl)) (fun _ _ _ h => h) (Or.inl ⟨by rfl, ?_⟩) hHeld ?_ ?_
     rotate_left
     ·rintro w' ⟨s0, s1, s2, s3, s4, s5⟩
      go_simp; with_reducible rfl
     rotate_left
     ·simp only [Act.put, YM, YN, YO, i64_w, i32_w]
      rfl
     refine one_ (i := 1) (N := some 80) #[true, true, false, true, false, false, false, false, false, false, false, false, false, false, false, false, false, false, false, false, false, false, false, false, false, false, false, false, false] rfl rfl (one_of HT_.out (by kernel_rfl)) (by decide) (fun K hK => ?_)
     refine goes_ Try.func22 (by kernel_rfl) rfl #[.agg #[.int .i64 t335, .slice Ao23 t336.length co23]] (by rfl) rfl rfl (by (try simp only [YP, List.map_cons, List.map_nil]); first | done | rfl | (simp only [YR, YQ]; rfl)) ?_
     with_reducible refine (beacon_Check.calls k t335 _ _ t336 t376 _ ?side1 ?side2 A65.out).mono ?_
     (case side1 => repeat (first | exact (Kd.R_reads' HO338.out).2.2 | (with_reducible refine Kd.C_alloc ?_ _) | (with_reducible refine Kd.C_drewN ?_ _) | (with_reducible refine Kd.C_drew ?_)))
     (case side2 => exact (Kd.R_reads' HO338.out).2.1)
     rintro e w79 ⟨rfl, hb⟩
     refine ⟨_, rfl, ?_⟩
     have n0_ := YL (YV (by (with_reducible repeat (first | apply YS | apply YT | apply YU)); exact HO338.out) hb)
     have n1_ := YL (YV (by (with_reducible repeat (first | apply YS | apply YT | apply YU)); exact HO342.out) hb)
     have n2_ := YL (YV (by (with_reducible repeat (first | apply YS | apply YT | apply YU)); exact HO346.out) hb)
     have n3_ := YL (YV (by (with_reducible repeat (first | apply YS | apply YT | apply YU)); exact HO355.out) hb)
     have n4_ := YL (YV (by (with_reducible repeat (first | apply YS | apply YT | apply YU)); exact HO361.out) hb)
     have n5_ := YL (YV (by (with_reducible repeat (first | apply YS | apply YT | apply YU)); exact HO367.out) hb)
     have n6_ := YL (YV (by (with_reducible repeat (first | apply YS | apply YT | apply YU)); exact HO373.out) hb)
     have n7_ := YL (YK (g := gb334) (o := .cells #[.int .i64 a0_0, .slice A0_1 l0_1.length c0_1] 25 (0, 0)) (by (with_reducible repeat (first | refine YF ?_ _ | refine YG ?_ | refine YH ?_ _)); exact BK334.out) hb)
     have n8_ := YL (YK (g := gb339) (o := .cells #[.int .i64 t335, .slice Ao23 t336.length co23] 25 (0, 0)) (by (with_reducible repeat (first | refine YF ?_ _ | refine YG ?_ | refine YH ?_ _)); exact BK339.out) hb)
     have n9_ := YL (YK (g := gb357) (o := .cells #[.int .i64 t352, .slice Ao37 t353.length co37] 25 (0, 0)) (by (with_reducible repeat (first | refine YF ?_ _ | refine YG ?_ | refine YH ?_ _)); exact BK357.out) hb)
     have n10_ := YL (YK (g := gb363) (o := .cells #[.int .i64 t358, .slice Ao45 t359.length co45] 25 (0, 0)) (by (with_reducible repeat (first | refine YF ?_ _ | refine YG ?_ | refine YH ?_ _)); exact BK363.out) hb)
     have n11_ := YL (YK (g := gb369) (o := .cells #[.int .i64 t364, .slice Ao54 t365.length co54] 25 (0, 0)) (by (with_reducible repeat (first | refine YF ?_ _ | refine YG ?_ | refine YH ?_ _)); exact BK369.out) hb)
     have n12_ := YL (YK (g := gb375) (o := .cells #[.int .i64 t370, .slice Ao64 t371.length co64] 25 (0, 0)) (by (with_reducible repeat (first | refine YF ?_ _ | refine YG ?_ | refine YH ?_ _)); exact BK375.out) hb)
     have n13_ := YL (YD (by repeat (first | (with_reducible first | exact HB.out | apply YA | apply YB | apply YC | refine below_set ?_ GE334.out | refine below_set ?_ GE339.out | refine below_set ?_ GE357.out | refine below_set ?_ GE363.out | refine below_set ?_ GE369.out | refine below_set ?_ GE375.out) | exact HB.out)) hb)
     clear HO338; clear HO342; clear HO346; clear HO355; clear HO361; clear HO367; clear HO373; clear BK334; clear BK339; clear BK357; clear BK363; clear BK369; clear BK375; clear HB; have HO338 := n0_; have HO342 := n1_; have HO346 := n2_; have HO355 := n3_; have HO361 := n4_; have HO367 := n5_; have HO373 := n6_; have BK334 := n7_; have BK339 := n8_; have BK357 := n9_; have BK363 := n10_; have BK369 := n11_; have BK375 := n12_; have HB := n13_; clear n0_ n1_ n2_ n3_ n4_ n5_ n6_ n7_ n8_ n9_ n10_ n11_ n12_ n13_; (try clear hb); (try clear hb2); (try clear hk); (try clear hi)
     refine hK.out _ _ ⟨(YI BK339.out 0).trans rfl, (YI BK339.out 1).trans rfl, (YI BK334.out 0).trans rfl, (YI BK334.out 1).trans rfl, (own_string (P := Try.prog) Try.underlying22 Try.underlying5 Try.underlying9 (Kd.own_of_R (by (with_reducible repeat (first | apply YS | apply YT | apply YU)); exact HO342.out))), (own_string (P := Try.prog) Try.underlying22 Try.underlying5 Try.underlying9 (Kd.own_of_R (by (with_reducible repeat (first | apply YS | apply YT | apply YU)); exact HO346.out)))⟩ (fun hHeld => ?_)
     clear hK K
     refine norm_ (a' := ?_) ?_ ?_
     rotate_left
     ·show Act.put _ (some 80) _ = _
      simp only [Act.put, YM, YN, YO, i64_w, i32_w]
      rfl
     refine pure_ (i := 2) (N := some 81) (v := ?_) (a' := ?_) #[true, true, true, true, false, false, false, false, false, false, false, false, false, false, false, false, false, false, false, false, false, false, false, false, false, false, false, false, false] rfl rfl (any_of HT_.out (by kernel_rfl)) (fun _ _ _ h => h) (Or.inl ⟨by rfl, ?_⟩) ?_ ?_
     rotate_left
     ·intro w'
      go_simp; with_reducible rfl
     rotate_left
     ·simp only [Act.put, YM, YN, YO, i64_w, i32_w]
      rfl
     refine one_ (i := 4) (N := some 83) #[true, true, true, true, true, false, false, false, false, false, false, false, false, false, false, false, false, false, false, false, false, false, false, false, false, false, false, false, false] rfl rfl (one_of HT_.out (by kernel_rfl)) (by decide) (fun K hK => ?_)
     refine goes_ Try.func23 (by kernel_rfl) rfl #[.agg #[.int .i64 a0_0, .slice A0_1 l0_1.length c0_1]] (by rfl) rfl rfl (by (try simp only [YP, List.map_cons, List.map_nil]); first | done | rfl | (simp only [YR, YQ]; rfl)) ?_
     with_reducible refine (thalwegref06_Right.calls k a0_0 _ _ l0_1 t377 _ ?side1 ?side2 A66.out).mono ?_
     (case side1 => repeat (first | exact (Kd.C_below HR0_1.out HB.out) | (with_reducible refine Kd.C_alloc ?_ _) | (with_reducible refine Kd.C_drewN ?_ _) | (with_reducible refine Kd.C_drew ?_)))
     (case side2 => exact HC0_1.out)
     rintro e w80 ⟨rfl, hb⟩
     refine ⟨_, rfl, ?_⟩
     have n0_ := YL (YV (by (with_reducible repeat (first | apply YS | apply YT | apply YU)); exact HO338.out) hb)
     have n1_ := YL (YV (by (with_reducible repeat (first | apply YS | apply YT | apply YU)); exact HO342.out) hb)
     have n2_ := YL (YV (by (with_reducible repeat (first | apply YS | apply YT | apply YU)); exact HO346.out) hb)
     have n3_ := YL (YV (by (with_reducible repeat (first | apply YS | apply YT | apply YU)); exact HO355.out) hb)
     have n4_ := YL (YV (by (with_reducible repeat (first | apply YS | apply YT | apply YU)); exact HO361.out) hb)
     have n5_ := YL (YV (by (with_reducible repeat (first | apply YS | apply YT | apply YU)); exact HO367.out) hb)
     have n6_ := YL (YV (by (with_reducible repeat (first | apply YS | apply YT | apply YU)); exact HO373.out) hb)
     have n7_ := YL (YK (g := gb334) (o := .cells #[.int .i64 a0_0, .slice A0_1 l0_1.length c0_1] 25 (0, 0)) (by (with_reducible repeat (first | refine YF ?_ _ | refine YG ?_ | refine YH ?_ _)); exact BK334.out) hb)
     have n8_ := YL (YK (g := gb339) (o := .cells #[.int .i64 t335, .slice Ao23 t336.length co23] 25 (0, 0)) (by (with_reducible repeat (first | refine YF ?_ _ | refine YG ?_ | refine YH ?_ _)); exact BK339.out) hb)
     have n9_ := YL (YK (g := gb357) (o := .cells #[.int .i64 t352, .slice Ao37 t353.length co37] 25 (0, 0)) (by (with_reducible repeat (first | refine YF ?_ _ | refine YG ?_ | refine YH ?_ _)); exact BK357.out) hb)
     have n10_ := YL (YK (g := gb363) (o := .cells #[.int .i64 t358, .slice Ao45 t359.length co45] 25 (0, 0)) (by (with_reducible repeat (first | refine YF ?_ _ | refine YG ?_ | refine YH ?_ _)); exact BK363.out) hb)
     have n11_ := YL (YK (g := gb369) (o := .cells #[.int .i64 t364, .slice Ao54 t365.length co54] 25 (0, 0)) (by (with_reducible repeat (first | refine YF ?_ _ | refine YG ?_ | refine YH ?_ _)); exact BK369.out) hb)
     have n12_ := YL (YK (g := gb375) (o := .cells #[.int .i64 t370, .slice Ao64 t371.length co64] 25 (0, 0)) (by (with_reducible repeat (first | refine YF ?_ _ | refine YG ?_ | refine YH ?_ _)); exact BK375.out) hb)
     have n13_ := YL (YD (by repeat (first | (with_reducible first | exact HB.out | apply YA | apply YB | apply YC | refine below_set ?_ GE334.out | refine below_set ?_ GE339.out | refine below_set ?_ GE357.out | refine below_set ?_ GE363.out | refine below_set ?_ GE369.out | refine below_set ?_ GE375.out) | exact HB.out)) hb)
     clear HO338; clear HO342; clear HO346; clear HO355; clear HO361; clear HO367; clear HO373; clear BK334; clear BK339; clear BK357; clear BK363; clear BK369; clear BK375; clear HB; have HO338 := n0_; have HO342 := n1_; have HO346 := n2_; have HO355 := n3_; have HO361 := n4_; have HO367 := n5_; have HO373 := n6_; have BK334 := n7_; have BK339 := n8_; have BK357 := n9_; have BK363 := n10_; have BK369 := n11_; have BK375 := n12_; have HB := n13_; clear n0_ n1_ n2_ n3_ n4_ n5_ n6_ n7_ n8_ n9_ n10_ n11_ n12_ n13_; (try clear hb); (try clear hb2); (try clear hk); (try clear hi)
     refine hK.out _ _ ⟨(YI BK339.out 0).trans rfl, (YI BK339.out 1).trans rfl, (YI BK334.out 0).trans rfl, (YI BK334.out 1).trans rfl, (own_string (P := Try.prog) Try.underlying22 Try.underlying5 Try.underlying9 (Kd.own_of_R (by (with_reducible repeat (first | apply YS | apply YT | apply YU)); exact HO342.out))), (own_string (P := Try.prog) Try.underlying22 Try.underlying5 Try.underlying9 (Kd.own_of_R (by (with_reducible repeat (first | apply YS | apply YT | apply YU)); exact HO346.out)))⟩ (fun hHeld => ?_)
     clear hK K
     refine norm_ (a' := ?_) ?_ ?_
     rotate_left
     ·show Act.put _ (some 83) _ = _
      simp only [Act.put, YM, YN, YO, i64_w, i32_w]
      rfl
     refine pure_ (i := 5) (N := some 84) (v := ?_) (a' := ?_) #[true, true, true, true, true, true, false, false, false, false, false, false, false, false, false, false, false, false, false, false, false, false, false, false, false, false, false, false, false] rfl rfl (any_of HT_.out (by kernel_rfl)) (fun _ _ _ h => h) (Or.inl ⟨by rfl, ?_⟩) ?_ ?_
     rotate_left
     ·intro w'
      go_simp; with_reducible rfl
     rotate_left
     ·simp only [Act.put, YM, YN, YO, i64_w, i32_w]
      rfl
     refine pure_ (i := 6) (N := some 85) (v := ?_) (a' := ?_) #[true, true, true, true, true, true, true, false, false, false, false, false, false, false, false, false, false, false, false, false, false, false, false, false, false, false, false, false, false] rfl rfl (any_of HT_.out (by kernel_rfl)) (fun _ _ _ h => h) (Or.inl ⟨by rfl, ?_⟩) ?_ ?_
     rotate_left
     ·intro w'
      go_simp; with_reducible rfl
     rotate_left
     ·simp only [Act.put, YM, YN, YO, i64_w, i32_w]
      rfl
     refine pure_ (i := 7) (N := some 86) (v := ?_) (a' := ?_) #[true, true, true, true, true, true, true, true, false, false, false, false, false, false, false, false, false, false, false, false, false, false, false, false, false, false, false, false, false] rfl rfl (any_of HT_.out (by kernel_rfl)) (fun _ _ _ h => h) (Or.inl ⟨by rfl, ?_⟩) ?_ ?_
     rotate_left
     ·intro w'
      go_simp; with_reducible rfl
     rotate_left
     ·simp only [Act.put, YM, YN, YO, i64_w, i32_w]
      rfl
     refine pure_ (i := 9) (N := some 88) (v := ?_) (a' := ?_) #[true, true, true, true, true, true, true, true, false, true, false, false, false, false, false, false, false, false, false, false, false, false, false, false, false, false, false, false, false] rfl rfl (any_of HT_.out (by kernel_rfl)) (fun _ _ _ h => h) (Or.inl ⟨by rfl, ?_⟩) ?_ ?_
     rotate_left
     ·intro w'
      go_simp; with_reducible rfl
     rotate_left
     ·simp only [Act.put, YM, YN, YO, i64_w, i32_w]
      rfl
     refine take_ (i := 8) (N := some 87) (v := ?_) (a' := ?_) #[true, true, true, true, true, true, true, true, true, true, false, false, false, false, false, false, false, false, false, false, false, false, false, false, false, false, false, false, false] rfl rfl (take_ofW HT_.out HW_.out (by kernel_rfl)) (fun _ _ _ h => h) (Or.inl ⟨by rfl, ?_⟩) hHeld ?_ ?_
     rotate_left
     ·rintro w' ⟨s0, s1, s2, s3, s4, s5⟩
      go_simp; with_reducible rfl
     rotate_left
     ·simp only [Act.put, YM, YN, YO, i64_w, i32_w]
      rfl
     refine take_ (i := 10) (N := some 89) (v := ?_) (a' := ?_) #[true, true, true, true, true, true, true, true, true, true, true, false, false, false, false, false, false, false, false, false, false, false, false, false, false, false, false, false, false] rfl rfl (take_ofW HT_.out HW_.out (by kernel_rfl)) (fun _ _ _ h => h) (Or.inl ⟨by rfl, ?_⟩) hHeld ?_ ?_
     rotate_left
     ·rintro w' ⟨s0, s1, s2, s3, s4, s5⟩
      go_simp; with_reducible rfl
     rotate_left
     ·simp only [Act.put, YM, YN, YO, i64_w, i32_w]
      rfl
     refine pure_ (i := 11) (N := some 90) (v := ?_) (a' := ?_) #[true, true, true, true, true, true, true, true, true, true, true, true, false, false, false, false, false, false, false, false, false, false, false, false, false, false, false, false, false] rfl rfl (any_of HT_.out (by kernel_rfl)) (fun _ _ _ h => h) (Or.inl ⟨by rfl, ?_⟩) ?_ ?_
     rotate_left
     ·intro w'
      go_simp; with_reducible rfl
     rotate_left
     ·simp only [Act.put, YM, YN, YO, i64_w, i32_w]
      rfl
     refine pure_ (i := 12) (N := some 91) (v := ?_) (a' := ?_) #[true, true, true, true, true, true, true, true, true, true, true, true, true, false, false, false, false, false, false, false, false, false, false, false, false, false, false, false, false] rfl rfl (any_of HT_.out (by kernel_rfl)) (fun _ _ _ h => h) (Or.inl ⟨by rfl, ?_⟩) ?_ ?_
     rotate_left
     ·intro w'
      go_simp; with_reducible rfl
     rotate_left
     ·simp only [Act.put, YM, YN, YO, i64_w, i32_w]
      rfl
     refine pure_ (i := 13) (N := some 92) (v := ?_) (a' := ?_) #[true, true, true, true, true, true, true, true, true, true, true, true, true, true, false, false, false, false, false, false, false, false, false, false, false, false, false, false, false] rfl rfl (any_of HT_.out (by kernel_rfl)) (fun _ _ _ h => h) (Or.inl ⟨by rfl, ?_⟩) ?_ ?_
     rotate_left
     ·intro w'
      go_simp; with_reducible rfl
     rotate_left
     ·simp only [Act.put, YM, YN, YO, i64_w, i32_w]
      rfl
     refine pure_ (i := 14) (N := some 93) (v := ?_) (a' := ?_) #[true, true, true, true, true, true, true, true, true, true, true, true, true, true, true, false, false, false, false, false, false, false, false, false, false, false, false, false, false] rfl rfl (any_of HT_.out (by kernel_rfl)) (fun _ _ _ h => h) (Or.inl ⟨by rfl, ?_⟩) ?_ ?_
     rotate_left
     ·intro w'
      go_simp; with_reducible rfl
     rotate_left
     ·simp only [Act.put, YM, YN, YO, i64_w, i32_w]
      rfl
     refine pure_ (i := 15) (N := some 94) (v := ?_) (a' := ?_) #[true, true, true, true, true, true, true, true, true, true, true, true, true, true, true, true, false, false, false, false, false, false, false, false, false, false, false, false, false] rfl rfl (any_of HT_.out (by kernel_rfl)) (fun _ _ _ h => h) (Or.inl ⟨by rfl, ?_⟩) ?_ ?_
     rotate_left
     ·intro w'
      go_simp; with_reducible rfl
     rotate_left
     ·simp only [Act.put, YM, YN, YO, i64_w, i32_w]
      rfl
     refine pure_ (i := 16) (N := some 95) (v := ?_) (a' := ?_) #[true, true, true, true, true, true, true, true, true, true, true, true, true, true, true, true, true, false, false, false, false, false, false, false, false, false, false, false, false] rfl rfl (any_of HT_.out (by kernel_rfl)) (fun _ _ _ h => h) (Or.inl ⟨by rfl, ?_⟩) ?_ ?_
     rotate_left
     ·intro w'
      go_simp; with_reducible rfl
     rotate_left
     ·simp only [Act.put, YM, YN, YO, i64_w, i32_w]
      rfl
     refine pure_ (i := 17) (N := some 96) (v := ?_) (a' := ?_) #[true, true, true, true, true, true, true, true, true, true, true, true, true, true, true, true, true, true, false, false, false, false, false, false, false, false, false, false, false] rfl rfl (any_of HT_.out (by kernel_rfl)) (fun _ _ _ h => h) (Or.inl ⟨by rfl, ?_⟩) ?_ ?_
     rotate_left
     ·intro w'
      go_simp; with_reducible rfl
     rotate_left
     ·simp only [Act.put, YM, YN, YO, i64_w, i32_w]
      rfl
     refine pure_ (i := 18) (N := some 97) (v := ?_) (a' := ?_) #[true, true, true, true, true, true, true, true, true, true, true, true, true, true, true, true, true, true, true, false, false, false, false, false, false, false, false, false, false] rfl rfl (any_of HT_.out (by kernel_rfl)) (fun _ _ _ h => h) (Or.inl ⟨by rfl, ?_⟩) ?_ ?_
     rotate_left
     ·intro w'
      go_simp; with_reducible rfl
     rotate_left
     ·simp only [Act.put, YM, YN, YO, i64_w, i32_w]
      rfl
     refine pure_ (i := 19) (N := some 98) (v := ?_) (a' := ?_) #[true, true, true, true, true, true, true, true, true, true, true, true, true, true, true, true, true, true, true, true, false, false, false, false, false, false, false, false, false] rfl rfl (any_of HT_.out (by kernel_rfl)) (fun _ _ _ h => h) (Or.inl ⟨by rfl, ?_⟩) ?_ ?_
     rotate_left
     ·intro w'
      go_simp; with_reducible rfl
     rotate_left
     ·simp only [Act.put, YM, YN, YO, i64_w, i32_w]
      rfl
     refine pure_ (i := 20) (N := some 99) (v := ?_) (a' := ?_) #[true, true, true, true, true, true, true, true, true, true, true, true, true, true, true, true, true, true, true, true, true, false, false, false, false, false, false, false, false] rfl rfl (any_of HT_.out (by kernel_rfl)) (fun _ _ _ h => h) (Or.inl ⟨by rfl, ?_⟩) ?_ ?_
     rotate_left
     ·intro w'
      go_simp; with_reducible rfl
     rotate_left
     ·simp only [Act.put, YM, YN, YO, i64_w, i32_w]
      rfl
     refine pure_ (i := 21) (N := some 100) (v := ?_) (a' := ?_) #[true, true, true, true, true, true, true, true, true, true, true, true, true, true, true, true, true, true, true, true, true, true, false, false, false, false, false, false, false] rfl rfl (any_of HT_.out (by kernel_rfl)) (fun _ _ _ h => h) (Or.inl ⟨by rfl, ?_⟩) ?_ ?_
     rotate_left
     ·intro w'
      go_simp; with_reducible rfl
     rotate_left
     ·simp only [Act.put, YM, YN, YO, i64_w, i32_w]
      rfl
     refine pure_ (i := 22) (N := some 101) (v := ?_) (a' := ?_) #[true, true, true, true, true, true, true, true, true, true, true, true, true, true, true, true, true, true, true, true, true, true, true, false, false, false, false, false, false] rfl rfl (any_of HT_.out (by kernel_rfl)) (fun _ _ _ h => h) (Or.inl ⟨by rfl, ?_⟩) ?_ ?_
     rotate_left
     ·intro w'
      go_simp; with_reducible rfl
     rotate_left
     ·simp only [Act.put, YM, YN, YO, i64_w, i32_w]
      rfl
     refine pure_ (i := 23) (N := some 102) (v := ?_) (a' := ?_) #[true, true, true, true, true, true, true, true, true, true, true, true, true, true, true, true, true, true, true, true, true, true, true, true, false, false, false, false, false] rfl rfl (any_of HT_.out (by kernel_rfl)) (fun _ _ _ h => h) (Or.inl ⟨by rfl, ?_⟩) ?_ ?_
     rotate_left
     ·intro w'
      go_simp; with_reducible rfl
     rotate_left
     ·simp only [Act.put, YM, YN, YO, i64_w, i32_w]
      rfl
     refine pure_ (i := 24) (N := some 103) (v := undef) (a' := ?_) #[true, true, true, true, true, true, true, true, true, true, true, true, true, true, true, true, true, true, true, true, true, true, true, true, true, false, false, false, false] rfl rfl (any_of HT_.out (by kernel_rfl)) (fun _ _ _ h => h) (Or.inr ⟨by rfl, rfl⟩) ?_ ?_
     rotate_left
     ·simp only [Act.put, YM, YN, YO, i64_w, i32_w]
      rfl
     refine pure_ (i := 25) (N := some 104) (v := undef) (a' := ?_) #[true, true, true, true, true, true, true, true, true, true, true, true, true, true, true, true, true, true, true, true, true, true, true, true, true, true, false, false, false] rfl rfl (any_of HT_.out (by kernel_rfl)) (fun _ _ _ h => h) (Or.inr ⟨by rfl, rfl⟩) ?_ ?_
     rotate_left
     ·simp only [Act.put, YM, YN, YO, i64_w, i32_w]
      rfl
     refine pure_ (i := 26) (N := some 105) (v := undef) (a' := ?_) #[true, true, true, true, true, true, true, true, true, true, true, true, true, true, true, true, true, true, true, true, true, true, true, true, true, true, true, false, false] rfl rfl (any_of HT_.out (by kernel_rfl)) (fun _ _ _ h => h) (Or.inr ⟨by rfl, rfl⟩) ?_ ?_
     rotate_left
     ·simp only [Act.put, YM, YN, YO, i64_w, i32_w]
      rfl
     refine pure_ (i := 27) (N := some 106) (v := ?_) (a' := ?_) #[true, true, true, true, true, true, true, true, true, true, true, true, true, true, true, true, true, true, true, true, true, true, true, true, true, true, true, true, false] rfl rfl (any_of HT_.out (by kernel_rfl)) (fun _ _ _ h => h) (Or.inl ⟨by rfl, ?_⟩) ?_ ?_
     rotate_left
     ·intro w'
      go_simp; with_reducible rfl
     rotate_left
     ·simp only [Act.put, YM, YN, YO, i64_w, i32_w]
      rfl
     refine pure_ (i := 28) (N := some 24) (v := ?_) (a' := ?_) #[true, true, true, true, true, true, true, true, true, true, true, true, true, true, true, true, true, true, true, true, true, true, true, true, true, true, true, true, true] rfl rfl (any_of HT_.out (by kernel_rfl)) (fun _ _ _ h => h) (Or.inl ⟨by rfl, ?_⟩) ?_ ?_
     rotate_left
     ·intro w'
      go_simp; with_reducible rfl
     rotate_left
     ·simp only [Act.put, YM, YN, YO, i64_w, i32_w]
      rfl
     refine done_ (done_of HT_.out (by kernel_rfl)) ?_
     try go_wp2
     go_meet
     case rel => exact ⟨_, (false), (by first | rfl | (simp; done) | (simp [*]; done)), H', ⟨by first | omega | exact Nat.le_refl _⟩, ⟨by (with_reducible repeat (first | apply YS | apply YT | apply YU)); exact HO338.out⟩, ⟨by (with_reducible repeat (first | apply YS | apply YT | apply YU)); exact HO355.out⟩, ⟨by (with_reducible repeat (first | apply YS | apply YT | apply YU)); exact HO361.out⟩, ⟨by (with_reducible repeat (first | apply YS | apply YT | apply YU)); exact HO367.out⟩, ⟨by (with_reducible repeat (first | apply YS | apply YT | apply YU)); exact HO373.out⟩, ⟨by (with_reducible repeat (first | refine YF ?_ _ | refine YG ?_ | refine YH ?_ _)); exact BK334.out⟩, ⟨by (with_reducible repeat (first | refine YF ?_ _ | refine YG ?_ | refine YH ?_ _)); exact BK339.out⟩, ⟨by (with_reducible repeat (first | refine YF ?_ _ | refine YG ?_ | refine YH ?_ _)); exact BK357.out⟩, ⟨by (with_reducible repeat (first | refine YF ?_ _ | refine YG ?_ | refine YH ?_ _)); exact BK363.out⟩, ⟨by (with_reducible repeat (first | refine YF ?_ _ | refine YG ?_ | refine YH ?_ _)); exact BK369.out⟩, ⟨by (with_reducible repeat (first | refine YF ?_ _ | refine YG ?_ | refine YH ?_ _)); exact BK375.out⟩, ⟨by repeat (first | (with_reducible first | exact HB.out | apply YA | apply YB | apply YC | refine below_set ?_ GE334.out | refine below_set ?_ GE339.out | refine below_set ?_ GE357.out | refine below_set ?_ GE363.out | refine below_set ?_ GE369.out | refine below_set ?_ GE375.out) | exact HB.out)⟩⟩
    rw [if_neg c69] at H
    have c69b0 : (t343 == t347) = false := beq_eq_false_iff_ne.mpr c69
    have c69b1 : (t343 != t347) = true := bne_iff_ne.mpr c69
    have H' := YL H
    clear H
    try go_wp2
    have n0_ : Aside0 (Kd.R k59 59 ((w57.setCell ⟨gb375, 0, none⟩ (.int .i64 t370)).setCell ⟨gb375, 1, none⟩ (.slice Ao64 t371.length co64)) w.heap.size (fun k_ => some k_ ≠ (.slice Ao37 t353.length co37 : Value).ownBlock ∧ some k_ ≠ (.slice Ao45 t359.length co45 : Value).ownBlock ∧ some k_ ≠ (.slice Ao54 t365.length co54 : Value).ownBlock ∧ some k_ ≠ (.slice Ao64 t371.length co64 : Value).ownBlock) (.slice Ao23 t336.length co23) t336) := ⟨by (with_reducible repeat (first | apply YS | apply YT | apply YU)); exact Kd.R_mono (Kd.R_far (p := ⟨gb375, 1, none⟩) (Kd.R_far (p := ⟨gb375, 0, none⟩) (Kd.R_types HO338.out BK375.out (by decide)) (fun _ hk => hk.2) (.int .i64 t370)) (fun _ hk => hk.2) (.slice Ao64 t371.length co64)) (fun _ hk => ⟨hk.1.1.1.1.2, ⟨hk.1.1.1.2, ⟨hk.1.1.2, hk.1.2⟩⟩⟩)⟩
    have n1_ : Aside0 (Kd.R (Kd.int .u8) 5 ((w57.setCell ⟨gb375, 0, none⟩ (.int .i64 t370)).setCell ⟨gb375, 1, none⟩ (.slice Ao64 t371.length co64)) w.heap.size (fun k_ => some k_ ≠ (v345 : Value).ownBlock) v341 t340) := ⟨by (with_reducible repeat (first | apply YS | apply YT | apply YU)); exact Kd.R_mono (Kd.R_far (p := ⟨gb375, 1, none⟩) (Kd.R_far (p := ⟨gb375, 0, none⟩) (Kd.R_types HO342.out BK375.out (by decide)) (fun _ hk => hk.2) (.int .i64 t370)) (fun _ hk => hk.2) (.slice Ao64 t371.length co64)) (fun _ hk => hk.1.2)⟩
    have n2_ : Aside0 (Kd.R (Kd.int .u8) 5 ((w57.setCell ⟨gb375, 0, none⟩ (.int .i64 t370)).setCell ⟨gb375, 1, none⟩ (.slice Ao64 t371.length co64)) w.heap.size (fun k_ => some k_ ≠ (v341 : Value).ownBlock) v345 t344) := ⟨by (with_reducible repeat (first | apply YS | apply YT | apply YU)); exact Kd.R_mono (Kd.R_far (p := ⟨gb375, 1, none⟩) (Kd.R_far (p := ⟨gb375, 0, none⟩) (Kd.R_types HO346.out BK375.out (by decide)) (fun _ hk => hk.2) (.int .i64 t370)) (fun _ hk => hk.2) (.slice Ao64 t371.length co64)) (fun _ hk => hk.1.2)⟩
    have n3_ : Aside0 (Kd.R k59 59 ((w57.setCell ⟨gb375, 0, none⟩ (.int .i64 t370)).setCell ⟨gb375, 1, none⟩ (.slice Ao64 t371.length co64)) w.heap.size (fun k_ => some k_ ≠ (.slice Ao23 t336.length co23 : Value).ownBlock ∧ some k_ ≠ (.slice Ao45 t359.length co45 : Value).ownBlock ∧ some k_ ≠ (.slice Ao54 t365.length co54 : Value).ownBlock ∧ some k_ ≠ (.slice Ao64 t371.length co64 : Value).ownBlock) (.slice Ao37 t353.length co37) t353) := ⟨by (with_reducible repeat (first | apply YS | apply YT | apply YU)); exact Kd.R_mono (Kd.R_far (p := ⟨gb375, 1, none⟩) (Kd.R_far (p := ⟨gb375, 0, none⟩) (Kd.R_types HO355.out BK375.out (by decide)) (fun _ hk => hk.2) (.int .i64 t370)) (fun _ hk => hk.2) (.slice Ao64 t371.length co64)) (fun _ hk => ⟨hk.1.1.1.1.2, ⟨hk.1.1.1.2, ⟨hk.1.1.2, hk.1.2⟩⟩⟩)⟩
    have n4_ : Aside0 (Kd.R k59 59 ((w57.setCell ⟨gb375, 0, none⟩ (.int .i64 t370)).setCell ⟨gb375, 1, none⟩ (.slice Ao64 t371.length co64)) w.heap.size (fun k_ => some k_ ≠ (.slice Ao23 t336.length co23 : Value).ownBlock ∧ some k_ ≠ (.slice Ao37 t353.length co37 : Value).ownBlock ∧ some k_ ≠ (.slice Ao54 t365.length co54 : Value).ownBlock ∧ some k_ ≠ (.slice Ao64 t371.length co64 : Value).ownBlock) (.slice Ao45 t359.length co45) t359) := ⟨by (with_reducible repeat (first | apply YS | apply YT | apply YU)); exact Kd.R_mono (Kd.R_far (p := ⟨gb375, 1, none⟩) (Kd.R_far (p := ⟨gb375, 0, none⟩) (Kd.R_types HO361.out BK375.out (by decide)) (fun _ hk => hk.2) (.int .i64 t370)) (fun _ hk => hk.2) (.slice Ao64 t371.length co64)) (fun _ hk => ⟨hk.1.1.1.1.2, ⟨hk.1.1.1.2, ⟨hk.1.1.2, hk.1.2⟩⟩⟩)⟩
    have n5_ : Aside0 (Kd.R k59 59 ((w57.setCell ⟨gb375, 0, none⟩ (.int .i64 t370)).setCell ⟨gb375, 1, none⟩ (.slice Ao64 t371.length co64)) w.heap.size (fun k_ => some k_ ≠ (.slice Ao23 t336.length co23 : Value).ownBlock ∧ some k_ ≠ (.slice Ao37 t353.length co37 : Value).ownBlock ∧ some k_ ≠ (.slice Ao45 t359.length co45 : Value).ownBlock ∧ some k_ ≠ (.slice Ao64 t371.length co64 : Value).ownBlock) (.slice Ao54 t365.length co54) t365) := ⟨by (with_reducible repeat (first | apply YS | apply YT | apply YU)); exact Kd.R_mono (Kd.R_far (p := ⟨gb375, 1, none⟩) (Kd.R_far (p := ⟨gb375, 0, none⟩) (Kd.R_types HO367.out BK375.out (by decide)) (fun _ hk => hk.2) (.int .i64 t370)) (fun _ hk => hk.2) (.slice Ao64 t371.length co64)) (fun _ hk => ⟨hk.1.1.1.1.2, ⟨hk.1.1.1.2, ⟨hk.1.1.2, hk.1.2⟩⟩⟩)⟩
    have n6_ : Aside0 (Kd.R k59 59 ((w57.setCell ⟨gb375, 0, none⟩ (.int .i64 t370)).setCell ⟨gb375, 1, none⟩ (.slice Ao64 t371.length co64)) w.heap.size (fun k_ => some k_ ≠ (.slice Ao23 t336.length co23 : Value).ownBlock ∧ some k_ ≠ (.slice Ao37 t353.length co37 : Value).ownBlock ∧ some k_ ≠ (.slice Ao45 t359.length co45 : Value).ownBlock ∧ some k_ ≠ (.slice Ao54 t365.length co54 : Value).ownBlock) (.slice Ao64 t371.length co64) t371) := ⟨by (with_reducible repeat (first | apply YS | apply YT | apply YU)); exact Kd.R_mono (Kd.R_far (p := ⟨gb375, 1, none⟩) (Kd.R_far (p := ⟨gb375, 0, none⟩) (Kd.R_types HO373.out BK375.out (by decide)) (fun _ hk => hk.2) (.int .i64 t370)) (fun _ hk => hk.2) (.slice Ao64 t371.length co64)) (fun _ hk => ⟨hk.1.1.1.1.2, ⟨hk.1.1.1.2, ⟨hk.1.1.2, hk.1.2⟩⟩⟩)⟩
    have n7_ : Aside0 (((w57.setCell ⟨gb375, 0, none⟩ (.int .i64 t370)).setCell ⟨gb375, 1, none⟩ (.slice Ao64 t371.length co64)).heap[gb334]? = some (.cells #[.int .i64 a0_0, .slice A0_1 l0_1.length c0_1] 25 (0, 0))) := ⟨by (with_reducible repeat (first | refine YF ?_ _ | refine YG ?_ | refine YH ?_ _)); refine blk_far ?_ NB334_375.out _; (with_reducible repeat (first | refine YF ?_ _ | refine YG ?_ | refine YH ?_ _)); refine blk_far ?_ NB334_375.out _; (with_reducible repeat (first | refine YF ?_ _ | refine YG ?_ | refine YH ?_ _)); exact BK334.out⟩
    have n8_ : Aside0 (((w57.setCell ⟨gb375, 0, none⟩ (.int .i64 t370)).setCell ⟨gb375, 1, none⟩ (.slice Ao64 t371.length co64)).heap[gb339]? = some (.cells #[.int .i64 t335, .slice Ao23 t336.length co23] 25 (0, 0))) := ⟨by (with_reducible repeat (first | refine YF ?_ _ | refine YG ?_ | refine YH ?_ _)); refine blk_far ?_ NB339_375.out _; (with_reducible repeat (first | refine YF ?_ _ | refine YG ?_ | refine YH ?_ _)); refine blk_far ?_ NB339_375.out _; (with_reducible repeat (first | refine YF ?_ _ | refine YG ?_ | refine YH ?_ _)); exact BK339.out⟩
    have n9_ : Aside0 (((w57.setCell ⟨gb375, 0, none⟩ (.int .i64 t370)).setCell ⟨gb375, 1, none⟩ (.slice Ao64 t371.length co64)).heap[gb357]? = some (.cells #[.int .i64 t352, .slice Ao37 t353.length co37] 25 (0, 0))) := ⟨by (with_reducible repeat (first | refine YF ?_ _ | refine YG ?_ | refine YH ?_ _)); refine blk_far ?_ NB357_375.out _; (with_reducible repeat (first | refine YF ?_ _ | refine YG ?_ | refine YH ?_ _)); refine blk_far ?_ NB357_375.out _; (with_reducible repeat (first | refine YF ?_ _ | refine YG ?_ | refine YH ?_ _)); exact BK357.out⟩
    have n10_ : Aside0 (((w57.setCell ⟨gb375, 0, none⟩ (.int .i64 t370)).setCell ⟨gb375, 1, none⟩ (.slice Ao64 t371.length co64)).heap[gb363]? = some (.cells #[.int .i64 t358, .slice Ao45 t359.length co45] 25 (0, 0))) := ⟨by (with_reducible repeat (first | refine YF ?_ _ | refine YG ?_ | refine YH ?_ _)); refine blk_far ?_ NB363_375.out _; (with_reducible repeat (first | refine YF ?_ _ | refine YG ?_ | refine YH ?_ _)); refine blk_far ?_ NB363_375.out _; (with_reducible repeat (first | refine YF ?_ _ | refine YG ?_ | refine YH ?_ _)); exact BK363.out⟩
    have n11_ : Aside0 (((w57.setCell ⟨gb375, 0, none⟩ (.int .i64 t370)).setCell ⟨gb375, 1, none⟩ (.slice Ao64 t371.length co64)).heap[gb369]? = some (.cells #[.int .i64 t364, .slice Ao54 t365.length co54] 25 (0, 0))) := ⟨by (with_reducible repeat (first | refine YF ?_ _ | refine YG ?_ | refine YH ?_ _)); refine blk_far ?_ NB369_375.out _; (with_reducible repeat (first | refine YF ?_ _ | refine YG ?_ | refine YH ?_ _)); refine blk_far ?_ NB369_375.out _; (with_reducible repeat (first | refine YF ?_ _ | refine YG ?_ | refine YH ?_ _)); exact BK369.out⟩
    have n12_ : Aside0 (((w57.setCell ⟨gb375, 0, none⟩ (.int .i64 t370)).setCell ⟨gb375, 1, none⟩ (.slice Ao64 t371.length co64)).heap[gb375]? = some (.cells #[.int .i64 t370, .slice Ao64 t371.length co64] 25 (0, 0))) := ⟨by (with_reducible repeat (first | refine YF ?_ _ | refine YG ?_ | refine YH ?_ _)); refine blk_put (cs := #[.int .i64 t370, .slice none 0 0]) ?_ 1 _ rfl; (with_reducible repeat (first | refine YF ?_ _ | refine YG ?_ | refine YH ?_ _)); refine blk_put (cs := #[.int .i64 0, .slice none 0 0]) ?_ 0 _ rfl; (with_reducible repeat (first | refine YF ?_ _ | refine YG ?_ | refine YH ?_ _)); exact BK375.out⟩
    have n13_ : Aside0 (Below w.heap.size w ((w57.setCell ⟨gb375, 0, none⟩ (.int .i64 t370)).setCell ⟨gb375, 1, none⟩ (.slice Ao64 t371.length co64))) := ⟨by repeat (first | (with_reducible first | exact HB.out | apply YA | apply YB | apply YC | refine below_set ?_ GE334.out | refine below_set ?_ GE339.out | refine below_set ?_ GE357.out | refine below_set ?_ GE363.out | refine below_set ?_ GE369.out | refine below_set ?_ GE375.out) | exact HB.out)⟩
    (try clear HO338); (try clear HO342); (try clear HO346); (try clear HO355); (try clear HO361); (try clear HO367); (try clear HO373); (try clear BK334); (try clear BK339); (try clear BK357); (try clear BK363); (try clear BK369); (try clear BK375); (try clear HB)
    generalize ((w57.setCell ⟨gb375, 0, none⟩ (.int .i64 t370)).setCell ⟨gb375, 1, none⟩ (.slice Ao64 t371.length co64)) = w83 at n0_ n1_ n2_ n3_ n4_ n5_ n6_ n7_ n8_ n9_ n10_ n11_ n12_ n13_ ⊢
    have HO338 := n0_; have HO342 := n1_; have HO346 := n2_; have HO355 := n3_; have HO361 := n4_; have HO367 := n5_; have HO373 := n6_; have BK334 := n7_; have BK339 := n8_; have BK357 := n9_; have BK363 := n10_; have BK369 := n11_; have BK375 := n12_; have HB := n13_; clear n0_ n1_ n2_ n3_ n4_ n5_ n6_ n7_ n8_ n9_ n10_ n11_ n12_ n13_
    have n0_ := YL (YU HO338.out)
    have n1_ := YL (YU HO342.out)
    have n2_ := YL (YU HO346.out)
    have n3_ := YL (YU HO355.out)
    have n4_ := YL (YU HO361.out)
    have n5_ := YL (YU HO367.out)
    have n6_ := YL (YU HO373.out)
    have n7_ := YL (YG BK334.out)
    have n8_ := YL (YG BK339.out)
    have n9_ := YL (YG BK357.out)
    have n10_ := YL (YG BK363.out)
    have n11_ := YL (YG BK369.out)
    have n12_ := YL (YG BK375.out)
    have n13_ := YL (YC HB.out)
    clear HO338; clear HO342; clear HO346; clear HO355; clear HO361; clear HO367; clear HO373; clear BK334; clear BK339; clear BK357; clear BK363; clear BK369; clear BK375; clear HB; have HO338 := n0_; have HO342 := n1_; have HO346 := n2_; have HO355 := n3_; have HO361 := n4_; have HO367 := n5_; have HO373 := n6_; have BK334 := n7_; have BK339 := n8_; have BK357 := n9_; have BK363 := n10_; have BK369 := n11_; have BK375 := n12_; have HB := n13_; clear n0_ n1_ n2_ n3_ n4_ n5_ n6_ n7_ n8_ n9_ n10_ n11_ n12_ n13_
    refine start_ (n := 29) (S := fun w' => w'.cell? ⟨gb339, 0, none⟩ = some (.int .i64 t335) ∧ w'.cell? ⟨gb339, 1, none⟩ = some (.slice Ao23 t336.length co23) ∧ w'.cell? ⟨gb334, 0, none⟩ = some (.int .i64 a0_0) ∧ w'.cell? ⟨gb334, 1, none⟩ = some (.slice A0_1 l0_1.length c0_1) ∧ (convert 22 9 v341).run Try.prog w' = .ok (.string (strOfNums t340)) w' ∧ (convert 22 9 v345).run Try.prog w' = .ok (.string (strOfNums t344)) w') (ds := []) #[false, false, false, false, false, false, false, false, false, false, false, false, false, false, false, false, false, false, false, false, false, false, false, false, false, false, false, false, false] (by kernel_rfl) rfl rfl ⟨(YI BK339.out 0).trans rfl, (YI BK339.out 1).trans rfl, (YI BK334.out 0).trans rfl, (YI BK334.out 1).trans rfl, (own_string (P := Try.prog) Try.underlying22 Try.underlying5 Try.underlying9 (Kd.own_of_R (by (with_reducible repeat (first | apply YS | apply YT | apply YU)); exact HO342.out))), (own_string (P := Try.prog) Try.underlying22 Try.underlying5 Try.underlying9 (Kd.own_of_R (by (with_reducible repeat (first | apply YS | apply YT | apply YU)); exact HO346.out)))⟩ (fun hHeld => ?_); refine with_tabW thalweglaw06_BeaconDoes.tab12 thalweglaw06_BeaconDoes.bits12 (fun HT_ HW_ => ?_)
    generalize w83.drew = w84 at HO338 HO342 HO346 HO355 HO361 HO367 HO373 BK334 BK339 BK357 BK363 BK369 BK375 HB hHeld ⊢
    refine take_ (i := 0) (N := some 79) (v := ?_) (a' := ?_) #[true, false, false, false, false, false, false, false, false, false, false, false, false, false, false, false, false, false, false, false, false, false, false, false, false, false, false, false, false] rfl rfl (take_ofW HT_.out HW_.out (by kernel_rfl)) (fun _ _ _ h => h) (Or.inl ⟨by rfl, ?_⟩) hHeld ?_ ?_
    rotate_left
    ·rintro w' ⟨s0, s1, s2, s3, s4, s5⟩
     go_simp; with_reducible rfl
    rotate_left
    ·simp only [Act.put, YM, YN, YO, i64_w, i32_w]
     rfl
    refine take_ (i := 3) (N := some 82) (v := ?_) (a' := ?_) #[true, false, false, true, false, false, false, false, false, false, false, false, false, false, false, false, false, false, false, false, false, false, false, false, false, false, false, false, false] rfl rfl (take_ofW HT_.out HW_.out (by kernel_rfl)) (fun _ _ _ h => h) (Or.inl ⟨by rfl, ?_⟩) hHeld ?_ ?_
    rotate_left
    ·rintro w' ⟨s0, s1, s2, s3, s4, s5⟩
     go_simp; with_reducible rfl
    rotate_left
    ·simp only [Act.put, YM, YN, YO, i64_w, i32_w]
     rfl
    refine one_ (i := 1) (N := some 80) #[true, true, false, true, false, false, false, false, false, false, false, false, false, false, false, false, false, false, false, false, false, false, false, false, false, false, false, false, false] rfl rfl (one_of HT_.out (by kernel_rfl)) (by decide) (fun K hK => ?_)
    refine goes_ Try.func22 (by kernel_rfl) rfl #[.agg #[.int .i64 t335, .slice Ao23 t336.length co23]] (by rfl) rfl rfl (by (try simp only [YP, List.map_cons, List.map_nil]); first | done | rfl | (simp only [YR, YQ]; rfl)) ?_
    with_reducible refine (beacon_Check.calls k t335 _ _ t336 t376 _ ?side1 ?side2 A65.out).mono ?_
    (case side1 => repeat (first | exact (Kd.R_reads' HO338.out).2.2 | (with_reducible refine Kd.C_alloc ?_ _) | (with_reducible refine Kd.C_drewN ?_ _) | (with_reducible refine Kd.C_drew ?_)))
    (case side2 => exact (Kd.R_reads' HO338.out).2.1)
    rintro e w85 ⟨rfl, hb⟩
    refine ⟨_, rfl, ?_⟩
    have n0_ := YL (YV (by (with_reducible repeat (first | apply YS | apply YT | apply YU)); exact HO338.out) hb)
    have n1_ := YL (YV (by (with_reducible repeat (first | apply YS | apply YT | apply YU)); exact HO342.out) hb)
    have n2_ := YL (YV (by (with_reducible repeat (first | apply YS | apply YT | apply YU)); exact HO346.out) hb)
    have n3_ := YL (YV (by (with_reducible repeat (first | apply YS | apply YT | apply YU)); exact HO355.out) hb)
    have n4_ := YL (YV (by (with_reducible repeat (first | apply YS | apply YT | apply YU)); exact HO361.out) hb)
    have n5_ := YL (YV (by (with_reducible repeat (first | apply YS | apply YT | apply YU)); exact HO367.out) hb)
    have n6_ := YL (YV (by (with_reducible repeat (first | apply YS | apply YT | apply YU)); exact HO373.out) hb)
    have n7_ := YL (YK (g := gb334) (o := .cells #[.int .i64 a0_0, .slice A0_1 l0_1.length c0_1] 25 (0, 0)) (by (with_reducible repeat (first | refine YF ?_ _ | refine YG ?_ | refine YH ?_ _)); exact BK334.out) hb)
    have n8_ := YL (YK (g := gb339) (o := .cells #[.int .i64 t335, .slice Ao23 t336.length co23] 25 (0, 0)) (by (with_reducible repeat (first | refine YF ?_ _ | refine YG ?_ | refine YH ?_ _)); exact BK339.out) hb)
    have n9_ := YL (YK (g := gb357) (o := .cells #[.int .i64 t352, .slice Ao37 t353.length co37] 25 (0, 0)) (by (with_reducible repeat (first | refine YF ?_ _ | refine YG ?_ | refine YH ?_ _)); exact BK357.out) hb)
    have n10_ := YL (YK (g := gb363) (o := .cells #[.int .i64 t358, .slice Ao45 t359.length co45] 25 (0, 0)) (by (with_reducible repeat (first | refine YF ?_ _ | refine YG ?_ | refine YH ?_ _)); exact BK363.out) hb)
    have n11_ := YL (YK (g := gb369) (o := .cells #[.int .i64 t364, .slice Ao54 t365.length co54] 25 (0, 0)) (by (with_reducible repeat (first | refine YF ?_ _ | refine YG ?_ | refine YH ?_ _)); exact BK369.out) hb)
    have n12_ := YL (YK (g := gb375) (o := .cells #[.int .i64 t370, .slice Ao64 t371.length co64] 25 (0, 0)) (by (with_reducible repeat (first | refine YF ?_ _ | refine YG ?_ | refine YH ?_ _)); exact BK375.out) hb)
    have n13_ := YL (YD (by repeat (first | (with_reducible first | exact HB.out | apply YA | apply YB | apply YC | refine below_set ?_ GE334.out | refine below_set ?_ GE339.out | refine below_set ?_ GE357.out | refine below_set ?_ GE363.out | refine below_set ?_ GE369.out | refine below_set ?_ GE375.out) | exact HB.out)) hb)
    clear HO338; clear HO342; clear HO346; clear HO355; clear HO361; clear HO367; clear HO373; clear BK334; clear BK339; clear BK357; clear BK363; clear BK369; clear BK375; clear HB; have HO338 := n0_; have HO342 := n1_; have HO346 := n2_; have HO355 := n3_; have HO361 := n4_; have HO367 := n5_; have HO373 := n6_; have BK334 := n7_; have BK339 := n8_; have BK357 := n9_; have BK363 := n10_; have BK369 := n11_; have BK375 := n12_; have HB := n13_; clear n0_ n1_ n2_ n3_ n4_ n5_ n6_ n7_ n8_ n9_ n10_ n11_ n12_ n13_; (try clear hb); (try clear hb2); (try clear hk); (try clear hi)
    refine hK.out _ _ ⟨(YI BK339.out 0).trans rfl, (YI BK339.out 1).trans rfl, (YI BK334.out 0).trans rfl, (YI BK334.out 1).trans rfl, (own_string (P := Try.prog) Try.underlying22 Try.underlying5 Try.underlying9 (Kd.own_of_R (by (with_reducible repeat (first | apply YS | apply YT | apply YU)); exact HO342.out))), (own_string (P := Try.prog) Try.underlying22 Try.underlying5 Try.underlying9 (Kd.own_of_R (by (with_reducible repeat (first | apply YS | apply YT | apply YU)); exact HO346.out)))⟩ (fun hHeld => ?_)
    clear hK K
    refine norm_ (a' := ?_) ?_ ?_
    rotate_left
    ·show Act.put _ (some 80) _ = _
     simp only [Act.put, YM, YN, YO, i64_w, i32_w]
     rfl
    refine pure_ (i := 2) (N := some 81) (v := ?_) (a' := ?_) #[true, true, true, true, false, false, false, false, false, false, false, false, false, false, false, false, false, false, false, false, false, false, false, false, false, false, false, false, false] rfl rfl (any_of HT_.out (by kernel_rfl)) (fun _ _ _ h => h) (Or.inl ⟨by rfl, ?_⟩) ?_ ?_
    rotate_left
    ·intro w'
     go_simp; with_reducible rfl
    rotate_left
    ·simp only [Act.put, YM, YN, YO, i64_w, i32_w]
     rfl
    refine one_ (i := 4) (N := some 83) #[true, true, true, true, true, false, false, false, false, false, false, false, false, false, false, false, false, false, false, false, false, false, false, false, false, false, false, false, false] rfl rfl (one_of HT_.out (by kernel_rfl)) (by decide) (fun K hK => ?_)
    refine goes_ Try.func23 (by kernel_rfl) rfl #[.agg #[.int .i64 a0_0, .slice A0_1 l0_1.length c0_1]] (by rfl) rfl rfl (by (try simp only [YP, List.map_cons, List.map_nil]); first | done | rfl | (simp only [YR, YQ]; rfl)) ?_
    with_reducible refine (thalwegref06_Right.calls k a0_0 _ _ l0_1 t377 _ ?side1 ?side2 A66.out).mono ?_
    (case side1 => repeat (first | exact (Kd.C_below HR0_1.out HB.out) | (with_reducible refine Kd.C_alloc ?_ _) | (with_reducible refine Kd.C_drewN ?_ _) | (with_reducible refine Kd.C_drew ?_)))
    (case side2 => exact HC0_1.out)
    rintro e w86 ⟨rfl, hb⟩
    refine ⟨_, rfl, ?_⟩
    have n0_ := YL (YV (by (with_reducible repeat (first | apply YS | apply YT | apply YU)); exact HO338.out) hb)
    have n1_ := YL (YV (by (with_reducible repeat (first | apply YS | apply YT | apply YU)); exact HO342.out) hb)
    have n2_ := YL (YV (by (with_reducible repeat (first | apply YS | apply YT | apply YU)); exact HO346.out) hb)
    have n3_ := YL (YV (by (with_reducible repeat (first | apply YS | apply YT | apply YU)); exact HO355.out) hb)
    have n4_ := YL (YV (by (with_reducible repeat (first | apply YS | apply YT | apply YU)); exact HO361.out) hb)
    have n5_ := YL (YV (by (with_reducible repeat (first | apply YS | apply YT | apply YU)); exact HO367.out) hb)
    have n6_ := YL (YV (by (with_reducible repeat (first | apply YS | apply YT | apply YU)); exact HO373.out) hb)
    have n7_ := YL (YK (g := gb334) (o := .cells #[.int .i64 a0_0, .slice A0_1 l0_1.length c0_1] 25 (0, 0)) (by (with_reducible repeat (first | refine YF ?_ _ | refine YG ?_ | refine YH ?_ _)); exact BK334.out) hb)
    have n8_ := YL (YK (g := gb339) (o := .cells #[.int .i64 t335, .slice Ao23 t336.length co23] 25 (0, 0)) (by (with_reducible repeat (first | refine YF ?_ _ | refine YG ?_ | refine YH ?_ _)); exact BK339.out) hb)
    have n9_ := YL (YK (g := gb357) (o := .cells #[.int .i64 t352, .slice Ao37 t353.length co37] 25 (0, 0)) (by (with_reducible repeat (first | refine YF ?_ _ | refine YG ?_ | refine YH ?_ _)); exact BK357.out) hb)
    have n10_ := YL (YK (g := gb363) (o := .cells #[.int .i64 t358, .slice Ao45 t359.length co45] 25 (0, 0)) (by (with_reducible repeat (first | refine YF ?_ _ | refine YG ?_ | refine YH ?_ _)); exact BK363.out) hb)
    have n11_ := YL (YK (g := gb369) (o := .cells #[.int .i64 t364, .slice Ao54 t365.length co54] 25 (0, 0)) (by (with_reducible repeat (first | refine YF ?_ _ | refine YG ?_ | refine YH ?_ _)); exact BK369.out) hb)
    have n12_ := YL (YK (g := gb375) (o := .cells #[.int .i64 t370, .slice Ao64 t371.length co64] 25 (0, 0)) (by (with_reducible repeat (first | refine YF ?_ _ | refine YG ?_ | refine YH ?_ _)); exact BK375.out) hb)
    have n13_ := YL (YD (by repeat (first | (with_reducible first | exact HB.out | apply YA | apply YB | apply YC | refine below_set ?_ GE334.out | refine below_set ?_ GE339.out | refine below_set ?_ GE357.out | refine below_set ?_ GE363.out | refine below_set ?_ GE369.out | refine below_set ?_ GE375.out) | exact HB.out)) hb)
    clear HO338; clear HO342; clear HO346; clear HO355; clear HO361; clear HO367; clear HO373; clear BK334; clear BK339; clear BK357; clear BK363; clear BK369; clear BK375; clear HB; have HO338 := n0_; have HO342 := n1_; have HO346 := n2_; have HO355 := n3_; have HO361 := n4_; have HO367 := n5_; have HO373 := n6_; have BK334 := n7_; have BK339 := n8_; have BK357 := n9_; have BK363 := n10_; have BK369 := n11_; have BK375 := n12_; have HB := n13_; clear n0_ n1_ n2_ n3_ n4_ n5_ n6_ n7_ n8_ n9_ n10_ n11_ n12_ n13_; (try clear hb); (try clear hb2); (try clear hk); (try clear hi)
    refine hK.out _ _ ⟨(YI BK339.out 0).trans rfl, (YI BK339.out 1).trans rfl, (YI BK334.out 0).trans rfl, (YI BK334.out 1).trans rfl, (own_string (P := Try.prog) Try.underlying22 Try.underlying5 Try.underlying9 (Kd.own_of_R (by (with_reducible repeat (first | apply YS | apply YT | apply YU)); exact HO342.out))), (own_string (P := Try.prog) Try.underlying22 Try.underlying5 Try.underlying9 (Kd.own_of_R (by (with_reducible repeat (first | apply YS | apply YT | apply YU)); exact HO346.out)))⟩ (fun hHeld => ?_)
    clear hK K
    refine norm_ (a' := ?_) ?_ ?_
    rotate_left
    ·show Act.put _ (some 83) _ = _
     simp only [Act.put, YM, YN, YO, i64_w, i32_w]
     rfl
    refine pure_ (i := 5) (N := some 84) (v := ?_) (a' := ?_) #[true, true, true, true, true, true, false, false, false, false, false, false, false, false, false, false, false, false, false, false, false, false, false, false, false, false, false, false, false] rfl rfl (any_of HT_.out (by kernel_rfl)) (fun _ _ _ h => h) (Or.inl ⟨by rfl, ?_⟩) ?_ ?_
    rotate_left
    ·intro w'
     go_simp; with_reducible rfl
    rotate_left
    ·simp only [Act.put, YM, YN, YO, i64_w, i32_w]
     rfl
    refine pure_ (i := 6) (N := some 85) (v := ?_) (a' := ?_) #[true, true, true, true, true, true, true, false, false, false, false, false, false, false, false, false, false, false, false, false, false, false, false, false, false, false, false, false, false] rfl rfl (any_of HT_.out (by kernel_rfl)) (fun _ _ _ h => h) (Or.inl ⟨by rfl, ?_⟩) ?_ ?_
    rotate_left
    ·intro w'
     go_simp; with_reducible rfl
    rotate_left
    ·simp only [Act.put, YM, YN, YO, i64_w, i32_w]
     rfl
    refine pure_ (i := 7) (N := some 86) (v := ?_) (a' := ?_) #[true, true, true, true, true, true, true, true, false, false, false, false, false, false, false, false, false, false, false, false, false, false, false, false, false, false, false, false, false] rfl rfl (any_of HT_.out (by kernel_rfl)) (fun _ _ _ h => h) (Or.inl ⟨by rfl, ?_⟩) ?_ ?_
    rotate_left
    ·intro w'
     go_simp; with_reducible rfl
    rotate_left
    ·simp only [Act.put, YM, YN, YO, i64_w, i32_w]
     rfl
    refine pure_ (i := 9) (N := some 88) (v := ?_) (a' := ?_) #[true, true, true, true, true, true, true, true, false, true, false, false, false, false, false, false, false, false, false, false, false, false, false, false, false, false, false, false, false] rfl rfl (any_of HT_.out (by kernel_rfl)) (fun _ _ _ h => h) (Or.inl ⟨by rfl, ?_⟩) ?_ ?_
    rotate_left
    ·intro w'
     go_simp; with_reducible rfl
    rotate_left
    ·simp only [Act.put, YM, YN, YO, i64_w, i32_w]
     rfl
    refine take_ (i := 8) (N := some 87) (v := ?_) (a' := ?_) #[true, true, true, true, true, true, true, true, true, true, false, false, false, false, false, false, false, false, false, false, false, false, false, false, false, false, false, false, false] rfl rfl (take_ofW HT_.out HW_.out (by kernel_rfl)) (fun _ _ _ h => h) (Or.inl ⟨by rfl, ?_⟩) hHeld ?_ ?_
    rotate_left
    ·rintro w' ⟨s0, s1, s2, s3, s4, s5⟩
     go_simp; with_reducible rfl
    rotate_left
    ·simp only [Act.put, YM, YN, YO, i64_w, i32_w]
     rfl
    refine take_ (i := 10) (N := some 89) (v := ?_) (a' := ?_) #[true, true, true, true, true, true, true, true, true, true, true, false, false, false, false, false, false, false, false, false, false, false, false, false, false, false, false, false, false] rfl rfl (take_ofW HT_.out HW_.out (by kernel_rfl)) (fun _ _ _ h => h) (Or.inl ⟨by rfl, ?_⟩) hHeld ?_ ?_
    rotate_left
    ·rintro w' ⟨s0, s1, s2, s3, s4, s5⟩
     go_simp; with_reducible rfl
    rotate_left
    ·simp only [Act.put, YM, YN, YO, i64_w, i32_w]
     rfl
    refine pure_ (i := 11) (N := some 90) (v := ?_) (a' := ?_) #[true, true, true, true, true, true, true, true, true, true, true, true, false, false, false, false, false, false, false, false, false, false, false, false, false, false, false, false, false] rfl rfl (any_of HT_.out (by kernel_rfl)) (fun _ _ _ h => h) (Or.inl ⟨by rfl, ?_⟩) ?_ ?_
    rotate_left
    ·intro w'
     go_simp; with_reducible rfl
    rotate_left
    ·simp only [Act.put, YM, YN, YO, i64_w, i32_w]
     rfl
    refine pure_ (i := 12) (N := some 91) (v := ?_) (a' := ?_) #[true, true, true, true, true, true, true, true, true, true, true, true, true, false, false, false, false, false, false, false, false, false, false, false, false, false, false, false, false] rfl rfl (any_of HT_.out (by kernel_rfl)) (fun _ _ _ h => h) (Or.inl ⟨by rfl, ?_⟩) ?_ ?_
    rotate_left
    ·intro w'
     go_simp; with_reducible rfl
    rotate_left
    ·simp only [Act.put, YM, YN, YO, i64_w, i32_w]
     rfl
    refine pure_ (i := 13) (N := some 92) (v := ?_) (a' := ?_) #[true, true, true, true, true, true, true, true, true, true, true, true, true, true, false, false, false, false, false, false, false, false, false, false, false, false, false, false, false] rfl rfl (any_of HT_.out (by kernel_rfl)) (fun _ _ _ h => h) (Or.inl ⟨by rfl, ?_⟩) ?_ ?_
    rotate_left
    ·intro w'
     go_simp; with_reducible rfl
    rotate_left
    ·simp only [Act.put, YM, YN, YO, i64_w, i32_w]
     rfl
    refine pure_ (i := 14) (N := some 93) (v := ?_) (a' := ?_) #[true, true, true, true, true, true, true, true, true, true, true, true, true, true, true, false, false, false, false, false, false, false, false, false, false, false, false, false, false] rfl rfl (any_of HT_.out (by kernel_rfl)) (fun _ _ _ h => h) (Or.inl ⟨by rfl, ?_⟩) ?_ ?_
    rotate_left
    ·intro w'
     go_simp; with_reducible rfl
    rotate_left
    ·simp only [Act.put, YM, YN, YO, i64_w, i32_w]
     rfl
    refine pure_ (i := 15) (N := some 94) (v := ?_) (a' := ?_) #[true, true, true, true, true, true, true, true, true, true, true, true, true, true, true, true, false, false, false, false, false, false, false, false, false, false, false, false, false] rfl rfl (any_of HT_.out (by kernel_rfl)) (fun _ _ _ h => h) (Or.inl ⟨by rfl, ?_⟩) ?_ ?_
    rotate_left
    ·intro w'
     go_simp; with_reducible rfl
    rotate_left
    ·simp only [Act.put, YM, YN, YO, i64_w, i32_w]
     rfl
    refine pure_ (i := 16) (N := some 95) (v := ?_) (a' := ?_) #[true, true, true, true, true, true, true, true, true, true, true, true, true, true, true, true, true, false, false, false, false, false, false, false, false, false, false, false, false] rfl rfl (any_of HT_.out (by kernel_rfl)) (fun _ _ _ h => h) (Or.inl ⟨by rfl, ?_⟩) ?_ ?_
    rotate_left
    ·intro w'
     go_simp; with_reducible rfl
    rotate_left
    ·simp only [Act.put, YM, YN, YO, i64_w, i32_w]
     rfl
    refine pure_ (i := 17) (N := some 96) (v := ?_) (a' := ?_) #[true, true, true, true, true, true, true, true, true, true, true, true, true, true, true, true, true, true, false, false, false, false, false, false, false, false, false, false, false] rfl rfl (any_of HT_.out (by kernel_rfl)) (fun _ _ _ h => h) (Or.inl ⟨by rfl, ?_⟩) ?_ ?_
    rotate_left
    ·intro w'
     go_simp; with_reducible rfl
    rotate_left
    ·simp only [Act.put, YM, YN, YO, i64_w, i32_w]
     rfl
    refine pure_ (i := 18) (N := some 97) (v := ?_) (a' := ?_) #[true, true, true, true, true, true, true, true, true, true, true, true, true, true, true, true, true, true, true, false, false, false, false, false, false, false, false, false, false] rfl rfl (any_of HT_.out (by kernel_rfl)) (fun _ _ _ h => h) (Or.inl ⟨by rfl, ?_⟩) ?_ ?_
    rotate_left
    ·intro w'
     go_simp; with_reducible rfl
    rotate_left
    ·simp only [Act.put, YM, YN, YO, i64_w, i32_w]
     rfl
    refine pure_ (i := 19) (N := some 98) (v := undef) (a' := ?_) #[true, true, true, true, true, true, true, true, true, true, true, true, true, true, true, true, true, true, true, true, false, false, false, false, false, false, false, false, false] rfl rfl (any_of HT_.out (by kernel_rfl)) (fun _ _ _ h => h) (Or.inr ⟨by rfl, rfl⟩) ?_ ?_
    rotate_left
    ·simp only [Act.put, YM, YN, YO, i64_w, i32_w]
     rfl
    refine pure_ (i := 20) (N := some 99) (v := undef) (a' := ?_) #[true, true, true, true, true, true, true, true, true, true, true, true, true, true, true, true, true, true, true, true, true, false, false, false, false, false, false, false, false] rfl rfl (any_of HT_.out (by kernel_rfl)) (fun _ _ _ h => h) (Or.inr ⟨by rfl, rfl⟩) ?_ ?_
    rotate_left
    ·simp only [Act.put, YM, YN, YO, i64_w, i32_w]
     rfl
    refine pure_ (i := 21) (N := some 100) (v := undef) (a' := ?_) #[true, true, true, true, true, true, true, true, true, true, true, true, true, true, true, true, true, true, true, true, true, true, false, false, false, false, false, false, false] rfl rfl (any_of HT_.out (by kernel_rfl)) (fun _ _ _ h => h) (Or.inr ⟨by rfl, rfl⟩) ?_ ?_
    rotate_left
    ·simp only [Act.put, YM, YN, YO, i64_w, i32_w]
     rfl
    refine pure_ (i := 22) (N := some 101) (v := ?_) (a' := ?_) #[true, true, true, true, true, true, true, true, true, true, true, true, true, true, true, true, true, true, true, true, true, true, true, false, false, false, false, false, false] rfl rfl (any_of HT_.out (by kernel_rfl)) (fun _ _ _ h => h) (Or.inl ⟨by rfl, ?_⟩) ?_ ?_
    rotate_left
    ·intro w'
     go_simp; with_reducible rfl
    rotate_left
    ·simp only [Act.put, YM, YN, YO, i64_w, i32_w]
     rfl
    refine pure_ (i := 23) (N := some 102) (v := ?_) (a' := ?_) #[true, true, true, true, true, true, true, true, true, true, true, true, true, true, true, true, true, true, true, true, true, true, true, true, false, false, false, false, false] rfl rfl (any_of HT_.out (by kernel_rfl)) (fun _ _ _ h => h) (Or.inl ⟨by rfl, ?_⟩) ?_ ?_
    rotate_left
    ·intro w'
     go_simp; with_reducible rfl
    rotate_left
    ·simp only [Act.put, YM, YN, YO, i64_w, i32_w]
     rfl
    refine pure_ (i := 24) (N := some 103) (v := undef) (a' := ?_) #[true, true, true, true, true, true, true, true, true, true, true, true, true, true, true, true, true, true, true, true, true, true, true, true, true, false, false, false, false] rfl rfl (any_of HT_.out (by kernel_rfl)) (fun _ _ _ h => h) (Or.inr ⟨by rfl, rfl⟩) ?_ ?_
    rotate_left
    ·simp only [Act.put, YM, YN, YO, i64_w, i32_w]
     rfl
    refine pure_ (i := 25) (N := some 104) (v := undef) (a' := ?_) #[true, true, true, true, true, true, true, true, true, true, true, true, true, true, true, true, true, true, true, true, true, true, true, true, true, true, false, false, false] rfl rfl (any_of HT_.out (by kernel_rfl)) (fun _ _ _ h => h) (Or.inr ⟨by rfl, rfl⟩) ?_ ?_
    rotate_left
    ·simp only [Act.put, YM, YN, YO, i64_w, i32_w]
     rfl
    refine pure_ (i := 26) (N := some 105) (v := undef) (a' := ?_) #[true, true, true, true, true, true, true, true, true, true, true, true, true, true, true, true, true, true, true, true, true, true, true, true, true, true, true, false, false] rfl rfl (any_of HT_.out (by kernel_rfl)) (fun _ _ _ h => h) (Or.inr ⟨by rfl, rfl⟩) ?_ ?_
    rotate_left
    ·simp only [Act.put, YM, YN, YO, i64_w, i32_w]
     rfl
    refine pure_ (i := 27) (N := some 106) (v := ?_) (a' := ?_) #[true, true, true, true, true, true, true, true, true, true, true, true, true, true, true, true, true, true, true, true, true, true, true, true, true, true, true, true, false] rfl rfl (any_of HT_.out (by kernel_rfl)) (fun _ _ _ h => h) (Or.inl ⟨by rfl, ?_⟩) ?_ ?_
    rotate_left
    ·intro w'
     go_simp; with_reducible rfl
    rotate_left
    ·simp only [Act.put, YM, YN, YO, i64_w, i32_w]
     rfl
    refine pure_ (i := 28) (N := some 24) (v := ?_) (a' := ?_) #[true, true, true, true, true, true, true, true, true, true, true, true, true, true, true, true, true, true, true, true, true, true, true, true, true, true, true, true, true] rfl rfl (any_of HT_.out (by kernel_rfl)) (fun _ _ _ h => h) (Or.inl ⟨by rfl, ?_⟩) ?_ ?_
    rotate_left
    ·intro w'
     go_simp; with_reducible rfl
    rotate_left
    ·simp only [Act.put, YM, YN, YO, i64_w, i32_w]
     rfl
    refine done_ (done_of HT_.out (by kernel_rfl)) ?_
    try go_wp2
    go_meet
    case rel => exact ⟨_, (false), (by first | rfl | (simp; done) | (simp [*]; done)), H', ⟨by first | omega | exact Nat.le_refl _⟩, ⟨by (with_reducible repeat (first | apply YS | apply YT | apply YU)); exact HO338.out⟩, ⟨by (with_reducible repeat (first | apply YS | apply YT | apply YU)); exact HO355.out⟩, ⟨by (with_reducible repeat (first | apply YS | apply YT | apply YU)); exact HO361.out⟩, ⟨by (with_reducible repeat (first | apply YS | apply YT | apply YU)); exact HO367.out⟩, ⟨by (with_reducible repeat (first | apply YS | apply YT | apply YU)); exact HO373.out⟩, ⟨by (with_reducible repeat (first | refine YF ?_ _ | refine YG ?_ | refine YH ?_ _)); exact BK334.out⟩, ⟨by (with_reducible repeat (first | refine YF ?_ _ | refine YG ?_ | refine YH ?_ _)); exact BK339.out⟩, ⟨by (with_reducible repeat (first | refine YF ?_ _ | refine YG ?_ | refine YH ?_ _)); exact BK357.out⟩, ⟨by (with_reducible repeat (first | refine YF ?_ _ | refine YG ?_ | refine YH ?_ _)); exact BK363.out⟩, ⟨by (with_reducible repeat (first | refine YF ?_ _ | refine YG ?_ | refine YH ?_ _)); exact BK369.out⟩, ⟨by (with_reducible repeat (first | refine YF ?_ _ | refine YG ?_ | refine YH ?_ _)); exact BK375.out⟩, ⟨by repeat (first | (with_reducible first | exact HB.out | apply YA | apply YB | apply YC | refine below_set ?_ GE334.out | refine below_set ?_ GE339.out | refine below_set ?_ GE357.out | refine below_set ?_ GE363.out | refine below_set ?_ GE369.out | refine below_set ?_ GE375.out) | exact HB.out)⟩⟩
   rw [if_neg c68] at H
   have c68b0 : ((strOfNums t340).toList == (strOfNums t344).toList) = false := beq_eq_false_iff_ne.mpr c68
   have c68b1 : ((strOfNums t340).toList != (strOfNums t344).toList) = true := bne_iff_ne.mpr c68
   have H' := YL H
   clear H
   try go_wp2
   have n0_ : Aside0 (Kd.R k59 59 ((w57.setCell ⟨gb375, 0, none⟩ (.int .i64 t370)).setCell ⟨gb375, 1, none⟩ (.slice Ao64 t371.length co64)) w.heap.size (fun k_ => some k_ ≠ (.slice Ao37 t353.length co37 : Value).ownBlock ∧ some k_ ≠ (.slice Ao45 t359.length co45 : Value).ownBlock ∧ some k_ ≠ (.slice Ao54 t365.length co54 : Value).ownBlock ∧ some k_ ≠ (.slice Ao64 t371.length co64 : Value).ownBlock) (.slice Ao23 t336.length co23) t336) := ⟨by (with_reducible repeat (first | apply YS | apply YT | apply YU)); exact Kd.R_mono (Kd.R_far (p := ⟨gb375, 1, none⟩) (Kd.R_far (p := ⟨gb375, 0, none⟩) (Kd.R_types HO338.out BK375.out (by decide)) (fun _ hk => hk.2) (.int .i64 t370)) (fun _ hk => hk.2) (.slice Ao64 t371.length co64)) (fun _ hk => ⟨hk.1.1.1.1.2, ⟨hk.1.1.1.2, ⟨hk.1.1.2, hk.1.2⟩⟩⟩)⟩
   have n1_ : Aside0 (Kd.R (Kd.int .u8) 5 ((w57.setCell ⟨gb375, 0, none⟩ (.int .i64 t370)).setCell ⟨gb375, 1, none⟩ (.slice Ao64 t371.length co64)) w.heap.size (fun k_ => some k_ ≠ (v345 : Value).ownBlock) v341 t340) := ⟨by (with_reducible repeat (first | apply YS | apply YT | apply YU)); exact Kd.R_mono (Kd.R_far (p := ⟨gb375, 1, none⟩) (Kd.R_far (p := ⟨gb375, 0, none⟩) (Kd.R_types HO342.out BK375.out (by decide)) (fun _ hk => hk.2) (.int .i64 t370)) (fun _ hk => hk.2) (.slice Ao64 t371.length co64)) (fun _ hk => hk.1.2)⟩
   have n2_ : Aside0 (Kd.R (Kd.int .u8) 5 ((w57.setCell ⟨gb375, 0, none⟩ (.int .i64 t370)).setCell ⟨gb375, 1, none⟩ (.slice Ao64 t371.length co64)) w.heap.size (fun k_ => some k_ ≠ (v341 : Value).ownBlock) v345 t344) := ⟨by (with_reducible repeat (first | apply YS | apply YT | apply YU)); exact Kd.R_mono (Kd.R_far (p := ⟨gb375, 1, none⟩) (Kd.R_far (p := ⟨gb375, 0, none⟩) (Kd.R_types HO346.out BK375.out (by decide)) (fun _ hk => hk.2) (.int .i64 t370)) (fun _ hk => hk.2) (.slice Ao64 t371.length co64)) (fun _ hk => hk.1.2)⟩
   have n3_ : Aside0 (Kd.R k59 59 ((w57.setCell ⟨gb375, 0, none⟩ (.int .i64 t370)).setCell ⟨gb375, 1, none⟩ (.slice Ao64 t371.length co64)) w.heap.size (fun k_ => some k_ ≠ (.slice Ao23 t336.length co23 : Value).ownBlock ∧ some k_ ≠ (.slice Ao45 t359.length co45 : Value).ownBlock ∧ some k_ ≠ (.slice Ao54 t365.length co54 : Value).ownBlock ∧ some k_ ≠ (.slice Ao64 t371.length co64 : Value).ownBlock) (.slice Ao37 t353.length co37) t353) := ⟨by (with_reducible repeat (first | apply YS | apply YT | apply YU)); exact Kd.R_mono (Kd.R_far (p := ⟨gb375, 1, none⟩) (Kd.R_far (p := ⟨gb375, 0, none⟩) (Kd.R_types HO355.out BK375.out (by decide)) (fun _ hk => hk.2) (.int .i64 t370)) (fun _ hk => hk.2) (.slice Ao64 t371.length co64)) (fun _ hk => ⟨hk.1.1.1.1.2, ⟨hk.1.1.1.2, ⟨hk.1.1.2, hk.1.2⟩⟩⟩)⟩
   have n4_ : Aside0 (Kd.R k59 59 ((w57.setCell ⟨gb375, 0, none⟩ (.int .i64 t370)).setCell ⟨gb375, 1, none⟩ (.slice Ao64 t371.length co64)) w.heap.size (fun k_ => some k_ ≠ (.slice Ao23 t336.length co23 : Value).ownBlock ∧ some k_ ≠ (.slice Ao37 t353.length co37 : Value).ownBlock ∧ some k_ ≠ (.slice Ao54 t365.length co54 : Value).ownBlock ∧ some k_ ≠ (.slice Ao64 t371.length co64 : Value).ownBlock) (.slice Ao45 t359.length co45) t359) := ⟨by (with_reducible repeat (first | apply YS | apply YT | apply YU)); exact Kd.R_mono (Kd.R_far (p := ⟨gb375, 1, none⟩) (Kd.R_far (p := ⟨gb375, 0, none⟩) (Kd.R_types HO361.out BK375.out (by decide)) (fun _ hk => hk.2) (.int .i64 t370)) (fun _ hk => hk.2) (.slice Ao64 t371.length co64)) (fun _ hk => ⟨hk.1.1.1.1.2, ⟨hk.1.1.1.2, ⟨hk.1.1.2, hk.1.2⟩⟩⟩)⟩
   have n5_ : Aside0 (Kd.R k59 59 ((w57.setCell ⟨gb375, 0, none⟩ (.int .i64 t370)).setCell ⟨gb375, 1, none⟩ (.slice Ao64 t371.length co64)) w.heap.size (fun k_ => some k_ ≠ (.slice Ao23 t336.length co23 : Value).ownBlock ∧ some k_ ≠ (.slice Ao37 t353.length co37 : Value).ownBlock ∧ some k_ ≠ (.slice Ao45 t359.length co45 : Value).ownBlock ∧ some k_ ≠ (.slice Ao64 t371.length co64 : Value).ownBlock) (.slice Ao54 t365.length co54) t365) := ⟨by (with_reducible repeat (first | apply YS | apply YT | apply YU)); exact Kd.R_mono (Kd.R_far (p := ⟨gb375, 1, none⟩) (Kd.R_far (p := ⟨gb375, 0, none⟩) (Kd.R_types HO367.out BK375.out (by decide)) (fun _ hk => hk.2) (.int .i64 t370)) (fun _ hk => hk.2) (.slice Ao64 t371.length co64)) (fun _ hk => ⟨hk.1.1.1.1.2, ⟨hk.1.1.1.2, ⟨hk.1.1.2, hk.1.2⟩⟩⟩)⟩
   have n6_ : Aside0 (Kd.R k59 59 ((w57.setCell ⟨gb375, 0, none⟩ (.int .i64 t370)).setCell ⟨gb375, 1, none⟩ (.slice Ao64 t371.length co64)) w.heap.size (fun k_ => some k_ ≠ (.slice Ao23 t336.length co23 : Value).ownBlock ∧ some k_ ≠ (.slice Ao37 t353.length co37 : Value).ownBlock ∧ some k_ ≠ (.slice Ao45 t359.length co45 : Value).ownBlock ∧ some k_ ≠ (.slice Ao54 t365.length co54 : Value).ownBlock) (.slice Ao64 t371.length co64) t371) := ⟨by (with_reducible repeat (first | apply YS | apply YT | apply YU)); exact Kd.R_mono (Kd.R_far (p := ⟨gb375, 1, none⟩) (Kd.R_far (p := ⟨gb375, 0, none⟩) (Kd.R_types HO373.out BK375.out (by decide)) (fun _ hk => hk.2) (.int .i64 t370)) (fun _ hk => hk.2) (.slice Ao64 t371.length co64)) (fun _ hk => ⟨hk.1.1.1.1.2, ⟨hk.1.1.1.2, ⟨hk.1.1.2, hk.1.2⟩⟩⟩)⟩
   have n7_ : Aside0 (((w57.setCell ⟨gb375, 0, none⟩ (.int .i64 t370)).setCell ⟨gb375, 1, none⟩ (.slice Ao64 t371.length co64)).heap[gb334]? = some (.cells #[.int .i64 a0_0, .slice A0_1 l0_1.length c0_1] 25 (0, 0))) := ⟨by (with_reducible repeat (first | refine YF ?_ _ | refine YG ?_ | refine YH ?_ _)); refine blk_far ?_ NB334_375.out _; (with_reducible repeat (first | refine YF ?_ _ | refine YG ?_ | refine YH ?_ _)); refine blk_far ?_ NB334_375.out _; (with_reducible repeat (first | refine YF ?_ _ | refine YG ?_ | refine YH ?_ _)); exact BK334.out⟩
   have n8_ : Aside0 (((w57.setCell ⟨gb375, 0, none⟩ (.int .i64 t370)).setCell ⟨gb375, 1, none⟩ (.slice Ao64 t371.length co64)).heap[gb339]? = some (.cells #[.int .i64 t335, .slice Ao23 t336.length co23] 25 (0, 0))) := ⟨by (with_reducible repeat (first | refine YF ?_ _ | refine YG ?_ | refine YH ?_ _)); refine blk_far ?_ NB339_375.out _; (with_reducible repeat (first | refine YF ?_ _ | refine YG ?_ | refine YH ?_ _)); refine blk_far ?_ NB339_375.out _; (with_reducible repeat (first | refine YF ?_ _ | refine YG ?_ | refine YH ?_ _)); exact BK339.out⟩
   have n9_ : Aside0 (((w57.setCell ⟨gb375, 0, none⟩ (.int .i64 t370)).setCell ⟨gb375, 1, none⟩ (.slice Ao64 t371.length co64)).heap[gb357]? = some (.cells #[.int .i64 t352, .slice Ao37 t353.length co37] 25 (0, 0))) := ⟨by (with_reducible repeat (first | refine YF ?_ _ | refine YG ?_ | refine YH ?_ _)); refine blk_far ?_ NB357_375.out _; (with_reducible repeat (first | refine YF ?_ _ | refine YG ?_ | refine YH ?_ _)); refine blk_far ?_ NB357_375.out _; (with_reducible repeat (first | refine YF ?_ _ | refine YG ?_ | refine YH ?_ _)); exact BK357.out⟩
   have n10_ : Aside0 (((w57.setCell ⟨gb375, 0, none⟩ (.int .i64 t370)).setCell ⟨gb375, 1, none⟩ (.slice Ao64 t371.length co64)).heap[gb363]? = some (.cells #[.int .i64 t358, .slice Ao45 t359.length co45] 25 (0, 0))) := ⟨by (with_reducible repeat (first | refine YF ?_ _ | refine YG ?_ | refine YH ?_ _)); refine blk_far ?_ NB363_375.out _; (with_reducible repeat (first | refine YF ?_ _ | refine YG ?_ | refine YH ?_ _)); refine blk_far ?_ NB363_375.out _; (with_reducible repeat (first | refine YF ?_ _ | refine YG ?_ | refine YH ?_ _)); exact BK363.out⟩
   have n11_ : Aside0 (((w57.setCell ⟨gb375, 0, none⟩ (.int .i64 t370)).setCell ⟨gb375, 1, none⟩ (.slice Ao64 t371.length co64)).heap[gb369]? = some (.cells #[.int .i64 t364, .slice Ao54 t365.length co54] 25 (0, 0))) := ⟨by (with_reducible repeat (first | refine YF ?_ _ | refine YG ?_ | refine YH ?_ _)); refine blk_far ?_ NB369_375.out _; (with_reducible repeat (first | refine YF ?_ _ | refine YG ?_ | refine YH ?_ _)); refine blk_far ?_ NB369_375.out _; (with_reducible repeat (first | refine YF ?_ _ | refine YG ?_ | refine YH ?_ _)); exact BK369.out⟩
   have n12_ : Aside0 (((w57.setCell ⟨gb375, 0, none⟩ (.int .i64 t370)).setCell ⟨gb375, 1, none⟩ (.slice Ao64 t371.length co64)).heap[gb375]? = some (.cells #[.int .i64 t370, .slice Ao64 t371.length co64] 25 (0, 0))) := ⟨by (with_reducible repeat (first | refine YF ?_ _ | refine YG ?_ | refine YH ?_ _)); refine blk_put (cs := #[.int .i64 t370, .slice none 0 0]) ?_ 1 _ rfl; (with_reducible repeat (first | refine YF ?_ _ | refine YG ?_ | refine YH ?_ _)); refine blk_put (cs := #[.int .i64 0, .slice none 0 0]) ?_ 0 _ rfl; (with_reducible repeat (first | refine YF ?_ _ | refine YG ?_ | refine YH ?_ _)); exact BK375.out⟩
   have n13_ : Aside0 (Below w.heap.size w ((w57.setCell ⟨gb375, 0, none⟩ (.int .i64 t370)).setCell ⟨gb375, 1, none⟩ (.slice Ao64 t371.length co64))) := ⟨by repeat (first | (with_reducible first | exact HB.out | apply YA | apply YB | apply YC | refine below_set ?_ GE334.out | refine below_set ?_ GE339.out | refine below_set ?_ GE357.out | refine below_set ?_ GE363.out | refine below_set ?_ GE369.out | refine below_set ?_ GE375.out) | exact HB.out)⟩
   (try clear HO338); (try clear HO342); (try clear HO346); (try clear HO355); (try clear HO361); (try clear HO367); (try clear HO373); (try clear BK334); (try clear BK339); (try clear BK357); (try clear BK363); (try clear BK369); (try clear BK375); (try clear HB)
   generalize ((w57.setCell ⟨gb375, 0, none⟩ (.int .i64 t370)).setCell ⟨gb375, 1, none⟩ (.slice Ao64 t371.length co64)) = w89 at n0_ n1_ n2_ n3_ n4_ n5_ n6_ n7_ n8_ n9_ n10_ n11_ n12_ n13_ ⊢
   have HO338 := n0_; have HO342 := n1_; have HO346 := n2_; have HO355 := n3_; have HO361 := n4_; have HO367 := n5_; have HO373 := n6_; have BK334 := n7_; have BK339 := n8_; have BK357 := n9_; have BK363 := n10_; have BK369 := n11_; have BK375 := n12_; have HB := n13_; clear n0_ n1_ n2_ n3_ n4_ n5_ n6_ n7_ n8_ n9_ n10_ n11_ n12_ n13_
   have n0_ := YL (YU HO338.out)
   have n1_ := YL (YU HO342.out)
   have n2_ := YL (YU HO346.out)
   have n3_ := YL (YU HO355.out)
   have n4_ := YL (YU HO361.out)
   have n5_ := YL (YU HO367.out)
   have n6_ := YL (YU HO373.out)
   have n7_ := YL (YG BK334.out)
   have n8_ := YL (YG BK339.out)
   have n9_ := YL (YG BK357.out)
   have n10_ := YL (YG BK363.out)
   have n11_ := YL (YG BK369.out)
   have n12_ := YL (YG BK375.out)
   have n13_ := YL (YC HB.out)
   clear HO338; clear HO342; clear HO346; clear HO355; clear HO361; clear HO367; clear HO373; clear BK334; clear BK339; clear BK357; clear BK363; clear BK369; clear BK375; clear HB; have HO338 := n0_; have HO342 := n1_; have HO346 := n2_; have HO355 := n3_; have HO361 := n4_; have HO367 := n5_; have HO373 := n6_; have BK334 := n7_; have BK339 := n8_; have BK357 := n9_; have BK363 := n10_; have BK369 := n11_; have BK375 := n12_; have HB := n13_; clear n0_ n1_ n2_ n3_ n4_ n5_ n6_ n7_ n8_ n9_ n10_ n11_ n12_ n13_
   refine start_ (n := 29) (S := fun w' => w'.cell? ⟨gb339, 0, none⟩ = some (.int .i64 t335) ∧ w'.cell? ⟨gb339, 1, none⟩ = some (.slice Ao23 t336.length co23) ∧ w'.cell? ⟨gb334, 0, none⟩ = some (.int .i64 a0_0) ∧ w'.cell? ⟨gb334, 1, none⟩ = some (.slice A0_1 l0_1.length c0_1) ∧ (convert 22 9 v341).run Try.prog w' = .ok (.string (strOfNums t340)) w' ∧ (convert 22 9 v345).run Try.prog w' = .ok (.string (strOfNums t344)) w') (ds := []) #[false, false, false, false, false, false, false, false, false, false, false, false, false, false, false, false, false, false, false, false, false, false, false, false, false, false, false, false, false] (by kernel_rfl) rfl rfl ⟨(YI BK339.out 0).trans rfl, (YI BK339.out 1).trans rfl, (YI BK334.out 0).trans rfl, (YI BK334.out 1).trans rfl, (own_string (P := Try.prog) Try.underlying22 Try.underlying5 Try.underlying9 (Kd.own_of_R (by (with_reducible repeat (first | apply YS | apply YT | apply YU)); exact HO342.out))), (own_string (P := Try.prog) Try.underlying22 Try.underlying5 Try.underlying9 (Kd.own_of_R (by (with_reducible repeat (first | apply YS | apply YT | apply YU)); exact HO346.out)))⟩ (fun hHeld => ?_); refine with_tabW thalweglaw06_BeaconDoes.tab12 thalweglaw06_BeaconDoes.bits12 (fun HT_ HW_ => ?_)
   generalize w89.drew = w90 at HO338 HO342 HO346 HO355 HO361 HO367 HO373 BK334 BK339 BK357 BK363 BK369 BK375 HB hHeld ⊢
   refine take_ (i := 0) (N := some 79) (v := ?_) (a' := ?_) #[true, false, false, false, false, false, false, false, false, false, false, false, false, false, false, false, false, false, false, false, false, false, false, false, false, false, false, false, false] rfl rfl (take_ofW HT_.out HW_.out (by kernel_rfl)) (fun _ _ _ h => h) (Or.inl ⟨by rfl, ?_⟩) hHeld ?_ ?_
   rotate_left
   ·rintro w' ⟨s0, s1, s2, s3, s4, s5⟩
    go_simp; with_reducible rfl
   rotate_left
   ·simp only [Act.put, YM, YN, YO, i64_w, i32_w]
    rfl
   refine take_ (i := 3) (N := some 82) (v := ?_) (a' := ?_) #[true, false, false, true, false, false, false, false, false, false, false, false, false, false, false, false, false, false, false, false, false, false, false, false, false, false, false, false, false] rfl rfl (take_ofW HT_.out HW_.out (by kernel_rfl)) (fun _ _ _ h => h) (Or.inl ⟨by rfl, ?_⟩) hHeld ?_ ?_
   rotate_left
   ·rintro w' ⟨s0, s1, s2, s3, s4, s5⟩
    go_simp; with_reducible rfl
   rotate_left
   ·simp only [Act.put, YM, YN, YO, i64_w, i32_w]
    rfl
   refine one_ (i := 1) (N := some 80) #[true, true, false, true, false, false, false, false, false, false, false, false, false, false, false, false, false, false, false, false, false, false, false, false, false, false, false, false, false] rfl rfl (one_of HT_.out (by kernel_rfl)) (by decide) (fun K hK => ?_)
   refine goes_ Try.func22 (by kernel_rfl) rfl #[.agg #[.int .i64 t335, .slice Ao23 t336.length co23]] (by rfl) rfl rfl (by (try simp only [YP, List.map_cons, List.map_nil]); first | done | rfl | (simp only [YR, YQ]; rfl)) ?_
   with_reducible refine (beacon_Check.calls k t335 _ _ t336 t376 _ ?side1 ?side2 A65.out).mono ?_
   (case side1 => repeat (first | exact (Kd.R_reads' HO338.out).2.2 | (with_reducible refine Kd.C_alloc ?_ _) | (with_reducible refine Kd.C_drewN ?_ _) | (with_reducible refine Kd.C_drew ?_)))
   (case side2 => exact (Kd.R_reads' HO338.out).2.1)
   rintro e w91 ⟨rfl, hb⟩
   refine ⟨_, rfl, ?_⟩
   have n0_ := YL (YV (by (with_reducible repeat (first | apply YS | apply YT | apply YU)); exact HO338.out) hb)
   have n1_ := YL (YV (by (with_reducible repeat (first | apply YS | apply YT | apply YU)); exact HO342.out) hb)
   have n2_ := YL (YV (by (with_reducible repeat (first | apply YS | apply YT | apply YU)); exact HO346.out) hb)
   have n3_ := YL (YV (by (with_reducible repeat (first | apply YS | apply YT | apply YU)); exact HO355.out) hb)
   have n4_ := YL (YV (by (with_reducible repeat (first | apply YS | apply YT | apply YU)); exact HO361.out) hb)
   have n5_ := YL (YV (by (with_reducible repeat (first | apply YS | apply YT | apply YU)); exact HO367.out) hb)
   have n6_ := YL (YV (by (with_reducible repeat (first | apply YS | apply YT | apply YU)); exact HO373.out) hb)
   have n7_ := YL (YK (g := gb334) (o := .cells #[.int .i64 a0_0, .slice A0_1 l0_1.length c0_1] 25 (0, 0)) (by (with_reducible repeat (first | refine YF ?_ _ | refine YG ?_ | refine YH ?_ _)); exact BK334.out) hb)
   have n8_ := YL (YK (g := gb339) (o := .cells #[.int .i64 t335, .slice Ao23 t336.length co23] 25 (0, 0)) (by (with_reducible repeat (first | refine YF ?_ _ | refine YG ?_ | refine YH ?_ _)); exact BK339.out) hb)
   have n9_ := YL (YK (g := gb357) (o := .cells #[.int .i64 t352, .slice Ao37 t353.length co37] 25 (0, 0)) (by (with_reducible repeat (first | refine YF ?_ _ | refine YG ?_ | refine YH ?_ _)); exact BK357.out) hb)
   have n10_ := YL (YK (g := gb363) (o := .cells #[.int .i64 t358, .slice Ao45 t359.length co45] 25 (0, 0)) (by (with_reducible repeat (first | refine YF ?_ _ | refine YG ?_ | refine YH ?_ _)); exact BK363.out) hb)
   have n11_ := YL (YK (g := gb369) (o := .cells #[.int .i64 t364, .slice Ao54 t365.length co54] 25 (0, 0)) (by (with_reducible repeat (first | refine YF ?_ _ | refine YG ?_ | refine YH ?_ _)); exact BK369.out) hb)
   have n12_ := YL (YK (g := gb375) (o := .cells #[.int .i64 t370, .slice Ao64 t371.length co64] 25 (0, 0)) (by (with_reducible repeat (first | refine YF ?_ _ | refine YG ?_ | refine YH ?_ _)); exact BK375.out) hb)
   have n13_ := YL (YD (by repeat (first | (with_reducible first | exact HB.out | apply YA | apply YB | apply YC | refine below_set ?_ GE334.out | refine below_set ?_ GE339.out | refine below_set ?_ GE357.out | refine below_set ?_ GE363.out | refine below_set ?_ GE369.out | refine below_set ?_ GE375.out) | exact HB.out)) hb)
   clear HO338; clear HO342; clear HO346; clear HO355; clear HO361; clear HO367; clear HO373; clear BK334; clear BK339; clear BK357; clear BK363; clear BK369; clear BK375; clear HB; have HO338 := n0_; have HO342 := n1_; have HO346 := n2_; have HO355 := n3_; have HO361 := n4_; have HO367 := n5_; have HO373 := n6_; have BK334 := n7_; have BK339 := n8_; have BK357 := n9_; have BK363 := n10_; have BK369 := n11_; have BK375 := n12_; have HB := n13_; clear n0_ n1_ n2_ n3_ n4_ n5_ n6_ n7_ n8_ n9_ n10_ n11_ n12_ n13_; (try clear hb); (try clear hb2); (try clear hk); (try clear hi)
   refine hK.out _ _ ⟨(YI BK339.out 0).trans rfl, (YI BK339.out 1).trans rfl, (YI BK334.out 0).trans rfl, (YI BK334.out 1).trans rfl, (own_string (P := Try.prog) Try.underlying22 Try.underlying5 Try.underlying9 (Kd.own_of_R (by (with_reducible repeat (first | apply YS | apply YT | apply YU)); exact HO342.out))), (own_string (P := Try.prog) Try.underlying22 Try.underlying5 Try.underlying9 (Kd.own_of_R (by (with_reducible repeat (first | apply YS | apply YT | apply YU)); exact HO346.out)))⟩ (fun hHeld => ?_)
   clear hK K
   refine norm_ (a' := ?_) ?_ ?_
   rotate_left
   ·show Act.put _ (some 80) _ = _
    simp only [Act.put, YM, YN, YO, i64_w, i32_w]
    rfl
   refine pure_ (i := 2) (N := some 81) (v := ?_) (a' := ?_) #[true, true, true, true, false, false, false, false, false, false, false, false, false, false, false, false, false, false, false, false, false, false, false, false, false, false, false, false, false] rfl rfl (any_of HT_.out (by kernel_rfl)) (fun _ _ _ h => h) (Or.inl ⟨by rfl, ?_⟩) ?_ ?_
   rotate_left
   ·intro w'
    go_simp; with_reducible rfl
   rotate_left
   ·simp only [Act.put, YM, YN, YO, i64_w, i32_w]
    rfl
   refine one_ (i := 4) (N := some 83) #[true, true, true, true, true, false, false, false, false, false, false, false, false, false, false, false, false, false, false, false, false, false, false, false, false, false, false, false, false] rfl rfl (one_of HT_.out (by kernel_rfl)) (by decide) (fun K hK => ?_)
   refine goes_ Try.func23 (by kernel_rfl) rfl #[.agg #[.int .i64 a0_0, .slice A0_1 l0_1.length c0_1]] (by rfl) rfl rfl (by (try simp only [YP, List.map_cons, List.map_nil]); first | done | rfl | (simp only [YR, YQ]; rfl)) ?_
   with_reducible refine (thalwegref06_Right.calls k a0_0 _ _ l0_1 t377 _ ?side1 ?side2 A66.out).mono ?_
   (case side1 => repeat (first | exact (Kd.C_below HR0_1.out HB.out) | (with_reducible refine Kd.C_alloc ?_ _) | (with_reducible refine Kd.C_drewN ?_ _) | (with_reducible refine Kd.C_drew ?_)))
   (case side2 => exact HC0_1.out)
   rintro e w92 ⟨rfl, hb⟩
   refine ⟨_, rfl, ?_⟩
   have n0_ := YL (YV (by (with_reducible repeat (first | apply YS | apply YT | apply YU)); exact HO338.out) hb)
   have n1_ := YL (YV (by (with_reducible repeat (first | apply YS | apply YT | apply YU)); exact HO342.out) hb)
   have n2_ := YL (YV (by (with_reducible repeat (first | apply YS | apply YT | apply YU)); exact HO346.out) hb)
   have n3_ := YL (YV (by (with_reducible repeat (first | apply YS | apply YT | apply YU)); exact HO355.out) hb)
   have n4_ := YL (YV (by (with_reducible repeat (first | apply YS | apply YT | apply YU)); exact HO361.out) hb)
   have n5_ := YL (YV (by (with_reducible repeat (first | apply YS | apply YT | apply YU)); exact HO367.out) hb)
   have n6_ := YL (YV (by (with_reducible repeat (first | apply YS | apply YT | apply YU)); exact HO373.out) hb)
   have n7_ := YL (YK (g := gb334) (o := .cells #[.int .i64 a0_0, .slice A0_1 l0_1.length c0_1] 25 (0, 0)) (by (with_reducible repeat (first | refine YF ?_ _ | refine YG ?_ | refine YH ?_ _)); exact BK334.out) hb)
   have n8_ := YL (YK (g := gb339) (o := .cells #[.int .i64 t335, .slice Ao23 t336.length co23] 25 (0, 0)) (by (with_reducible repeat (first | refine YF ?_ _ | refine YG ?_ | refine YH ?_ _)); exact BK339.out) hb)
   have n9_ := YL (YK (g := gb357) (o := .cells #[.int .i64 t352, .slice Ao37 t353.length co37] 25 (0, 0)) (by (with_reducible repeat (first | refine YF ?_ _ | refine YG ?_ | refine YH ?_ _)); exact BK357.out) hb)
   have n10_ := YL (YK (g := gb363) (o := .cells #[.int .i64 t358, .slice Ao45 t359.length co45] 25 (0, 0)) (by (with_reducible repeat (first | refine YF ?_ _ | refine YG ?_ | refine YH ?_ _)); exact BK363.out) hb)
   have n11_ := YL (YK (g := gb369) (o := .cells #[.int .i64 t364, .slice Ao54 t365.length co54] 25 (0, 0)) (by (with_reducible repeat (first | refine YF ?_ _ | refine YG ?_ | refine YH ?_ _)); exact BK369.out) hb)
   have n12_ := YL (YK (g := gb375) (o := .cells #[.int .i64 t370, .slice Ao64 t371.length co64] 25 (0, 0)) (by (with_reducible repeat (first | refine YF ?_ _ | refine YG ?_ | refine YH ?_ _)); exact BK375.out) hb)
   have n13_ := YL (YD (by repeat (first | (with_reducible first | exact HB.out | apply YA | apply YB | apply YC | refine below_set ?_ GE334.out | refine below_set ?_ GE339.out | refine below_set ?_ GE357.out | refine below_set ?_ GE363.out | refine below_set ?_ GE369.out | refine below_set ?_ GE375.out) | exact HB.out)) hb)
   clear HO338; clear HO342; clear HO346; clear HO355; clear HO361; clear HO367; clear HO373; clear BK334; clear BK339; clear BK357; clear BK363; clear BK369; clear BK375; clear HB; have HO338 := n0_; have HO342 := n1_; have HO346 := n2_; have HO355 := n3_; have HO361 := n4_; have HO367 := n5_; have HO373 := n6_; have BK334 := n7_; have BK339 := n8_; have BK357 := n9_; have BK363 := n10_; have BK369 := n11_; have BK375 := n12_; have HB := n13_; clear n0_ n1_ n2_ n3_ n4_ n5_ n6_ n7_ n8_ n9_ n10_ n11_ n12_ n13_; (try clear hb); (try clear hb2); (try clear hk); (try clear hi)
   refine hK.out _ _ ⟨(YI BK339.out 0).trans rfl, (YI BK339.out 1).trans rfl, (YI BK334.out 0).trans rfl, (YI BK334.out 1).trans rfl, (own_string (P := Try.prog) Try.underlying22 Try.underlying5 Try.underlying9 (Kd.own_of_R (by (with_reducible repeat (first | apply YS | apply YT | apply YU)); exact HO342.out))), (own_string (P := Try.prog) Try.underlying22 Try.underlying5 Try.underlying9 (Kd.own_of_R (by (with_reducible repeat (first | apply YS | apply YT | apply YU)); exact HO346.out)))⟩ (fun hHeld => ?_)
   clear hK K
   refine norm_ (a' := ?_) ?_ ?_
   rotate_left
   ·show Act.put _ (some 83) _ = _
    simp only [Act.put, YM, YN, YO, i64_w, i32_w]
    rfl
   refine pure_ (i := 5) (N := some 84) (v := ?_) (a' := ?_) #[true, true, true, true, true, true, false, false, false, false, false, false, false, false, false, false, false, false, false, false, false, false, false, false, false, false, false, false, false] rfl rfl (any_of HT_.out (by kernel_rfl)) (fun _ _ _ h => h) (Or.inl ⟨by rfl, ?_⟩) ?_ ?_
   rotate_left
   ·intro w'
    go_simp; with_reducible rfl
   rotate_left
   ·simp only [Act.put, YM, YN, YO, i64_w, i32_w]
    rfl
   refine pure_ (i := 6) (N := some 85) (v := ?_) (a' := ?_) #[true, true, true, true, true, true, true, false, false, false, false, false, false, false, false, false, false, false, false, false, false, false, false, false, false, false, false, false, false] rfl rfl (any_of HT_.out (by kernel_rfl)) (fun _ _ _ h => h) (Or.inl ⟨by rfl, ?_⟩) ?_ ?_
   rotate_left
   ·intro w'
    go_simp; with_reducible rfl
   rotate_left
   ·simp only [Act.put, YM, YN, YO, i64_w, i32_w]
    rfl
   refine pure_ (i := 7) (N := some 86) (v := ?_) (a' := ?_) #[true, true, true, true, true, true, true, true, false, false, false, false, false, false, false, false, false, false, false, false, false, false, false, false, false, false, false, false, false] rfl rfl (any_of HT_.out (by kernel_rfl)) (fun _ _ _ h => h) (Or.inl ⟨by rfl, ?_⟩) ?_ ?_
   rotate_left
   ·intro w'
    go_simp; with_reducible rfl
   rotate_left
   ·simp only [Act.put, YM, YN, YO, i64_w, i32_w]
    rfl
   refine pure_ (i := 9) (N := some 88) (v := ?_) (a' := ?_) #[true, true, true, true, true, true, true, true, false, true, false, false, false, false, false, false, false, false, false, false, false, false, false, false, false, false, false, false, false] rfl rfl (any_of HT_.out (by kernel_rfl)) (fun _ _ _ h => h) (Or.inl ⟨by rfl, ?_⟩) ?_ ?_
   rotate_left
   ·intro w'
    go_simp; with_reducible rfl
   rotate_left
   ·simp only [Act.put, YM, YN, YO, i64_w, i32_w]
    rfl
   refine take_ (i := 8) (N := some 87) (v := ?_) (a' := ?_) #[true, true, true, true, true, true, true, true, true, true, false, false, false, false, false, false, false, false, false, false, false, false, false, false, false, false, false, false, false] rfl rfl (take_ofW HT_.out HW_.out (by kernel_rfl)) (fun _ _ _ h => h) (Or.inl ⟨by rfl, ?_⟩) hHeld ?_ ?_
   rotate_left
   ·rintro w' ⟨s0, s1, s2, s3, s4, s5⟩
    go_simp; with_reducible rfl
   rotate_left
   ·simp only [Act.put, YM, YN, YO, i64_w, i32_w]
    rfl
   refine take_ (i := 10) (N := some 89) (v := ?_) (a' := ?_) #[true, true, true, true, true, true, true, true, true, true, true, false, false, false, false, false, false, false, false, false, false, false, false, false, false, false, false, false, false] rfl rfl (take_ofW HT_.out HW_.out (by kernel_rfl)) (fun _ _ _ h => h) (Or.inl ⟨by rfl, ?_⟩) hHeld ?_ ?_
   rotate_left
   ·rintro w' ⟨s0, s1, s2, s3, s4, s5⟩
    go_simp; with_reducible rfl
   rotate_left
   ·simp only [Act.put, YM, YN, YO, i64_w, i32_w]
    rfl
   refine pure_ (i := 11) (N := some 90) (v := ?_) (a' := ?_) #[true, true, true, true, true, true, true, true, true, true, true, true, false, false, false, false, false, false, false, false, false, false, false, false, false, false, false, false, false] rfl rfl (any_of HT_.out (by kernel_rfl)) (fun _ _ _ h => h) (Or.inl ⟨by rfl, ?_⟩) ?_ ?_
   rotate_left
   ·intro w'
    go_simp; with_reducible rfl
   rotate_left
   ·simp only [Act.put, YM, YN, YO, i64_w, i32_w]
    rfl
   refine pure_ (i := 12) (N := some 91) (v := ?_) (a' := ?_) #[true, true, true, true, true, true, true, true, true, true, true, true, true, false, false, false, false, false, false, false, false, false, false, false, false, false, false, false, false] rfl rfl (any_of HT_.out (by kernel_rfl)) (fun _ _ _ h => h) (Or.inl ⟨by rfl, ?_⟩) ?_ ?_
   rotate_left
   ·intro w'
    go_simp; with_reducible rfl
   rotate_left
   ·simp only [Act.put, YM, YN, YO, i64_w, i32_w]
    rfl
   refine pure_ (i := 13) (N := some 92) (v := ?_) (a' := ?_) #[true, true, true, true, true, true, true, true, true, true, true, true, true, true, false, false, false, false, false, false, false, false, false, false, false, false, false, false, false] rfl rfl (any_of HT_.out (by kernel_rfl)) (fun _ _ _ h => h) (Or.inl ⟨by rfl, ?_⟩) ?_ ?_
   rotate_left
   ·intro w'
    go_simp; with_reducible rfl
   rotate_left
   ·simp only [Act.put, YM, YN, YO, i64_w, i32_w]
    rfl
   refine pure_ (i := 14) (N := some 93) (v := undef) (a' := ?_) #[true, true, true, true, true, true, true, true, true, true, true, true, true, true, true, false, false, false, false, false, false, false, false, false, false, false, false, false, false] rfl rfl (any_of HT_.out (by kernel_rfl)) (fun _ _ _ h => h) (Or.inr ⟨by rfl, rfl⟩) ?_ ?_
   rotate_left
   ·simp only [Act.put, YM, YN, YO, i64_w, i32_w]
    rfl
   refine pure_ (i := 15) (N := some 94) (v := undef) (a' := ?_) #[true, true, true, true, true, true, true, true, true, true, true, true, true, true, true, true, false, false, false, false, false, false, false, false, false, false, false, false, false] rfl rfl (any_of HT_.out (by kernel_rfl)) (fun _ _ _ h => h) (Or.inr ⟨by rfl, rfl⟩) ?_ ?_
   rotate_left
   ·simp only [Act.put, YM, YN, YO, i64_w, i32_w]
    rfl
   refine pure_ (i := 16) (N := some 95) (v := undef) (a' := ?_) #[true, true, true, true, true, true, true, true, true, true, true, true, true, true, true, true, true, false, false, false, false, false, false, false, false, false, false, false, false] rfl rfl (any_of HT_.out (by kernel_rfl)) (fun _ _ _ h => h) (Or.inr ⟨by rfl, rfl⟩) ?_ ?_
   rotate_left
   ·simp only [Act.put, YM, YN, YO, i64_w, i32_w]
    rfl
   refine pure_ (i := 17) (N := some 96) (v := ?_) (a' := ?_) #[true, true, true, true, true, true, true, true, true, true, true, true, true, true, true, true, true, true, false, false, false, false, false, false, false, false, false, false, false] rfl rfl (any_of HT_.out (by kernel_rfl)) (fun _ _ _ h => h) (Or.inl ⟨by rfl, ?_⟩) ?_ ?_
   rotate_left
   ·intro w'
    go_simp; with_reducible rfl
   rotate_left
   ·simp only [Act.put, YM, YN, YO, i64_w, i32_w]
    rfl
   refine pure_ (i := 18) (N := some 97) (v := ?_) (a' := ?_) #[true, true, true, true, true, true, true, true, true, true, true, true, true, true, true, true, true, true, true, false, false, false, false, false, false, false, false, false, false] rfl rfl (any_of HT_.out (by kernel_rfl)) (fun _ _ _ h => h) (Or.inl ⟨by rfl, ?_⟩) ?_ ?_
   rotate_left
   ·intro w'
    go_simp; with_reducible rfl
   rotate_left
   ·simp only [Act.put, YM, YN, YO, i64_w, i32_w]
    rfl
   refine pure_ (i := 19) (N := some 98) (v := undef) (a' := ?_) #[true, true, true, true, true, true, true, true, true, true, true, true, true, true, true, true, true, true, true, true, false, false, false, false, false, false, false, false, false] rfl rfl (any_of HT_.out (by kernel_rfl)) (fun _ _ _ h => h) (Or.inr ⟨by rfl, rfl⟩) ?_ ?_
   rotate_left
   ·simp only [Act.put, YM, YN, YO, i64_w, i32_w]
    rfl
   refine pure_ (i := 20) (N := some 99) (v := undef) (a' := ?_) #[true, true, true, true, true, true, true, true, true, true, true, true, true, true, true, true, true, true, true, true, true, false, false, false, false, false, false, false, false] rfl rfl (any_of HT_.out (by kernel_rfl)) (fun _ _ _ h => h) (Or.inr ⟨by rfl, rfl⟩) ?_ ?_
   rotate_left
   ·simp only [Act.put, YM, YN, YO, i64_w, i32_w]
    rfl
   refine pure_ (i := 21) (N := some 100) (v := undef) (a' := ?_) #[true, true, true, true, true, true, true, true, true, true, true, true, true, true, true, true, true, true, true, true, true, true, false, false, false, false, false, false, false] rfl rfl (any_of HT_.out (by kernel_rfl)) (fun _ _ _ h => h) (Or.inr ⟨by rfl, rfl⟩) ?_ ?_
   rotate_left
   ·simp only [Act.put, YM, YN, YO, i64_w, i32_w]
    rfl
   refine pure_ (i := 22) (N := some 101) (v := ?_) (a' := ?_) #[true, true, true, true, true, true, true, true, true, true, true, true, true, true, true, true, true, true, true, true, true, true, true, false, false, false, false, false, false] rfl rfl (any_of HT_.out (by kernel_rfl)) (fun _ _ _ h => h) (Or.inl ⟨by rfl, ?_⟩) ?_ ?_
   rotate_left
   ·intro w'
    go_simp; with_reducible rfl
   rotate_left
   ·simp only [Act.put, YM, YN, YO, i64_w, i32_w]
    rfl
   refine pure_ (i := 23) (N := some 102) (v := ?_) (a' := ?_) #[true, true, true, true, true, true, true, true, true, true, true, true, true, true, true, true, true, true, true, true, true, true, true, true, false, false, false, false, false] rfl rfl (any_of HT_.out (by kernel_rfl)) (fun _ _ _ h => h) (Or.inl ⟨by rfl, ?_⟩) ?_ ?_
   rotate_left
   ·intro w'
    go_simp; with_reducible rfl
   rotate_left
   ·simp only [Act.put, YM, YN, YO, i64_w, i32_w]
    rfl
   refine pure_ (i := 24) (N := some 103) (v := undef) (a' := ?_) #[true, true, true, true, true, true, true, true, true, true, true, true, true, true, true, true, true, true, true, true, true, true, true, true, true, false, false, false, false] rfl rfl (any_of HT_.out (by kernel_rfl)) (fun _ _ _ h => h) (Or.inr ⟨by rfl, rfl⟩) ?_ ?_
   rotate_left
   ·simp only [Act.put, YM, YN, YO, i64_w, i32_w]
    rfl
   refine pure_ (i := 25) (N := some 104) (v := undef) (a' := ?_) #[true, true, true, true, true, true, true, true, true, true, true, true, true, true, true, true, true, true, true, true, true, true, true, true, true, true, false, false, false] rfl rfl (any_of HT_.out (by kernel_rfl)) (fun _ _ _ h => h) (Or.inr ⟨by rfl, rfl⟩) ?_ ?_
   rotate_left
   ·simp only [Act.put, YM, YN, YO, i64_w, i32_w]
    rfl
   refine pure_ (i := 26) (N := some 105) (v := undef) (a' := ?_) #[true, true, true, true, true, true, true, true, true, true, true, true, true, true, true, true, true, true, true, true, true, true, true, true, true, true, true, false, false] rfl rfl (any_of HT_.out (by kernel_rfl)) (fun _ _ _ h => h) (Or.inr ⟨by rfl, rfl⟩) ?_ ?_
   rotate_left
   ·simp only [Act.put, YM, YN, YO, i64_w, i32_w]
    rfl
   refine pure_ (i := 27) (N := some 106) (v := ?_) (a' := ?_) #[true, true, true, true, true, true, true, true, true, true, true, true, true, true, true, true, true, true, true, true, true, true, true, true, true, true, true, true, false] rfl rfl (any_of HT_.out (by kernel_rfl)) (fun _ _ _ h => h) (Or.inl ⟨by rfl, ?_⟩) ?_ ?_
   rotate_left
   ·intro w'
    go_simp; with_reducible rfl
   rotate_left
   ·simp only [Act.put, YM, YN, YO, i64_w, i32_w]
    rfl
   refine pure_ (i := 28) (N := some 24) (v := ?_) (a' := ?_) #[true, true, true, true, true, true, true, true, true, true, true, true, true, true, true, true, true, true, true, true, true, true, true, true, true, true, true, true, true] rfl rfl (any_of HT_.out (by kernel_rfl)) (fun _ _ _ h => h) (Or.inl ⟨by rfl, ?_⟩) ?_ ?_
   rotate_left
   ·intro w'
    go_simp; with_reducible rfl
   rotate_left
   ·simp only [Act.put, YM, YN, YO, i64_w, i32_w]
    rfl
   refine done_ (done_of HT_.out (by kernel_rfl)) ?_
   try go_wp2
   go_meet
   case rel => exact ⟨_, (false), (by first | rfl | (simp; done) | (simp [*]; done)), H', ⟨by first | omega | exact Nat.le_refl _⟩, ⟨by (with_reducible repeat (first | apply YS | apply YT | apply YU)); exact HO338.out⟩, ⟨by (with_reducible repeat (first | apply YS | apply YT | apply YU)); exact HO355.out⟩, ⟨by (with_reducible repeat (first | apply YS | apply YT | apply YU)); exact HO361.out⟩, ⟨by (with_reducible repeat (first | apply YS | apply YT | apply YU)); exact HO367.out⟩, ⟨by (with_reducible repeat (first | apply YS | apply YT | apply YU)); exact HO373.out⟩, ⟨by (with_reducible repeat (first | refine YF ?_ _ | refine YG ?_ | refine YH ?_ _)); exact BK334.out⟩, ⟨by (with_reducible repeat (first | refine YF ?_ _ | refine YG ?_ | refine YH ?_ _)); exact BK339.out⟩, ⟨by (with_reducible repeat (first | refine YF ?_ _ | refine YG ?_ | refine YH ?_ _)); exact BK357.out⟩, ⟨by (with_reducible repeat (first | refine YF ?_ _ | refine YG ?_ | refine YH ?_ _)); exact BK363.out⟩, ⟨by (with_reducible repeat (first | refine YF ?_ _ | refine YG ?_ | refine YH ?_ _)); exact BK369.out⟩, ⟨by (with_reducible repeat (first | refine YF ?_ _ | refine YG ?_ | refine YH ?_ _)); exact BK375.out⟩, ⟨by repeat (first | (with_reducible first | exact HB.out | apply YA | apply YB | apply YC | refine below_set ?_ GE334.out | refine below_set ?_ GE339.out | refine below_set ?_ GE357.out | refine below_set ?_ GE363.out | refine below_set ?_ GE369.out | refine below_set ?_ GE375.out) | exact HB.out)⟩⟩
  rw [if_neg c67] at H
  have c67b0 : ((t376 == 0) == t377) = false := by simpa using c67
  (try (have c67b1 : decide ((t376 == 0) = t377) = false := by simpa using c67))
  (try (have c67b2 : ((t376 == 0) == t377) = false := by simpa using c67))
  (try (have c67b3 : ¬ ((t376 == 0) = t377) := by simpa using c67))
  clear c67
  (first | rw [c67b0] | (simp only [i64_w, i32_w]; rw [c67b0]) | rw [c67b1] | skip)
  have H' := YL H
  clear H
  try go_wp2
  have n0_ : Aside0 (Kd.R k59 59 ((w57.setCell ⟨gb375, 0, none⟩ (.int .i64 t370)).setCell ⟨gb375, 1, none⟩ (.slice Ao64 t371.length co64)) w.heap.size (fun k_ => some k_ ≠ (.slice Ao37 t353.length co37 : Value).ownBlock ∧ some k_ ≠ (.slice Ao45 t359.length co45 : Value).ownBlock ∧ some k_ ≠ (.slice Ao54 t365.length co54 : Value).ownBlock ∧ some k_ ≠ (.slice Ao64 t371.length co64 : Value).ownBlock) (.slice Ao23 t336.length co23) t336) := ⟨by (with_reducible repeat (first | apply YS | apply YT | apply YU)); exact Kd.R_mono (Kd.R_far (p := ⟨gb375, 1, none⟩) (Kd.R_far (p := ⟨gb375, 0, none⟩) (Kd.R_types HO338.out BK375.out (by decide)) (fun _ hk => hk.2) (.int .i64 t370)) (fun _ hk => hk.2) (.slice Ao64 t371.length co64)) (fun _ hk => ⟨hk.1.1.1.1.2, ⟨hk.1.1.1.2, ⟨hk.1.1.2, hk.1.2⟩⟩⟩)⟩
  have n1_ : Aside0 (Kd.R (Kd.int .u8) 5 ((w57.setCell ⟨gb375, 0, none⟩ (.int .i64 t370)).setCell ⟨gb375, 1, none⟩ (.slice Ao64 t371.length co64)) w.heap.size (fun k_ => some k_ ≠ (v345 : Value).ownBlock) v341 t340) := ⟨by (with_reducible repeat (first | apply YS | apply YT | apply YU)); exact Kd.R_mono (Kd.R_far (p := ⟨gb375, 1, none⟩) (Kd.R_far (p := ⟨gb375, 0, none⟩) (Kd.R_types HO342.out BK375.out (by decide)) (fun _ hk => hk.2) (.int .i64 t370)) (fun _ hk => hk.2) (.slice Ao64 t371.length co64)) (fun _ hk => hk.1.2)⟩
  have n2_ : Aside0 (Kd.R (Kd.int .u8) 5 ((w57.setCell ⟨gb375, 0, none⟩ (.int .i64 t370)).setCell ⟨gb375, 1, none⟩ (.slice Ao64 t371.length co64)) w.heap.size (fun k_ => some k_ ≠ (v341 : Value).ownBlock) v345 t344) := ⟨by (with_reducible repeat (first | apply YS | apply YT | apply YU)); exact Kd.R_mono (Kd.R_far (p := ⟨gb375, 1, none⟩) (Kd.R_far (p := ⟨gb375, 0, none⟩) (Kd.R_types HO346.out BK375.out (by decide)) (fun _ hk => hk.2) (.int .i64 t370)) (fun _ hk => hk.2) (.slice Ao64 t371.length co64)) (fun _ hk => hk.1.2)⟩
  have n3_ : Aside0 (Kd.R k59 59 ((w57.setCell ⟨gb375, 0, none⟩ (.int .i64 t370)).setCell ⟨gb375, 1, none⟩ (.slice Ao64 t371.length co64)) w.heap.size (fun k_ => some k_ ≠ (.slice Ao23 t336.length co23 : Value).ownBlock ∧ some k_ ≠ (.slice Ao45 t359.length co45 : Value).ownBlock ∧ some k_ ≠ (.slice Ao54 t365.length co54 : Value).ownBlock ∧ some k_ ≠ (.slice Ao64 t371.length co64 : Value).ownBlock) (.slice Ao37 t353.length co37) t353) := ⟨by (with_reducible repeat (first | apply YS | apply YT | apply YU)); exact Kd.R_mono (Kd.R_far (p := ⟨gb375, 1, none⟩) (Kd.R_far (p := ⟨gb375, 0, none⟩) (Kd.R_types HO355.out BK375.out (by decide)) (fun _ hk => hk.2) (.int .i64 t370)) (fun _ hk => hk.2) (.slice Ao64 t371.length co64)) (fun _ hk => ⟨hk.1.1.1.1.2, ⟨hk.1.1.1.2, ⟨hk.1.1.2, hk.1.2⟩⟩⟩)⟩
  have n4_ : Aside0 (Kd.R k59 59 ((w57.setCell ⟨gb375, 0, none⟩ (.int .i64 t370)).setCell ⟨gb375, 1, none⟩ (.slice Ao64 t371.length co64)) w.heap.size (fun k_ => some k_ ≠ (.slice Ao23 t336.length co23 : Value).ownBlock ∧ some k_ ≠ (.slice Ao37 t353.length co37 : Value).ownBlock ∧ some k_ ≠ (.slice Ao54 t365.length co54 : Value).ownBlock ∧ some k_ ≠ (.slice Ao64 t371.length co64 : Value).ownBlock) (.slice Ao45 t359.length co45) t359) := ⟨by (with_reducible repeat (first | apply YS | apply YT | apply YU)); exact Kd.R_mono (Kd.R_far (p := ⟨gb375, 1, none⟩) (Kd.R_far (p := ⟨gb375, 0, none⟩) (Kd.R_types HO361.out BK375.out (by decide)) (fun _ hk => hk.2) (.int .i64 t370)) (fun _ hk => hk.2) (.slice Ao64 t371.length co64)) (fun _ hk => ⟨hk.1.1.1.1.2, ⟨hk.1.1.1.2, ⟨hk.1.1.2, hk.1.2⟩⟩⟩)⟩
  have n5_ : Aside0 (Kd.R k59 59 ((w57.setCell ⟨gb375, 0, none⟩ (.int .i64 t370)).setCell ⟨gb375, 1, none⟩ (.slice Ao64 t371.length co64)) w.heap.size (fun k_ => some k_ ≠ (.slice Ao23 t336.length co23 : Value).ownBlock ∧ some k_ ≠ (.slice Ao37 t353.length co37 : Value).ownBlock ∧ some k_ ≠ (.slice Ao45 t359.length co45 : Value).ownBlock ∧ some k_ ≠ (.slice Ao64 t371.length co64 : Value).ownBlock) (.slice Ao54 t365.length co54) t365) := ⟨by (with_reducible repeat (first | apply YS | apply YT | apply YU)); exact Kd.R_mono (Kd.R_far (p := ⟨gb375, 1, none⟩) (Kd.R_far (p := ⟨gb375, 0, none⟩) (Kd.R_types HO367.out BK375.out (by decide)) (fun _ hk => hk.2) (.int .i64 t370)) (fun _ hk => hk.2) (.slice Ao64 t371.length co64)) (fun _ hk => ⟨hk.1.1.1.1.2, ⟨hk.1.1.1.2, ⟨hk.1.1.2, hk.1.2⟩⟩⟩)⟩
  have n6_ : Aside0 (Kd.R k59 59 ((w57.setCell ⟨gb375, 0, none⟩ (.int .i64 t370)).setCell ⟨gb375, 1, none⟩ (.slice Ao64 t371.length co64)) w.heap.size (fun k_ => some k_ ≠ (.slice Ao23 t336.length co23 : Value).ownBlock ∧ some k_ ≠ (.slice Ao37 t353.length co37 : Value).ownBlock ∧ some k_ ≠ (.slice Ao45 t359.length co45 : Value).ownBlock ∧ some k_ ≠ (.slice Ao54 t365.length co54 : Value).ownBlock) (.slice Ao64 t371.length co64) t371) := ⟨by (with_reducible repeat (first | apply YS | apply YT | apply YU)); exact Kd.R_mono (Kd.R_far (p := ⟨gb375, 1, none⟩) (Kd.R_far (p := ⟨gb375, 0, none⟩) (Kd.R_types HO373.out BK375.out (by decide)) (fun _ hk => hk.2) (.int .i64 t370)) (fun _ hk => hk.2) (.slice Ao64 t371.length co64)) (fun _ hk => ⟨hk.1.1.1.1.2, ⟨hk.1.1.1.2, ⟨hk.1.1.2, hk.1.2⟩⟩⟩)⟩
  have n7_ : Aside0 (((w57.setCell ⟨gb375, 0, none⟩ (.int .i64 t370)).setCell ⟨gb375, 1, none⟩ (.slice Ao64 t371.length co64)).heap[gb334]? = some (.cells #[.int .i64 a0_0, .slice A0_1 l0_1.length c0_1] 25 (0, 0))) := ⟨by (with_reducible repeat (first | refine YF ?_ _ | refine YG ?_ | refine YH ?_ _)); refine blk_far ?_ NB334_375.out _; (with_reducible repeat (first | refine YF ?_ _ | refine YG ?_ | refine YH ?_ _)); refine blk_far ?_ NB334_375.out _; (with_reducible repeat (first | refine YF ?_ _ | refine YG ?_ | refine YH ?_ _)); exact BK334.out⟩
  have n8_ : Aside0 (((w57.setCell ⟨gb375, 0, none⟩ (.int .i64 t370)).setCell ⟨gb375, 1, none⟩ (.slice Ao64 t371.length co64)).heap[gb339]? = some (.cells #[.int .i64 t335, .slice Ao23 t336.length co23] 25 (0, 0))) := ⟨by (with_reducible repeat (first | refine YF ?_ _ | refine YG ?_ | refine YH ?_ _)); refine blk_far ?_ NB339_375.out _; (with_reducible repeat (first | refine YF ?_ _ | refine YG ?_ | refine YH ?_ _)); refine blk_far ?_ NB339_375.out _; (with_reducible repeat (first | refine YF ?_ _ | refine YG ?_ | refine YH ?_ _)); exact BK339.out⟩
  have n9_ : Aside0 (((w57.setCell ⟨gb375, 0, none⟩ (.int .i64 t370)).setCell ⟨gb375, 1, none⟩ (.slice Ao64 t371.length co64)).heap[gb357]? = some (.cells #[.int .i64 t352, .slice Ao37 t353.length co37] 25 (0, 0))) := ⟨by (with_reducible repeat (first | refine YF ?_ _ | refine YG ?_ | refine YH ?_ _)); refine blk_far ?_ NB357_375.out _; (with_reducible repeat (first | refine YF ?_ _ | refine YG ?_ | refine YH ?_ _)); refine blk_far ?_ NB357_375.out _; (with_reducible repeat (first | refine YF ?_ _ | refine YG ?_ | refine YH ?_ _)); exact BK357.out⟩
  have n10_ : Aside0 (((w57.setCell ⟨gb375, 0, none⟩ (.int .i64 t370)).setCell ⟨gb375, 1, none⟩ (.slice Ao64 t371.length co64)).heap[gb363]? = some (.cells #[.int .i64 t358, .slice Ao45 t359.length co45] 25 (0, 0))) := ⟨by (with_reducible repeat (first | refine YF ?_ _ | refine YG ?_ | refine YH ?_ _)); refine blk_far ?_ NB363_375.out _; (with_reducible repeat (first | refine YF ?_ _ | refine YG ?_ | refine YH ?_ _)); refine blk_far ?_ NB363_375.out _; (with_reducible repeat (first | refine YF ?_ _ | refine YG ?_ | refine YH ?_ _)); exact BK363.out⟩
  have n11_ : Aside0 (((w57.setCell ⟨gb375, 0, none⟩ (.int .i64 t370)).setCell ⟨gb375, 1, none⟩ (.slice Ao64 t371.length co64)).heap[gb369]? = some (.cells #[.int .i64 t364, .slice Ao54 t365.length co54] 25 (0, 0))) := ⟨by (with_reducible repeat (first | refine YF ?_ _ | refine YG ?_ | refine YH ?_ _)); refine blk_far ?_ NB369_375.out _; (with_reducible repeat (first | refine YF ?_ _ | refine YG ?_ | refine YH ?_ _)); refine blk_far ?_ NB369_375.out _; (with_reducible repeat (first | refine YF ?_ _ | refine YG ?_ | refine YH ?_ _)); exact BK369.out⟩
  have n12_ : Aside0 (((w57.setCell ⟨gb375, 0, none⟩ (.int .i64 t370)).setCell ⟨gb375, 1, none⟩ (.slice Ao64 t371.length co64)).heap[gb375]? = some (.cells #[.int .i64 t370, .slice Ao64 t371.length co64] 25 (0, 0))) := ⟨by (with_reducible repeat (first | refine YF ?_ _ | refine YG ?_ | refine YH ?_ _)); refine blk_put (cs := #[.int .i64 t370, .slice none 0 0]) ?_ 1 _ rfl; (with_reducible repeat (first | refine YF ?_ _ | refine YG ?_ | refine YH ?_ _)); refine blk_put (cs := #[.int .i64 0, .slice none 0 0]) ?_ 0 _ rfl; (with_reducible repeat (first | refine YF ?_ _ | refine YG ?_ | refine YH ?_ _)); exact BK375.out⟩
  have n13_ : Aside0 (Below w.heap.size w ((w57.setCell ⟨gb375, 0, none⟩ (.int .i64 t370)).setCell ⟨gb375, 1, none⟩ (.slice Ao64 t371.length co64))) := ⟨by repeat (first | (with_reducible first | exact HB.out | apply YA | apply YB | apply YC | refine below_set ?_ GE334.out | refine below_set ?_ GE339.out | refine below_set ?_ GE357.out | refine below_set ?_ GE363.out | refine below_set ?_ GE369.out | refine below_set ?_ GE375.out) | exact HB.out)⟩
  (try clear HO338); (try clear HO342); (try clear HO346); (try clear HO355); (try clear HO361); (try clear HO367); (try clear HO373); (try clear BK334); (try clear BK339); (try clear BK357); (try clear BK363); (try clear BK369); (try clear BK375); (try clear HB)
  generalize ((w57.setCell ⟨gb375, 0, none⟩ (.int .i64 t370)).setCell ⟨gb375, 1, none⟩ (.slice Ao64 t371.length co64)) = w95 at n0_ n1_ n2_ n3_ n4_ n5_ n6_ n7_ n8_ n9_ n10_ n11_ n12_ n13_ ⊢
  have HO338 := n0_; have HO342 := n1_; have HO346 := n2_; have HO355 := n3_; have HO361 := n4_; have HO367 := n5_; have HO373 := n6_; have BK334 := n7_; have BK339 := n8_; have BK357 := n9_; have BK363 := n10_; have BK369 := n11_; have BK375 := n12_; have HB := n13_; clear n0_ n1_ n2_ n3_ n4_ n5_ n6_ n7_ n8_ n9_ n10_ n11_ n12_ n13_
  have n0_ := YL (YU HO338.out)
  have n1_ := YL (YU HO342.out)
  have n2_ := YL (YU HO346.out)
  have n3_ := YL (YU HO355.out)
  have n4_ := YL (YU HO361.out)
  have n5_ := YL (YU HO367.out)
  have n6_ := YL (YU HO373.out)
  have n7_ := YL (YG BK334.out)
  have n8_ := YL (YG BK339.out)
  have n9_ := YL (YG BK357.out)
  have n10_ := YL (YG BK363.out)
  have n11_ := YL (YG BK369.out)
  have n12_ := YL (YG BK375.out)
  have n13_ := YL (YC HB.out)
  clear HO338; clear HO342; clear HO346; clear HO355; clear HO361; clear HO367; clear HO373; clear BK334; clear BK339; clear BK357; clear BK363; clear BK369; clear BK375; clear HB; have HO338 := n0_; have HO342 := n1_; have HO346 := n2_; have HO355 := n3_; have HO361 := n4_; have HO367 := n5_; have HO373 := n6_; have BK334 := n7_; have BK339 := n8_; have BK357 := n9_; have BK363 := n10_; have BK369 := n11_; have BK375 := n12_; have HB := n13_; clear n0_ n1_ n2_ n3_ n4_ n5_ n6_ n7_ n8_ n9_ n10_ n11_ n12_ n13_
  refine start_ (n := 29) (S := fun w' => w'.cell? ⟨gb339, 0, none⟩ = some (.int .i64 t335) ∧ w'.cell? ⟨gb339, 1, none⟩ = some (.slice Ao23 t336.length co23) ∧ w'.cell? ⟨gb334, 0, none⟩ = some (.int .i64 a0_0) ∧ w'.cell? ⟨gb334, 1, none⟩ = some (.slice A0_1 l0_1.length c0_1)) (ds := []) #[false, false, false, false, false, false, false, false, false, false, false, false, false, false, false, false, false, false, false, false, false, false, false, false, false, false, false, false, false] (by kernel_rfl) rfl rfl ⟨(YI BK339.out 0).trans rfl, (YI BK339.out 1).trans rfl, (YI BK334.out 0).trans rfl, (YI BK334.out 1).trans rfl⟩ (fun hHeld => ?_); refine with_tabW thalweglaw06_BeaconDoes.tab12 thalweglaw06_BeaconDoes.bits12 (fun HT_ HW_ => ?_)
  generalize w95.drew = w96 at HO338 HO342 HO346 HO355 HO361 HO367 HO373 BK334 BK339 BK357 BK363 BK369 BK375 HB hHeld ⊢
  refine take_ (i := 0) (N := some 79) (v := ?_) (a' := ?_) #[true, false, false, false, false, false, false, false, false, false, false, false, false, false, false, false, false, false, false, false, false, false, false, false, false, false, false, false, false] rfl rfl (take_ofW HT_.out HW_.out (by kernel_rfl)) (fun _ _ _ h => h) (Or.inl ⟨by rfl, ?_⟩) hHeld ?_ ?_
  rotate_left
  ·rintro w' ⟨s0, s1, s2, s3⟩
   go_simp; with_reducible rfl
  rotate_left
  ·simp only [Act.put, YM, YN, YO, i64_w, i32_w]
   rfl
  refine take_ (i := 3) (N := some 82) (v := ?_) (a' := ?_) #[true, false, false, true, false, false, false, false, false, false, false, false, false, false, false, false, false, false, false, false, false, false, false, false, false, false, false, false, false] rfl rfl (take_ofW HT_.out HW_.out (by kernel_rfl)) (fun _ _ _ h => h) (Or.inl ⟨by rfl, ?_⟩) hHeld ?_ ?_
  rotate_left
  ·rintro w' ⟨s0, s1, s2, s3⟩
   go_simp; with_reducible rfl
  rotate_left
  ·simp only [Act.put, YM, YN, YO, i64_w, i32_w]
   rfl
  refine one_ (i := 1) (N := some 80) #[true, true, false, true, false, false, false, false, false, false, false, false, false, false, false, false, false, false, false, false, false, false, false, false, false, false, false, false, false] rfl rfl (one_of HT_.out (by kernel_rfl)) (by decide) (fun K hK => ?_)
  refine goes_ Try.func22 (by kernel_rfl) rfl #[.agg #[.int .i64 t335, .slice Ao23 t336.length co23]] (by rfl) rfl rfl (by (try simp only [YP, List.map_cons, List.map_nil]); first | done | rfl | (simp only [YR, YQ]; rfl)) ?_
  with_reducible refine (beacon_Check.calls k t335 _ _ t336 t376 _ ?side1 ?side2 A65.out).mono ?_
  (case side1 => repeat (first | exact (Kd.R_reads' HO338.out).2.2 | (with_reducible refine Kd.C_alloc ?_ _) | (with_reducible refine Kd.C_drewN ?_ _) | (with_reducible refine Kd.C_drew ?_)))
  (case side2 => exact (Kd.R_reads' HO338.out).2.1)
  rintro e w97 ⟨rfl, hb⟩
  refine ⟨_, rfl, ?_⟩
  have n0_ := YL (YV (by (with_reducible repeat (first | apply YS | apply YT | apply YU)); exact HO338.out) hb)
  have n1_ := YL (YV (by (with_reducible repeat (first | apply YS | apply YT | apply YU)); exact HO342.out) hb)
  have n2_ := YL (YV (by (with_reducible repeat (first | apply YS | apply YT | apply YU)); exact HO346.out) hb)
  have n3_ := YL (YV (by (with_reducible repeat (first | apply YS | apply YT | apply YU)); exact HO355.out) hb)
  have n4_ := YL (YV (by (with_reducible repeat (first | apply YS | apply YT | apply YU)); exact HO361.out) hb)
  have n5_ := YL (YV (by (with_reducible repeat (first | apply YS | apply YT | apply YU)); exact HO367.out) hb)
  have n6_ := YL (YV (by (with_reducible repeat (first | apply YS | apply YT | apply YU)); exact HO373.out) hb)
  have n7_ := YL (YK (g := gb334) (o := .cells #[.int .i64 a0_0, .slice A0_1 l0_1.length c0_1] 25 (0, 0)) (by (with_reducible repeat (first | refine YF ?_ _ | refine YG ?_ | refine YH ?_ _)); exact BK334.out) hb)
  have n8_ := YL (YK (g := gb339) (o := .cells #[.int .i64 t335, .slice Ao23 t336.length co23] 25 (0, 0)) (by (with_reducible repeat (first | refine YF ?_ _ | refine YG ?_ | refine YH ?_ _)); exact BK339.out) hb)
  have n9_ := YL (YK (g := gb357) (o := .cells #[.int .i64 t352, .slice Ao37 t353.length co37] 25 (0, 0)) (by (with_reducible repeat (first | refine YF ?_ _ | refine YG ?_ | refine YH ?_ _)); exact BK357.out) hb)
  have n10_ := YL (YK (g := gb363) (o := .cells #[.int .i64 t358, .slice Ao45 t359.length co45] 25 (0, 0)) (by (with_reducible repeat (first | refine YF ?_ _ | refine YG ?_ | refine YH ?_ _)); exact BK363.out) hb)
  have n11_ := YL (YK (g := gb369) (o := .cells #[.int .i64 t364, .slice Ao54 t365.length co54] 25 (0, 0)) (by (with_reducible repeat (first | refine YF ?_ _ | refine YG ?_ | refine YH ?_ _)); exact BK369.out) hb)
  have n12_ := YL (YK (g := gb375) (o := .cells #[.int .i64 t370, .slice Ao64 t371.length co64] 25 (0, 0)) (by (with_reducible repeat (first | refine YF ?_ _ | refine YG ?_ | refine YH ?_ _)); exact BK375.out) hb)
  have n13_ := YL (YD (by repeat (first | (with_reducible first | exact HB.out | apply YA | apply YB | apply YC | refine below_set ?_ GE334.out | refine below_set ?_ GE339.out | refine below_set ?_ GE357.out | refine below_set ?_ GE363.out | refine below_set ?_ GE369.out | refine below_set ?_ GE375.out) | exact HB.out)) hb)
  clear HO338; clear HO342; clear HO346; clear HO355; clear HO361; clear HO367; clear HO373; clear BK334; clear BK339; clear BK357; clear BK363; clear BK369; clear BK375; clear HB; have HO338 := n0_; have HO342 := n1_; have HO346 := n2_; have HO355 := n3_; have HO361 := n4_; have HO367 := n5_; have HO373 := n6_; have BK334 := n7_; have BK339 := n8_; have BK357 := n9_; have BK363 := n10_; have BK369 := n11_; have BK375 := n12_; have HB := n13_; clear n0_ n1_ n2_ n3_ n4_ n5_ n6_ n7_ n8_ n9_ n10_ n11_ n12_ n13_; (try clear hb); (try clear hb2); (try clear hk); (try clear hi)
  refine hK.out _ _ ⟨(YI BK339.out 0).trans rfl, (YI BK339.out 1).trans rfl, (YI BK334.out 0).trans rfl, (YI BK334.out 1).trans rfl⟩ (fun hHeld => ?_)
  clear hK K
  refine norm_ (a' := ?_) ?_ ?_
  rotate_left
  ·show Act.put _ (some 80) _ = _
   simp only [Act.put, YM, YN, YO, i64_w, i32_w]
   rfl
  refine pure_ (i := 2) (N := some 81) (v := ?_) (a' := ?_) #[true, true, true, true, false, false, false, false, false, false, false, false, false, false, false, false, false, false, false, false, false, false, false, false, false, false, false, false, false] rfl rfl (any_of HT_.out (by kernel_rfl)) (fun _ _ _ h => h) (Or.inl ⟨by rfl, ?_⟩) ?_ ?_
  rotate_left
  ·intro w'
   go_simp; with_reducible rfl
  rotate_left
  ·simp only [Act.put, YM, YN, YO, i64_w, i32_w]
   rfl
  refine one_ (i := 4) (N := some 83) #[true, true, true, true, true, false, false, false, false, false, false, false, false, false, false, false, false, false, false, false, false, false, false, false, false, false, false, false, false] rfl rfl (one_of HT_.out (by kernel_rfl)) (by decide) (fun K hK => ?_)
  refine goes_ Try.func23 (by kernel_rfl) rfl #[.agg #[.int .i64 a0_0, .slice A0_1 l0_1.length c0_1]] (by rfl) rfl rfl (by (try simp only [YP, List.map_cons, List.map_nil]); first | done | rfl | (simp only [YR, YQ]; rfl)) ?_
  with_reducible refine (thalwegref06_Right.calls k a0_0 _ _ l0_1 t377 _ ?side1 ?side2 A66.out).mono ?_
  (case side1 => repeat (first | exact (Kd.C_below HR0_1.out HB.out) | (with_reducible refine Kd.C_alloc ?_ _) | (with_reducible refine Kd.C_drewN ?_ _) | (with_reducible refine Kd.C_drew ?_)))
  (case side2 => exact HC0_1.out)
  rintro e w98 ⟨rfl, hb⟩
  refine ⟨_, rfl, ?_⟩
  have n0_ := YL (YV (by (with_reducible repeat (first | apply YS | apply YT | apply YU)); exact HO338.out) hb)
  have n1_ := YL (YV (by (with_reducible repeat (first | apply YS | apply YT | apply YU)); exact HO342.out) hb)
  have n2_ := YL (YV (by (with_reducible repeat (first | apply YS | apply YT | apply YU)); exact HO346.out) hb)
  have n3_ := YL (YV (by (with_reducible repeat (first | apply YS | apply YT | apply YU)); exact HO355.out) hb)
  have n4_ := YL (YV (by (with_reducible repeat (first | apply YS | apply YT | apply YU)); exact HO361.out) hb)
  have n5_ := YL (YV (by (with_reducible repeat (first | apply YS | apply YT | apply YU)); exact HO367.out) hb)
  have n6_ := YL (YV (by (with_reducible repeat (first | apply YS | apply YT | apply YU)); exact HO373.out) hb)
  have n7_ := YL (YK (g := gb334) (o := .cells #[.int .i64 a0_0, .slice A0_1 l0_1.length c0_1] 25 (0, 0)) (by (with_reducible repeat (first | refine YF ?_ _ | refine YG ?_ | refine YH ?_ _)); exact BK334.out) hb)
  have n8_ := YL (YK (g := gb339) (o := .cells #[.int .i64 t335, .slice Ao23 t336.length co23] 25 (0, 0)) (by (with_reducible repeat (first | refine YF ?_ _ | refine YG ?_ | refine YH ?_ _)); exact BK339.out) hb)
  have n9_ := YL (YK (g := gb357) (o := .cells #[.int .i64 t352, .slice Ao37 t353.length co37] 25 (0, 0)) (by (with_reducible repeat (first | refine YF ?_ _ | refine YG ?_ | refine YH ?_ _)); exact BK357.out) hb)
  have n10_ := YL (YK (g := gb363) (o := .cells #[.int .i64 t358, .slice Ao45 t359.length co45] 25 (0, 0)) (by (with_reducible repeat (first | refine YF ?_ _ | refine YG ?_ | refine YH ?_ _)); exact BK363.out) hb)
  have n11_ := YL (YK (g := gb369) (o := .cells #[.int .i64 t364, .slice Ao54 t365.length co54] 25 (0, 0)) (by (with_reducible repeat (first | refine YF ?_ _ | refine YG ?_ | refine YH ?_ _)); exact BK369.out) hb)
  have n12_ := YL (YK (g := gb375) (o := .cells #[.int .i64 t370, .slice Ao64 t371.length co64] 25 (0, 0)) (by (with_reducible repeat (first | refine YF ?_ _ | refine YG ?_ | refine YH ?_ _)); exact BK375.out) hb)
  have n13_ := YL (YD (by repeat (first | (with_reducible first | exact HB.out | apply YA | apply YB | apply YC | refine below_set ?_ GE334.out | refine below_set ?_ GE339.out | refine below_set ?_ GE357.out | refine below_set ?_ GE363.out | refine below_set ?_ GE369.out | refine below_set ?_ GE375.out) | exact HB.out)) hb)
  clear HO338; clear HO342; clear HO346; clear HO355; clear HO361; clear HO367; clear HO373; clear BK334; clear BK339; clear BK357; clear BK363; clear BK369; clear BK375; clear HB; have HO338 := n0_; have HO342 := n1_; have HO346 := n2_; have HO355 := n3_; have HO361 := n4_; have HO367 := n5_; have HO373 := n6_; have BK334 := n7_; have BK339 := n8_; have BK357 := n9_; have BK363 := n10_; have BK369 := n11_; have BK375 := n12_; have HB := n13_; clear n0_ n1_ n2_ n3_ n4_ n5_ n6_ n7_ n8_ n9_ n10_ n11_ n12_ n13_; (try clear hb); (try clear hb2); (try clear hk); (try clear hi)
  refine hK.out _ _ ⟨(YI BK339.out 0).trans rfl, (YI BK339.out 1).trans rfl, (YI BK334.out 0).trans rfl, (YI BK334.out 1).trans rfl⟩ (fun hHeld => ?_)
  clear hK K
  refine norm_ (a' := ?_) ?_ ?_
  rotate_left
  ·show Act.put _ (some 83) _ = _
   simp only [Act.put, YM, YN, YO, i64_w, i32_w]
   rfl
  refine pure_ (i := 5) (N := some 84) (v := ?_) (a' := ?_) #[true, true, true, true, true, true, false, false, false, false, false, false, false, false, false, false, false, false, false, false, false, false, false, false, false, false, false, false, false] rfl rfl (any_of HT_.out (by kernel_rfl)) (fun _ _ _ h => h) (Or.inl ⟨by rfl, ?_⟩) ?_ ?_
  rotate_left
  ·intro w'
   go_simp; with_reducible rfl
  rotate_left
  ·simp only [Act.put, YM, YN, YO, i64_w, i32_w]
   rfl
  refine pure_ (i := 6) (N := some 85) (v := ?_) (a' := ?_) #[true, true, true, true, true, true, true, false, false, false, false, false, false, false, false, false, false, false, false, false, false, false, false, false, false, false, false, false, false] rfl rfl (any_of HT_.out (by kernel_rfl)) (fun _ _ _ h => h) (Or.inl ⟨by rfl, ?_⟩) ?_ ?_
  rotate_left
  ·intro w'
   go_simp; with_reducible rfl
  rotate_left
  ·simp only [Act.put, YM, YN, YO, i64_w, i32_w]
   rfl
  refine pure_ (i := 7) (N := some 86) (v := undef) (a' := ?_) #[true, true, true, true, true, true, true, true, false, false, false, false, false, false, false, false, false, false, false, false, false, false, false, false, false, false, false, false, false] rfl rfl (any_of HT_.out (by kernel_rfl)) (fun _ _ _ h => h) (Or.inr ⟨by rfl, rfl⟩) ?_ ?_
  rotate_left
  ·simp only [Act.put, YM, YN, YO, i64_w, i32_w]
   rfl
  refine pure_ (i := 8) (N := some 87) (v := undef) (a' := ?_) #[true, true, true, true, true, true, true, true, true, false, false, false, false, false, false, false, false, false, false, false, false, false, false, false, false, false, false, false, false] rfl rfl (any_of HT_.out (by kernel_rfl)) (fun _ _ _ h => h) (Or.inr ⟨by rfl, rfl⟩) ?_ ?_
  rotate_left
  ·simp only [Act.put, YM, YN, YO, i64_w, i32_w]
   rfl
  refine pure_ (i := 9) (N := some 88) (v := undef) (a' := ?_) #[true, true, true, true, true, true, true, true, true, true, false, false, false, false, false, false, false, false, false, false, false, false, false, false, false, false, false, false, false] rfl rfl (any_of HT_.out (by kernel_rfl)) (fun _ _ _ h => h) (Or.inr ⟨by rfl, rfl⟩) ?_ ?_
  rotate_left
  ·simp only [Act.put, YM, YN, YO, i64_w, i32_w]
   rfl
  refine pure_ (i := 10) (N := some 89) (v := undef) (a' := ?_) #[true, true, true, true, true, true, true, true, true, true, true, false, false, false, false, false, false, false, false, false, false, false, false, false, false, false, false, false, false] rfl rfl (any_of HT_.out (by kernel_rfl)) (fun _ _ _ h => h) (Or.inr ⟨by rfl, rfl⟩) ?_ ?_
  rotate_left
  ·simp only [Act.put, YM, YN, YO, i64_w, i32_w]
   rfl
  refine pure_ (i := 11) (N := some 90) (v := undef) (a' := ?_) #[true, true, true, true, true, true, true, true, true, true, true, true, false, false, false, false, false, false, false, false, false, false, false, false, false, false, false, false, false] rfl rfl (any_of HT_.out (by kernel_rfl)) (fun _ _ _ h => h) (Or.inr ⟨by rfl, rfl⟩) ?_ ?_
  rotate_left
  ·simp only [Act.put, YM, YN, YO, i64_w, i32_w]
   rfl
  refine pure_ (i := 12) (N := some 91) (v := ?_) (a' := ?_) #[true, true, true, true, true, true, true, true, true, true, true, true, true, false, false, false, false, false, false, false, false, false, false, false, false, false, false, false, false] rfl rfl (any_of HT_.out (by kernel_rfl)) (fun _ _ _ h => h) (Or.inl ⟨by rfl, ?_⟩) ?_ ?_
  rotate_left
  ·intro w'
   go_simp; with_reducible rfl
  rotate_left
  ·simp only [Act.put, YM, YN, YO, i64_w, i32_w]
   rfl
  refine pure_ (i := 13) (N := some 92) (v := ?_) (a' := ?_) #[true, true, true, true, true, true, true, true, true, true, true, true, true, true, false, false, false, false, false, false, false, false, false, false, false, false, false, false, false] rfl rfl (any_of HT_.out (by kernel_rfl)) (fun _ _ _ h => h) (Or.inl ⟨by rfl, ?_⟩) ?_ ?_
  rotate_left
  ·intro w'
   go_simp; with_reducible rfl
  rotate_left
  ·simp only [Act.put, YM, YN, YO, i64_w, i32_w]
   rfl
  refine pure_ (i := 14) (N := some 93) (v := undef) (a' := ?_) #[true, true, true, true, true, true, true, true, true, true, true, true, true, true, true, false, false, false, false, false, false, false, false, false, false, false, false, false, false] rfl rfl (any_of HT_.out (by kernel_rfl)) (fun _ _ _ h => h) (Or.inr ⟨by rfl, rfl⟩) ?_ ?_
  rotate_left
  ·simp only [Act.put, YM, YN, YO, i64_w, i32_w]
   rfl
  refine pure_ (i := 15) (N := some 94) (v := undef) (a' := ?_) #[true, true, true, true, true, true, true, true, true, true, true, true, true, true, true, true, false, false, false, false, false, false, false, false, false, false, false, false, false] rfl rfl (any_of HT_.out (by kernel_rfl)) (fun _ _ _ h => h) (Or.inr ⟨by rfl, rfl⟩) ?_ ?_
  rotate_left
  ·simp only [Act.put, YM, YN, YO, i64_w, i32_w]
   rfl
  refine pure_ (i := 16) (N := some 95) (v := undef) (a' := ?_) #[true, true, true, true, true, true, true, true, true, true, true, true, true, true, true, true, true, false, false, false, false, false, false, false, false, false, false, false, false] rfl rfl (any_of HT_.out (by kernel_rfl)) (fun _ _ _ h => h) (Or.inr ⟨by rfl, rfl⟩) ?_ ?_
  rotate_left
  ·simp only [Act.put, YM, YN, YO, i64_w, i32_w]
   rfl
  refine pure_ (i := 17) (N := some 96) (v := ?_) (a' := ?_) #[true, true, true, true, true, true, true, true, true, true, true, true, true, true, true, true, true, true, false, false, false, false, false, false, false, false, false, false, false] rfl rfl (any_of HT_.out (by kernel_rfl)) (fun _ _ _ h => h) (Or.inl ⟨by rfl, ?_⟩) ?_ ?_
  rotate_left
  ·intro w'
   go_simp; with_reducible rfl
  rotate_left
  ·simp only [Act.put, YM, YN, YO, i64_w, i32_w]
   rfl
  refine pure_ (i := 18) (N := some 97) (v := ?_) (a' := ?_) #[true, true, true, true, true, true, true, true, true, true, true, true, true, true, true, true, true, true, true, false, false, false, false, false, false, false, false, false, false] rfl rfl (any_of HT_.out (by kernel_rfl)) (fun _ _ _ h => h) (Or.inl ⟨by rfl, ?_⟩) ?_ ?_
  rotate_left
  ·intro w'
   go_simp; with_reducible rfl
  rotate_left
  ·simp only [Act.put, YM, YN, YO, i64_w, i32_w]
   rfl
  refine pure_ (i := 19) (N := some 98) (v := undef) (a' := ?_) #[true, true, true, true, true, true, true, true, true, true, true, true, true, true, true, true, true, true, true, true, false, false, false, false, false, false, false, false, false] rfl rfl (any_of HT_.out (by kernel_rfl)) (fun _ _ _ h => h) (Or.inr ⟨by rfl, rfl⟩) ?_ ?_
  rotate_left
  ·simp only [Act.put, YM, YN, YO, i64_w, i32_w]
   rfl
  refine pure_ (i := 20) (N := some 99) (v := undef) (a' := ?_) #[true, true, true, true, true, true, true, true, true, true, true, true, true, true, true, true, true, true, true, true, true, false, false, false, false, false, false, false, false] rfl rfl (any_of HT_.out (by kernel_rfl)) (fun _ _ _ h => h) (Or.inr ⟨by rfl, rfl⟩) ?_ ?_
  rotate_left
  ·simp only [Act.put, YM, YN, YO, i64_w, i32_w]
   rfl
  refine pure_ (i := 21) (N := some 100) (v := undef) (a' := ?_) #[true, true, true, true, true, true, true, true, true, true, true, true, true, true, true, true, true, true, true, true, true, true, false, false, false, false, false, false, false] rfl rfl (any_of HT_.out (by kernel_rfl)) (fun _ _ _ h => h) (Or.inr ⟨by rfl, rfl⟩) ?_ ?_
  rotate_left
  ·simp only [Act.put, YM, YN, YO, i64_w, i32_w]
   rfl
  refine pure_ (i := 22) (N := some 101) (v := ?_) (a' := ?_) #[true, true, true, true, true, true, true, true, true, true, true, true, true, true, true, true, true, true, true, true, true, true, true, false, false, false, false, false, false] rfl rfl (any_of HT_.out (by kernel_rfl)) (fun _ _ _ h => h) (Or.inl ⟨by rfl, ?_⟩) ?_ ?_
  rotate_left
  ·intro w'
   go_simp; with_reducible rfl
  rotate_left
  ·simp only [Act.put, YM, YN, YO, i64_w, i32_w]
   rfl
  refine pure_ (i := 23) (N := some 102) (v := ?_) (a' := ?_) #[true, true, true, true, true, true, true, true, true, true, true, true, true, true, true, true, true, true, true, true, true, true, true, true, false, false, false, false, false] rfl rfl (any_of HT_.out (by kernel_rfl)) (fun _ _ _ h => h) (Or.inl ⟨by rfl, ?_⟩) ?_ ?_
  rotate_left
  ·intro w'
   go_simp; with_reducible rfl
  rotate_left
  ·simp only [Act.put, YM, YN, YO, i64_w, i32_w]
   rfl
  refine pure_ (i := 24) (N := some 103) (v := undef) (a' := ?_) #[true, true, true, true, true, true, true, true, true, true, true, true, true, true, true, true, true, true, true, true, true, true, true, true, true, false, false, false, false] rfl rfl (any_of HT_.out (by kernel_rfl)) (fun _ _ _ h => h) (Or.inr ⟨by rfl, rfl⟩) ?_ ?_
  rotate_left
  ·simp only [Act.put, YM, YN, YO, i64_w, i32_w]
   rfl
  refine pure_ (i := 25) (N := some 104) (v := undef) (a' := ?_) #[true, true, true, true, true, true, true, true, true, true, true, true, true, true, true, true, true, true, true, true, true, true, true, true, true, true, false, false, false] rfl rfl (any_of HT_.out (by kernel_rfl)) (fun _ _ _ h => h) (Or.inr ⟨by rfl, rfl⟩) ?_ ?_
  rotate_left
  ·simp only [Act.put, YM, YN, YO, i64_w, i32_w]
   rfl
  refine pure_ (i := 26) (N := some 105) (v := undef) (a' := ?_) #[true, true, true, true, true, true, true, true, true, true, true, true, true, true, true, true, true, true, true, true, true, true, true, true, true, true, true, false, false] rfl rfl (any_of HT_.out (by kernel_rfl)) (fun _ _ _ h => h) (Or.inr ⟨by rfl, rfl⟩) ?_ ?_
  rotate_left
  ·simp only [Act.put, YM, YN, YO, i64_w, i32_w]
   rfl
  refine pure_ (i := 27) (N := some 106) (v := ?_) (a' := ?_) #[true, true, true, true, true, true, true, true, true, true, true, true, true, true, true, true, true, true, true, true, true, true, true, true, true, true, true, true, false] rfl rfl (any_of HT_.out (by kernel_rfl)) (fun _ _ _ h => h) (Or.inl ⟨by rfl, ?_⟩) ?_ ?_
  rotate_left
  ·intro w'
   go_simp; with_reducible rfl
  rotate_left
  ·simp only [Act.put, YM, YN, YO, i64_w, i32_w]
   rfl
  refine pure_ (i := 28) (N := some 24) (v := ?_) (a' := ?_) #[true, true, true, true, true, true, true, true, true, true, true, true, true, true, true, true, true, true, true, true, true, true, true, true, true, true, true, true, true] rfl rfl (any_of HT_.out (by kernel_rfl)) (fun _ _ _ h => h) (Or.inl ⟨by rfl, ?_⟩) ?_ ?_
  rotate_left
  ·intro w'
   go_simp; with_reducible rfl
  rotate_left
  ·simp only [Act.put, YM, YN, YO, i64_w, i32_w]
   rfl
  refine done_ (done_of HT_.out (by kernel_rfl)) ?_
  try go_wp2
  go_meet
  case rel => exact ⟨_, (false), (by first | rfl | (simp; done) | (simp [*]; done)), H', ⟨by first | omega | exact Nat.le_refl _⟩, ⟨by (with_reducible repeat (first | apply YS | apply YT | apply YU)); exact HO338.out⟩, ⟨by (with_reducible repeat (first | apply YS | apply YT | apply YU)); exact HO355.out⟩, ⟨by (with_reducible repeat (first | apply YS | apply YT | apply YU)); exact HO361.out⟩, ⟨by (with_reducible repeat (first | apply YS | apply YT | apply YU)); exact HO367.out⟩, ⟨by (with_reducible repeat (first | apply YS | apply YT | apply YU)); exact HO373.out⟩, ⟨by (with_reducible repeat (first | refine YF ?_ _ | refine YG ?_ | refine YH ?_ _)); exact BK334.out⟩, ⟨by (with_reducible repeat (first | refine YF ?_ _ | refine YG ?_ | refine YH ?_ _)); exact BK339.out⟩, ⟨by (with_reducible repeat (first | refine YF ?_ _ | refine YG ?_ | refine YH ?_ _)); exact BK357.out⟩, ⟨by (with_reducible repeat (first | refine YF ?_ _ | refine YG ?_ | refine YH ?_ _)); exact BK363.out⟩, ⟨by (with_reducible repeat (first | refine YF ?_ _ | refine YG ?_ | refine YH ?_ _)); exact BK369.out⟩, ⟨by (with_reducible repeat (first | refine YF ?_ _ | refine YG ?_ | refine YH ?_ _)); exact BK375.out⟩, ⟨by repeat (first | (with_reducible first | exact HB.out | apply YA | apply YB | apply YC | refine below_set ?_ GE334.out | refine below_set ?_ GE339.out | refine below_set ?_ GE357.out | refine below_set ?_ GE363.out | refine below_set ?_ GE369.out | refine below_set ?_ GE375.out) | exact HB.out)⟩⟩
 case rest =>
  clear HC16
  try clear c2; try clear p2
  try clear c6; try clear c22
  try clear c23; try clear c67
  try clear c67b0; try clear c67b1; try clear c67b2
  obtain ⟨kq, x24_15, rfl, HA, HJ15, HO_340001, HO_358001, HO_364001, HO_370001, HO_376001, BK334, BK339, BK357, BK363, BK369, BK375, HB⟩ := hcut
  cases kq with
  | zero => exact absurd HA.out (by simp [thalweglaw06_BeaconDoes.j0])
  | succ kj15 =>
   have H := HA.out
   clear HA
   simp only [thalweglaw06_BeaconDoes.j0] at H
   replace H := Option.bind_eq_some_iff.mp H; obtain ⟨t378, A990, H⟩ := H
   replace H : (if t378 = true then (if x24_15 = true then ((thalwegref06_Same.f kj15 t352 t353 t358 t359).bind fun t379 => (if t379 = true then (if t356 = t362 then ((thalwegref06_Same.f kj15 t364 t365 t370 t371).bind fun t380 => (if t380 = true then (if t368 = t374 then ((thalwegref06_Same.f kj15 t335 t336 a0_0 l0_1).bind fun t381 => (some t381)) else (none)) else (none))) else (none)) else (none))) else (none)) else (none)) = some r := H
   have A99 := YL A990; clear A990
   by_cases c100 : t378 = true
   ·subst c100
    have H1 : (if x24_15 = true then ((thalwegref06_Same.f kj15 t352 t353 t358 t359).bind fun t379 => (if t379 = true then (if t356 = t362 then ((thalwegref06_Same.f kj15 t364 t365 t370 t371).bind fun t380 => (if t380 = true then (if t368 = t374 then ((thalwegref06_Same.f kj15 t335 t336 a0_0 l0_1).bind fun t381 => (some t381)) else (none)) else (none))) else (none)) else (none))) else (none)) = some r := by rw [if_pos rfl] at H; exact H
    clear H
    have H := H1
    clear H1
    by_cases c101 : x24_15 = true
    ·subst c101
     have H1 : ((thalwegref06_Same.f kj15 t352 t353 t358 t359).bind fun t379 => (if t379 = true then (if t356 = t362 then ((thalwegref06_Same.f kj15 t364 t365 t370 t371).bind fun t380 => (if t380 = true then (if t368 = t374 then ((thalwegref06_Same.f kj15 t335 t336 a0_0 l0_1).bind fun t381 => (some t381)) else (none)) else (none))) else (none)) else (none))) = some r := by rw [if_pos rfl] at H; exact H
     clear H
     have H := H1
     clear H1; replace H := Option.bind_eq_some_iff.mp H; obtain ⟨t379, A1020, H⟩ := H
     replace H : (if t379 = true then (if t356 = t362 then ((thalwegref06_Same.f kj15 t364 t365 t370 t371).bind fun t380 => (if t380 = true then (if t368 = t374 then ((thalwegref06_Same.f kj15 t335 t336 a0_0 l0_1).bind fun t381 => (some t381)) else (none)) else (none))) else (none)) else (none)) = some r := H
     have A102 := YL A1020; clear A1020
     by_cases c103 : t379 = true
     ·subst c103
      have H1 : (if t356 = t362 then ((thalwegref06_Same.f kj15 t364 t365 t370 t371).bind fun t380 => (if t380 = true then (if t368 = t374 then ((thalwegref06_Same.f kj15 t335 t336 a0_0 l0_1).bind fun t381 => (some t381)) else (none)) else (none))) else (none)) = some r := by rw [if_pos rfl] at H; exact H
      clear H
      have H := H1
      clear H1
      by_cases c104 : t356 = t362
      rotate_left
      ·rw [if_neg c104] at H
       exact absurd H (by simp)
      rw [if_pos c104] at H
      have c104b0 : (t356 == t362) = true := beq_iff_eq.mpr c104
      have c104b1 : (t356 != t362) = false := bne_eq_false_iff_eq.mpr c104
      clear c104; replace H := Option.bind_eq_some_iff.mp H; obtain ⟨t380, A1050, H⟩ := H
      replace H : (if t380 = true then (if t368 = t374 then ((thalwegref06_Same.f kj15 t335 t336 a0_0 l0_1).bind fun t381 => (some t381)) else (none)) else (none)) = some r := H
      have A105 := YL A1050; clear A1050
      by_cases c106 : t380 = true
      ·subst c106
       have H1 : (if t368 = t374 then ((thalwegref06_Same.f kj15 t335 t336 a0_0 l0_1).bind fun t381 => (some t381)) else (none)) = some r := by rw [if_pos rfl] at H; exact H
       clear H
       have H := H1
       clear H1
       by_cases c107 : t368 = t374
       rotate_left
       ·rw [if_neg c107] at H
        exact absurd H (by simp)
       rw [if_pos c107] at H
       have c107b0 : (t368 == t374) = true := beq_iff_eq.mpr c107
       have c107b1 : (t368 != t374) = false := bne_eq_false_iff_eq.mpr c107
       clear c107; replace H := Option.bind_eq_some_iff.mp H; obtain ⟨t381, A1080, H⟩ := H
       replace H : (some t381) = some r := H
       have A108 := YL A1080; clear A1080
       obtain rfl := Option.some.inj H
       go_wp2_with (first | ((with_reducible refine gate_callee (f := 10) rfl ?_); refine goesL_ (some 107) rfl rfl Try.func10 (by kernel_rfl) rfl #[] rfl (by (try simp only [YP, List.map_cons, List.map_nil]); first | done | rfl | (simp only [YR, YQ]; rfl)) ?_; (with_reducible refine (thalweglaw06_awake.calls kj15  true _ A99.out).mono ?_); rintro e w109 ⟨rfl, hb⟩; refine ⟨_, rfl, ?_⟩; have n0_ := YL (YV (by (with_reducible repeat (first | apply YS | apply YT | apply YU)); exact HO_340001.out) hb); have n1_ := YL (YV (by (with_reducible repeat (first | apply YS | apply YT | apply YU)); exact HO_358001.out) hb); have n2_ := YL (YV (by (with_reducible repeat (first | apply YS | apply YT | apply YU)); exact HO_364001.out) hb); have n3_ := YL (YV (by (with_reducible repeat (first | apply YS | apply YT | apply YU)); exact HO_370001.out) hb); have n4_ := YL (YV (by (with_reducible repeat (first | apply YS | apply YT | apply YU)); exact HO_376001.out) hb); have n5_ := YL (YK (g := gb334) (o := .cells #[.int .i64 a0_0, .slice A0_1 l0_1.length c0_1] 25 (0, 0)) (by (with_reducible repeat (first | refine YF ?_ _ | refine YG ?_ | refine YH ?_ _)); exact BK334.out) hb); have n6_ := YL (YK (g := gb339) (o := .cells #[.int .i64 t335, .slice Ao23 t336.length co23] 25 (0, 0)) (by (with_reducible repeat (first | refine YF ?_ _ | refine YG ?_ | refine YH ?_ _)); exact BK339.out) hb); have n7_ := YL (YK (g := gb357) (o := .cells #[.int .i64 t352, .slice Ao37 t353.length co37] 25 (0, 0)) (by (with_reducible repeat (first | refine YF ?_ _ | refine YG ?_ | refine YH ?_ _)); exact BK357.out) hb); have n8_ := YL (YK (g := gb363) (o := .cells #[.int .i64 t358, .slice Ao45 t359.length co45] 25 (0, 0)) (by (with_reducible repeat (first | refine YF ?_ _ | refine YG ?_ | refine YH ?_ _)); exact BK363.out) hb); have n9_ := YL (YK (g := gb369) (o := .cells #[.int .i64 t364, .slice Ao54 t365.length co54] 25 (0, 0)) (by (with_reducible repeat (first | refine YF ?_ _ | refine YG ?_ | refine YH ?_ _)); exact BK369.out) hb); have n10_ := YL (YK (g := gb375) (o := .cells #[.int .i64 t370, .slice Ao64 t371.length co64] 25 (0, 0)) (by (with_reducible repeat (first | refine YF ?_ _ | refine YG ?_ | refine YH ?_ _)); exact BK375.out) hb); have n11_ := YL (YD (by repeat (first | (with_reducible first | exact HB.out | apply YA | apply YB | apply YC | refine below_set ?_ GE334.out | refine below_set ?_ GE339.out | refine below_set ?_ GE357.out | refine below_set ?_ GE363.out | refine below_set ?_ GE369.out | refine below_set ?_ GE375.out) | exact HB.out)) hb); clear HO_340001; clear HO_358001; clear HO_364001; clear HO_370001; clear HO_376001; clear BK334; clear BK339; clear BK357; clear BK363; clear BK369; clear BK375; clear HB; have HO_340001 := n0_; have HO_358001 := n1_; have HO_364001 := n2_; have HO_370001 := n3_; have HO_376001 := n4_; have BK334 := n5_; have BK339 := n6_; have BK357 := n7_; have BK363 := n8_; have BK369 := n9_; have BK375 := n10_; have HB := n11_; clear n0_ n1_ n2_ n3_ n4_ n5_ n6_ n7_ n8_ n9_ n10_ n11_; (try clear hb); (try clear hb2); (try clear hk); (try clear hi); have hnb110 := NB357_334.out; have hnc110 := NB334_357.out; have hnb111 := NB357_339.out; have hnc111 := NB339_357.out; have hnb112 := NB357_363.out; have hnc112 := NB363_357.out; have hnb113 := NB357_369.out; have hnc113 := NB369_357.out; have hnb114 := NB357_375.out; have hnc114 := NB375_357.out; have q115_0 : w109.cell? ⟨gb357, 0, none⟩ = some (.int .i64 t352) := (YI BK357.out 0).trans rfl; have q115_1 : w109.cell? ⟨gb357, 1, none⟩ = some (.slice Ao37 t353.length co37) := (YI BK357.out 1).trans rfl; have f115_0 := YJ BK357.out 0; have f115_1 := YJ BK357.out 1; have hnb116 := NB363_334.out; have hnc116 := NB334_363.out; have hnb117 := NB363_339.out; have hnc117 := NB339_363.out; have hnb118 := NB363_369.out; have hnc118 := NB369_363.out; have hnb119 := NB363_375.out; have hnc119 := NB375_363.out; have q120_0 : w109.cell? ⟨gb363, 0, none⟩ = some (.int .i64 t358) := (YI BK363.out 0).trans rfl; have q120_1 : w109.cell? ⟨gb363, 1, none⟩ = some (.slice Ao45 t359.length co45) := (YI BK363.out 1).trans rfl; have f120_0 := YJ BK363.out 0; have f120_1 := YJ BK363.out 1) | (go_at_call 11; (with_reducible refine (thalwegref06_Same.calls kj15 t352 _ _ t353 t358 _ _ t359 true _ ?side1 ?side2 ?side3 ?side4 A102.out).mono ?_); (case side1 => repeat (first | exact (Kd.R_reads' HO_358001.out).2.2 | (with_reducible refine Kd.C_alloc ?_ _) | (with_reducible refine Kd.C_drewN ?_ _) | (with_reducible refine Kd.C_drew ?_))); (case side2 => exact (Kd.R_reads' HO_358001.out).2.1); (case side3 => repeat (first | exact (Kd.R_reads' HO_364001.out).2.2 | (with_reducible refine Kd.C_alloc ?_ _) | (with_reducible refine Kd.C_drewN ?_ _) | (with_reducible refine Kd.C_drew ?_))); (case side4 => exact (Kd.R_reads' HO_364001.out).2.1); rintro e w121 ⟨rfl, hb⟩; have n0_ := YL (YV (by (with_reducible repeat (first | apply YS | apply YT | apply YU)); exact HO_340001.out) hb); have n1_ := YL (YV (by (with_reducible repeat (first | apply YS | apply YT | apply YU)); exact HO_358001.out) hb); have n2_ := YL (YV (by (with_reducible repeat (first | apply YS | apply YT | apply YU)); exact HO_364001.out) hb); have n3_ := YL (YV (by (with_reducible repeat (first | apply YS | apply YT | apply YU)); exact HO_370001.out) hb); have n4_ := YL (YV (by (with_reducible repeat (first | apply YS | apply YT | apply YU)); exact HO_376001.out) hb); have n5_ := YL (YK (g := gb334) (o := .cells #[.int .i64 a0_0, .slice A0_1 l0_1.length c0_1] 25 (0, 0)) (by (with_reducible repeat (first | refine YF ?_ _ | refine YG ?_ | refine YH ?_ _)); exact BK334.out) hb); have n6_ := YL (YK (g := gb339) (o := .cells #[.int .i64 t335, .slice Ao23 t336.length co23] 25 (0, 0)) (by (with_reducible repeat (first | refine YF ?_ _ | refine YG ?_ | refine YH ?_ _)); exact BK339.out) hb); have n7_ := YL (YK (g := gb357) (o := .cells #[.int .i64 t352, .slice Ao37 t353.length co37] 25 (0, 0)) (by (with_reducible repeat (first | refine YF ?_ _ | refine YG ?_ | refine YH ?_ _)); exact BK357.out) hb); have n8_ := YL (YK (g := gb363) (o := .cells #[.int .i64 t358, .slice Ao45 t359.length co45] 25 (0, 0)) (by (with_reducible repeat (first | refine YF ?_ _ | refine YG ?_ | refine YH ?_ _)); exact BK363.out) hb); have n9_ := YL (YK (g := gb369) (o := .cells #[.int .i64 t364, .slice Ao54 t365.length co54] 25 (0, 0)) (by (with_reducible repeat (first | refine YF ?_ _ | refine YG ?_ | refine YH ?_ _)); exact BK369.out) hb); have n10_ := YL (YK (g := gb375) (o := .cells #[.int .i64 t370, .slice Ao64 t371.length co64] 25 (0, 0)) (by (with_reducible repeat (first | refine YF ?_ _ | refine YG ?_ | refine YH ?_ _)); exact BK375.out) hb); have n11_ := YL (YD (by repeat (first | (with_reducible first | exact HB.out | apply YA | apply YB | apply YC | refine below_set ?_ GE334.out | refine below_set ?_ GE339.out | refine below_set ?_ GE357.out | refine below_set ?_ GE363.out | refine below_set ?_ GE369.out | refine below_set ?_ GE375.out) | exact HB.out)) hb); clear HO_340001; clear HO_358001; clear HO_364001; clear HO_370001; clear HO_376001; clear BK334; clear BK339; clear BK357; clear BK363; clear BK369; clear BK375; clear HB; have HO_340001 := n0_; have HO_358001 := n1_; have HO_364001 := n2_; have HO_370001 := n3_; have HO_376001 := n4_; have BK334 := n5_; have BK339 := n6_; have BK357 := n7_; have BK363 := n8_; have BK369 := n9_; have BK375 := n10_; have HB := n11_; clear n0_ n1_ n2_ n3_ n4_ n5_ n6_ n7_ n8_ n9_ n10_ n11_; (try clear hb); (try clear hb2); (try clear hk); (try clear hi); have hnb122 := NB369_334.out; have hnc122 := NB334_369.out; have hnb123 := NB369_339.out; have hnc123 := NB339_369.out; have hnb124 := NB369_375.out; have hnc124 := NB375_369.out; have q125_0 : w121.cell? ⟨gb369, 0, none⟩ = some (.int .i64 t364) := (YI BK369.out 0).trans rfl; have q125_1 : w121.cell? ⟨gb369, 1, none⟩ = some (.slice Ao54 t365.length co54) := (YI BK369.out 1).trans rfl; have f125_0 := YJ BK369.out 0; have f125_1 := YJ BK369.out 1; have hnb126 := NB375_334.out; have hnc126 := NB334_375.out; have hnb127 := NB375_339.out; have hnc127 := NB339_375.out; have q128_0 : w121.cell? ⟨gb375, 0, none⟩ = some (.int .i64 t370) := (YI BK375.out 0).trans rfl; have q128_1 : w121.cell? ⟨gb375, 1, none⟩ = some (.slice Ao64 t371.length co64) := (YI BK375.out 1).trans rfl; have f128_0 := YJ BK375.out 0; have f128_1 := YJ BK375.out 1) | (go_at_call 11; (with_reducible refine (thalwegref06_Same.calls kj15 t364 _ _ t365 t370 _ _ t371 true _ ?side1 ?side2 ?side3 ?side4 A105.out).mono ?_); (case side1 => repeat (first | exact (Kd.R_reads' HO_370001.out).2.2 | (with_reducible refine Kd.C_alloc ?_ _) | (with_reducible refine Kd.C_drewN ?_ _) | (with_reducible refine Kd.C_drew ?_))); (case side2 => exact (Kd.R_reads' HO_370001.out).2.1); (case side3 => repeat (first | exact (Kd.R_reads' HO_376001.out).2.2 | (with_reducible refine Kd.C_alloc ?_ _) | (with_reducible refine Kd.C_drewN ?_ _) | (with_reducible refine Kd.C_drew ?_))); (case side4 => exact (Kd.R_reads' HO_376001.out).2.1); rintro e w129 ⟨rfl, hb⟩; have n0_ := YL (YV (by (with_reducible repeat (first | apply YS | apply YT | apply YU)); exact HO_340001.out) hb); have n1_ := YL (YV (by (with_reducible repeat (first | apply YS | apply YT | apply YU)); exact HO_358001.out) hb); have n2_ := YL (YV (by (with_reducible repeat (first | apply YS | apply YT | apply YU)); exact HO_364001.out) hb); have n3_ := YL (YV (by (with_reducible repeat (first | apply YS | apply YT | apply YU)); exact HO_370001.out) hb); have n4_ := YL (YV (by (with_reducible repeat (first | apply YS | apply YT | apply YU)); exact HO_376001.out) hb); have n5_ := YL (YK (g := gb334) (o := .cells #[.int .i64 a0_0, .slice A0_1 l0_1.length c0_1] 25 (0, 0)) (by (with_reducible repeat (first | refine YF ?_ _ | refine YG ?_ | refine YH ?_ _)); exact BK334.out) hb); have n6_ := YL (YK (g := gb339) (o := .cells #[.int .i64 t335, .slice Ao23 t336.length co23] 25 (0, 0)) (by (with_reducible repeat (first | refine YF ?_ _ | refine YG ?_ | refine YH ?_ _)); exact BK339.out) hb); have n7_ := YL (YK (g := gb357) (o := .cells #[.int .i64 t352, .slice Ao37 t353.length co37] 25 (0, 0)) (by (with_reducible repeat (first | refine YF ?_ _ | refine YG ?_ | refine YH ?_ _)); exact BK357.out) hb); have n8_ := YL (YK (g := gb363) (o := .cells #[.int .i64 t358, .slice Ao45 t359.length co45] 25 (0, 0)) (by (with_reducible repeat (first | refine YF ?_ _ | refine YG ?_ | refine YH ?_ _)); exact BK363.out) hb); have n9_ := YL (YK (g := gb369) (o := .cells #[.int .i64 t364, .slice Ao54 t365.length co54] 25 (0, 0)) (by (with_reducible repeat (first | refine YF ?_ _ | refine YG ?_ | refine YH ?_ _)); exact BK369.out) hb); have n10_ := YL (YK (g := gb375) (o := .cells #[.int .i64 t370, .slice Ao64 t371.length co64] 25 (0, 0)) (by (with_reducible repeat (first | refine YF ?_ _ | refine YG ?_ | refine YH ?_ _)); exact BK375.out) hb); have n11_ := YL (YD (by repeat (first | (with_reducible first | exact HB.out | apply YA | apply YB | apply YC | refine below_set ?_ GE334.out | refine below_set ?_ GE339.out | refine below_set ?_ GE357.out | refine below_set ?_ GE363.out | refine below_set ?_ GE369.out | refine below_set ?_ GE375.out) | exact HB.out)) hb); clear HO_340001; clear HO_358001; clear HO_364001; clear HO_370001; clear HO_376001; clear BK334; clear BK339; clear BK357; clear BK363; clear BK369; clear BK375; clear HB; have HO_340001 := n0_; have HO_358001 := n1_; have HO_364001 := n2_; have HO_370001 := n3_; have HO_376001 := n4_; have BK334 := n5_; have BK339 := n6_; have BK357 := n7_; have BK363 := n8_; have BK369 := n9_; have BK375 := n10_; have HB := n11_; clear n0_ n1_ n2_ n3_ n4_ n5_ n6_ n7_ n8_ n9_ n10_ n11_; (try clear hb); (try clear hb2); (try clear hk); (try clear hi); have hnb130 := NB339_334.out; have hnc130 := NB334_339.out; have q131_0 : w129.cell? ⟨gb339, 0, none⟩ = some (.int .i64 t335) := (YI BK339.out 0).trans rfl; have q131_1 : w129.cell? ⟨gb339, 1, none⟩ = some (.slice Ao23 t336.length co23) := (YI BK339.out 1).trans rfl; have f131_0 := YJ BK339.out 0; have f131_1 := YJ BK339.out 1; have q132_0 : w129.cell? ⟨gb334, 0, none⟩ = some (.int .i64 a0_0) := (YI BK334.out 0).trans rfl; have q132_1 : w129.cell? ⟨gb334, 1, none⟩ = some (.slice A0_1 l0_1.length c0_1) := (YI BK334.out 1).trans rfl; have f132_0 := YJ BK334.out 0; have f132_1 := YJ BK334.out 1) | (go_at_call 11; (with_reducible refine (thalwegref06_Same.calls kj15 t335 _ _ t336 a0_0 _ _ l0_1 t381 _ ?side1 ?side2 ?side3 ?side4 A108.out).mono ?_); (case side1 => repeat (first | exact (Kd.R_reads' HO_340001.out).2.2 | (with_reducible refine Kd.C_alloc ?_ _) | (with_reducible refine Kd.C_drewN ?_ _) | (with_reducible refine Kd.C_drew ?_))); (case side2 => exact (Kd.R_reads' HO_340001.out).2.1); (case side3 => repeat (first | exact (Kd.C_below HR0_1.out HB.out) | (with_reducible refine Kd.C_alloc ?_ _) | (with_reducible refine Kd.C_drewN ?_ _) | (with_reducible refine Kd.C_drew ?_))); (case side4 => exact HC0_1.out); rintro e w133 ⟨rfl, hb⟩; have n0_ := YL (YV (by (with_reducible repeat (first | apply YS | apply YT | apply YU)); exact HO_340001.out) hb); have n1_ := YL (YV (by (with_reducible repeat (first | apply YS | apply YT | apply YU)); exact HO_358001.out) hb); have n2_ := YL (YV (by (with_reducible repeat (first | apply YS | apply YT | apply YU)); exact HO_364001.out) hb); have n3_ := YL (YV (by (with_reducible repeat (first | apply YS | apply YT | apply YU)); exact HO_370001.out) hb); have n4_ := YL (YV (by (with_reducible repeat (first | apply YS | apply YT | apply YU)); exact HO_376001.out) hb); have n5_ := YL (YK (g := gb334) (o := .cells #[.int .i64 a0_0, .slice A0_1 l0_1.length c0_1] 25 (0, 0)) (by (with_reducible repeat (first | refine YF ?_ _ | refine YG ?_ | refine YH ?_ _)); exact BK334.out) hb); have n6_ := YL (YK (g := gb339) (o := .cells #[.int .i64 t335, .slice Ao23 t336.length co23] 25 (0, 0)) (by (with_reducible repeat (first | refine YF ?_ _ | refine YG ?_ | refine YH ?_ _)); exact BK339.out) hb); have n7_ := YL (YK (g := gb357) (o := .cells #[.int .i64 t352, .slice Ao37 t353.length co37] 25 (0, 0)) (by (with_reducible repeat (first | refine YF ?_ _ | refine YG ?_ | refine YH ?_ _)); exact BK357.out) hb); have n8_ := YL (YK (g := gb363) (o := .cells #[.int .i64 t358, .slice Ao45 t359.length co45] 25 (0, 0)) (by (with_reducible repeat (first | refine YF ?_ _ | refine YG ?_ | refine YH ?_ _)); exact BK363.out) hb); have n9_ := YL (YK (g := gb369) (o := .cells #[.int .i64 t364, .slice Ao54 t365.length co54] 25 (0, 0)) (by (with_reducible repeat (first | refine YF ?_ _ | refine YG ?_ | refine YH ?_ _)); exact BK369.out) hb); have n10_ := YL (YK (g := gb375) (o := .cells #[.int .i64 t370, .slice Ao64 t371.length co64] 25 (0, 0)) (by (with_reducible repeat (first | refine YF ?_ _ | refine YG ?_ | refine YH ?_ _)); exact BK375.out) hb); have n11_ := YL (YD (by repeat (first | (with_reducible first | exact HB.out | apply YA | apply YB | apply YC | refine below_set ?_ GE334.out | refine below_set ?_ GE339.out | refine below_set ?_ GE357.out | refine below_set ?_ GE363.out | refine below_set ?_ GE369.out | refine below_set ?_ GE375.out) | exact HB.out)) hb); clear HO_340001; clear HO_358001; clear HO_364001; clear HO_370001; clear HO_376001; clear BK334; clear BK339; clear BK357; clear BK363; clear BK369; clear BK375; clear HB; have HO_340001 := n0_; have HO_358001 := n1_; have HO_364001 := n2_; have HO_370001 := n3_; have HO_376001 := n4_; have BK334 := n5_; have BK339 := n6_; have BK357 := n7_; have BK363 := n8_; have BK369 := n9_; have BK375 := n10_; have HB := n11_; clear n0_ n1_ n2_ n3_ n4_ n5_ n6_ n7_ n8_ n9_ n10_ n11_; (try clear hb); (try clear hb2); (try clear hk); (try clear hi)))
       go_ret
       exact ⟨by first | rfl | (simp [errW_none, errW_some] <;> rfl) | (simp [*, errW_none, errW_some] <;> rfl), by repeat (first | (with_reducible first | exact HB.out | apply YA | apply YB | apply YC | refine below_set ?_ GE334.out | refine below_set ?_ GE339.out | refine below_set ?_ GE357.out | refine below_set ?_ GE363.out | refine below_set ?_ GE369.out | refine below_set ?_ GE375.out) | exact HB.out)⟩
      replace c106 := Bool.eq_false_iff.mpr c106
      subst c106
      have H1 : (none) = some r := by rw [if_neg (show ¬ (false = true) by decide)] at H; exact H
      clear H
      have H := H1
      clear H1
      exact absurd H (by simp)
     replace c103 := Bool.eq_false_iff.mpr c103
     subst c103
     have H1 : (none) = some r := by rw [if_neg (show ¬ (false = true) by decide)] at H; exact H
     clear H
     have H := H1
     clear H1
     exact absurd H (by simp)
    replace c101 := Bool.eq_false_iff.mpr c101
    subst c101
    have H1 : (none) = some r := by rw [if_neg (show ¬ (false = true) by decide)] at H; exact H
    clear H
    have H := H1
    clear H1
    exact absurd H (by simp)
   replace c100 := Bool.eq_false_iff.mpr c100
   subst c100
   have H1 : (none) = some r := by rw [if_neg (show ¬ (false = true) by decide)] at H; exact H
   clear H
   have H := H1
   clear H1
   exact absurd H (by simp)
end Go.Proofs.Ytaiklcpmlkpfjaa.P
