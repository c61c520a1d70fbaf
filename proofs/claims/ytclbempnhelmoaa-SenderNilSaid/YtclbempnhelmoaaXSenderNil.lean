/- The statement SenderNil, proved of the given program; it has no conditions. (Of many texts laid together) -/
import Derived.Test.YtclbempnhelmoaaXSenderNilWWords
import Derived.Test.YtclbempnhelmoaaXSenderNilWMore
import Derived.ProofKit
import Derived.OpenShut
import Derived.ChangeSame
import Derived.ChangeOld
import Derived.Deep.Slices
import Derived.Deep.Fields
import Derived.Test.YtclbempnhelmoaaRows
import Derived.WalkKit
import Derived.ShutString
import Derived.Below
import Derived.SizedLaws
import Derived.Test.YtclbempnhelmoaaXSenderNila
import Derived.Test.YtclbempnhelmoaaXSenderNilb
import Derived.Test.YtclbempnhelmoaaXSenderNilc
import Derived.Test.YtclbempnhelmoaaXSenderNild
set_option linter.unusedVariables false
set_option linter.unusedSimpArgs false
set_option maxHeartbeats 8000000
set_option maxRecDepth 100000
namespace Go.Proofs.Ytclbempnhelmoaa.P
open Go.RowKit YtclbempnhelmoaaW.PrintWords YtclbempnhelmoaaW.PrintLast YtclbempnhelmoaaW.PrintMore
open YtclbempnhelmoaaW.PrintWords renaming below_alloc → YA, pw_below_drewN → YB, below_drew1 → YC, below_step → YD, below_size → YE, blk_drewN → YF, blk_drew → YG, blk_alloc → YH, blk_cell → YI, blk_frozen → YJ, blk_below → YK
open YtclbempnhelmoaaW.PrintWords.Aside0 renaming mk → YL
open List renaming setIfInBounds_toArray → YM, set_cons_zero → YN, set_cons_succ → YO, map_toArray → YP
open YtclbempnhelmoaaW.PrintWords.Kd renaming R_alloc → YQ, R_drewN → YR, R_drew → YS
attribute [local go_sem] max2_int min2_int max_two min_two max_three min_three max_four min_four
def thalwegref02_Bytes.f (k : Nat) (a0_0 : Bool) (a0_1 : Int) (a0_2 : Int) (a0_3 : Int) (a0_4 : Int) (a0_5 : Int) : Option (List Int × Int) := (thalwegref02_Right.f k a0_0 a0_1 a0_2 a0_3 a0_4 a0_5).bind fun t290 => (if t290 = true then (if a0_0 = true then (some ((([0, (a0_5) % 256] : List Int)), 0)) else ((thalwegref01_Int.f k a0_1).bind fun t297 => ((thalwegref01_Int.f k a0_4).bind fun t303 => ((thalwegref01_Both.f k (([(([1] : List Int)), t297, (([(a0_2) % 256, (a0_3) % 256] : List Int)), t303, (([(a0_5) % 256] : List Int))] : List (List Int)))).bind fun t312 => (some (t312, 0)))))) else (some (([] : List Int), 1)))
theorem thalwegref02_Bytes.mono : ∀ a0 a1 a2 a3 a4 a5 k, LeO (thalwegref02_Bytes.f k a0 a1 a2 a3 a4 a5) (thalwegref02_Bytes.f (k + 1) a0 a1 a2 a3 a4 a5) := by
 intro a0 a1 a2 a3 a4 a5 k
 unfold thalwegref02_Bytes.f
 repeat' first
   | (with_reducible exact thalwegref01_Both.mono _ _)
   | (with_reducible exact thalwegref01_Int.mono _ _)
   | (with_reducible exact thalwegref02_Right.mono _ _ _ _ _ _ _)
   | (with_reducible exact LeO.refl _)
   | (with_reducible exact LeO.none _)
   | (with_reducible refine LeO.ite ?_ ?_)
   | (with_reducible refine LeO.bind ?_ (fun _ => ?_))
   | exact thalwegref01_Both.mono _ _
   | exact thalwegref01_Int.mono _ _
   | exact thalwegref02_Right.mono _ _ _ _ _ _ _
   | exact LeO.none _
   | refine LeO.ite ?_ ?_
   | refine LeO.bind ?_ (fun _ => ?_)
def thalwegref02_Bytes.T5 : Bool × List (List Nat × List Nat) := (true, [([], []), ([], []), ([1], [1]), ([2], [2]), ([], []), ([4], [4]), ([5], [5]), ([], []), ([7], [7]), ([8], [8]), ([6, 9], [6, 9]), ([], []), ([11], [11]), ([12, 3], [12]), ([], []), ([14], [14]), ([15], [15]), ([16], [16]), ([0, 3, 10, 13, 17], [0, 3, 10, 13, 17]), ([18, 13], [18]), ([19, 19, 0, 1, 2, 3, 4, 5, 6, 7, 8, 9, 10, 11, 12, 13, 14, 15, 16, 17, 18, 19], [19]), ([20, 0, 1, 2, 3, 4, 5, 6, 7, 8, 9, 10, 11, 12, 13, 14, 15, 16, 17, 18, 19, 20], [])])
def thalwegref02_Bytes.B5 : List Nat := [0, 0, 2, 6, 0, 16, 48, 0, 128, 384, 1008, 0, 2048, 6158, 0, 16384, 49152, 114688, 262143, 524287, 1048575, 2097151]
theorem thalwegref02_Bytes.tab5 : rtab .any (opsOf Try.f71 5) = thalwegref02_Bytes.T5 := by kernel_rfl
theorem thalwegref02_Bytes.bits5 : waitsOk thalwegref02_Bytes.T5.2 thalwegref02_Bytes.B5 = true := by kernel_rfl
theorem thalwegref02_Bytes.calls (k : Nat) (a0_0 : Bool) (a0_1 : Int) (a0_2 : Int) (a0_3 : Int) (a0_4 : Int) (a0_5 : Int) (r1 : List Int) (r2 : Int) (w : World) (h : thalwegref02_Bytes.f k a0_0 a0_1 a0_2 a0_3 a0_4 a0_5 = some (r1, r2)) :
  Calls Try.prog 71 #[.agg #[.bool a0_0, .int .i64 a0_1, .int .i64 a0_2, .int .i64 a0_3, .int .i64 a0_4, .int .i64 a0_5]] w fun e w' => ∃ v0_ : Value, e = .returned (.tuple #[v0_, .int .i64 r2]) ∧ Kd.R (Kd.int .u8) 5 w' w.heap.size (fun _ => True) v0_ r1 ∧ Below w.heap.size w w' := by
 have hu30 := Try.underlying30
 have HB := YL (Below.refl w.heap.size w)
 have H : ((thalwegref02_Right.f k a0_0 a0_1 a0_2 a0_3 a0_4 a0_5).bind fun t290 => (if t290 = true then (if a0_0 = true then (some ((([0, (a0_5) % 256] : List Int)), 0)) else ((thalwegref01_Int.f k a0_1).bind fun t297 => ((thalwegref01_Int.f k a0_4).bind fun t303 => ((thalwegref01_Both.f k (([(([1] : List Int)), t297, (([(a0_2) % 256, (a0_3) % 256] : List Int)), t303, (([(a0_5) % 256] : List Int))] : List (List Int)))).bind fun t312 => (some (t312, 0)))))) else (some (([] : List Int), 1)))) = some (r1, r2) := h
 clear h; replace H := Option.bind_eq_some_iff.mp H; obtain ⟨t290, A20, H⟩ := H
 replace H : (if t290 = true then (if a0_0 = true then (some ((([0, (a0_5) % 256] : List Int)), 0)) else ((thalwegref01_Int.f k a0_1).bind fun t297 => ((thalwegref01_Int.f k a0_4).bind fun t303 => ((thalwegref01_Both.f k (([(([1] : List Int)), t297, (([(a0_2) % 256, (a0_3) % 256] : List Int)), t303, (([(a0_5) % 256] : List Int))] : List (List Int)))).bind fun t312 => (some (t312, 0)))))) else (some (([] : List Int), 1))) = some (r1, r2) := H
 have A2 := YL A20; clear A20
 by_cases c3 : t290 = true
 ·subst c3
  have H1 : (if a0_0 = true then (some ((([0, (a0_5) % 256] : List Int)), 0)) else ((thalwegref01_Int.f k a0_1).bind fun t297 => ((thalwegref01_Int.f k a0_4).bind fun t303 => ((thalwegref01_Both.f k (([(([1] : List Int)), t297, (([(a0_2) % 256, (a0_3) % 256] : List Int)), t303, (([(a0_5) % 256] : List Int))] : List (List Int)))).bind fun t312 => (some (t312, 0)))))) = some (r1, r2) := by rw [if_pos rfl] at H; exact H
  clear H
  have H := H1
  clear H1
  by_cases c4 : a0_0 = true
  ·subst c4
   have H1 : (some ((([0, (a0_5) % 256] : List Int)), 0)) = some (r1, r2) := by rw [if_pos rfl] at H; exact H
   clear H
   have H := H1
   clear H1
   obtain ⟨y291, hy291⟩ : ∃ y_ : List Int, y_ = (([0, (a0_5) % 256] : List Int)) := ⟨_, rfl⟩
   replace H : (some (y291, 0)) = some (r1, r2) := by first | (rw [hy291]; with_reducible exact H) | (have H2_ := (Option.bind_some _ _).symm.trans H; rw [hy291]; with_reducible exact H2_) | (have H2_ := (Option.bind_some _ _).symm.trans H; with_reducible exact H2_) | with_reducible exact H | (rw [hy291]; exact H) | exact H
   have Ny291 := YL hy291; clear hy291
   simp only [Option.some.injEq, Prod.mk.injEq] at H
   obtain ⟨rfl, rfl⟩ := H
   go_enter Try.func71, Try.ntmps71
   go_wp2_with (first | ((with_reducible refine gate_dst (N := 1) rfl ?_); refine box_event ?hg (N := 1) ?hd (cs := #[.bool true, .int .i64 a0_1, .int .i64 a0_2, .int .i64 a0_3, .int .i64 a0_4, .int .i64 a0_5]) (t := 30) ?hr ?_; (case hd => rfl); (case hg => rfl); (case hr => first | (go_simp; done) | (go_simp; rfl)); intro gb289 hg w5 hbox hb; have n0_ := YL (YD (upB HB) hb); have n1_ := YL (hbox); have n2_ := YL ((by rw [hg]; exact (YE (upB HB)) : w.heap.size ≤ gb289)); have n3_ := YL ((by rw [hg]; exact (YE (upB HB)) : w.heap.size ≤ gb289)); clear HB; have HB := n0_; have BK289 := n1_; have GW289 := n2_; have GE289 := n3_; clear n0_ n1_ n2_ n3_; clear hb hbox hg; obtain ⟨q6_0, q6_1, q6_2, q6_3, q6_4, q6_5⟩ := cA6 BK289.out; obtain ⟨f6_0, f6_1, f6_2, f6_3, f6_4, f6_5⟩ := fA6 BK289.out) | ((with_reducible refine gate_callee (f := 59) rfl ?_); refine goesA (some 5) Try.func59 #[.agg #[.bool true, .int .i64 a0_1, .int .i64 a0_2, .int .i64 a0_3, .int .i64 a0_4, .int .i64 a0_5]] ?_; (with_reducible refine (thalwegref02_Right.calls k true a0_1 a0_2 a0_3 a0_4 a0_5 true _ A2.out).mono ?_); rintro e w7 ⟨rfl, hb⟩; refine ⟨_, rfl, ?_⟩; have n0_ := YL (YK (g := gb289) (o := .cells #[.bool true, .int .i64 a0_1, .int .i64 a0_2, .int .i64 a0_3, .int .i64 a0_4, .int .i64 a0_5] 30 (0, 0)) (upK BK289) hb); have n1_ := YL (YD (upB HB) hb); clear BK289; clear HB; have BK289 := n0_; have HB := n1_; clear n0_ n1_; (try clear hb); (try clear hb2); (try clear hk); (try clear hi); obtain ⟨q8_0, q8_1, q8_2, q8_3, q8_4, q8_5⟩ := cA6 BK289.out; obtain ⟨f8_0, f8_1, f8_2, f8_3, f8_4, f8_5⟩ := fA6 BK289.out) | ((with_reducible refine gate_dst (N := 12) rfl ?_); refine Kd.R_lit (Kd.int .u8) _ 5 ?hg (N := 12) ?hd (xs := ([0, (a0_5) % 256] : List Int)) (inner := [.int .u8 0, .int .u8 ((a0_5) % 256)]) (ok := fun _ => True) (okp := fun _ => True) ?hr ?hp (fun _ hk => hk) trivial (Below.refl _ _) (Nat.le_refl _) (by simp) ?_; (case hd => rfl); (case hg => rfl); (case hr => first | (go_simp; done) | (go_simp; rfl)); (case hp => exact (Reps.one (show Kd.M (Kd.int .u8) _ _ _ 0 [.int .u8 0] from rfl) (Reps.one (show Kd.M (Kd.int .u8) _ _ _ ((a0_5) % 256) [.int .u8 ((a0_5) % 256)] from rfl) (Reps.none _ _)))); intro v292 w9 ho10 hb hg_ hnew_; clear hg_ hnew_; (first | rw [← Ny291.out] at ho10 | (simp only [Int.reduceToNat] at ho10; rw [← Ny291.out] at ho10)); have n0_ := YL (Kd.R_lower ho10 (YE (upB HB))); have n1_ := YL (YK (g := gb289) (o := .cells #[.bool true, .int .i64 a0_1, .int .i64 a0_2, .int .i64 a0_3, .int .i64 a0_4, .int .i64 a0_5] 30 (0, 0)) (upK BK289) hb); have n2_ := YL (YD (upB HB) hb); clear BK289; clear HB; have HO293 := n0_; have BK289 := n1_; have HB := n2_; clear n0_ n1_ n2_; clear hb ho10))
   go_ret2
   exact ⟨_, by first | rfl | (simp [errW_none, errW_some] <;> rfl) | (simp [*, errW_none, errW_some] <;> rfl), by (with_reducible repeat (first | apply YQ | apply YR | apply YS)); exact HO293.out, by repeat (first | (with_reducible first | exact HB.out | apply YA | apply YB | apply YC | refine below_set ?_ GE289.out) | exact HB.out)⟩
  replace c4 := Bool.eq_false_iff.mpr c4
  subst c4
  have H1 : ((thalwegref01_Int.f k a0_1).bind fun t297 => ((thalwegref01_Int.f k a0_4).bind fun t303 => ((thalwegref01_Both.f k (([(([1] : List Int)), t297, (([(a0_2) % 256, (a0_3) % 256] : List Int)), t303, (([(a0_5) % 256] : List Int))] : List (List Int)))).bind fun t312 => (some (t312, 0))))) = some (r1, r2) := by rw [if_neg (show ¬ (false = true) by decide)] at H; exact H
  clear H
  have H := H1
  clear H1
  obtain ⟨y294, hy294⟩ : ∃ y_ : List Int, y_ = (([1] : List Int)) := ⟨_, rfl⟩
  replace H : ((thalwegref01_Int.f k a0_1).bind fun t297 => ((thalwegref01_Int.f k a0_4).bind fun t303 => ((thalwegref01_Both.f k (([y294, t297, (([(a0_2) % 256, (a0_3) % 256] : List Int)), t303, (([(a0_5) % 256] : List Int))] : List (List Int)))).bind fun t312 => (some (t312, 0))))) = some (r1, r2) := by first | (rw [hy294]; with_reducible exact H) | (have H2_ := (Option.bind_some _ _).symm.trans H; rw [hy294]; with_reducible exact H2_) | (have H2_ := (Option.bind_some _ _).symm.trans H; with_reducible exact H2_) | with_reducible exact H | (rw [hy294]; exact H) | exact H
  have Ny294 := YL hy294; clear hy294; replace H := Option.bind_eq_some_iff.mp H; obtain ⟨t297, A110, H⟩ := H
  replace H : ((thalwegref01_Int.f k a0_4).bind fun t303 => ((thalwegref01_Both.f k (([y294, t297, (([(a0_2) % 256, (a0_3) % 256] : List Int)), t303, (([(a0_5) % 256] : List Int))] : List (List Int)))).bind fun t312 => (some (t312, 0)))) = some (r1, r2) := H
  have A11 := YL A110; clear A110
  obtain ⟨y300, hy300⟩ : ∃ y_ : List Int, y_ = (([(a0_2) % 256, (a0_3) % 256] : List Int)) := ⟨_, rfl⟩
  replace H : ((thalwegref01_Int.f k a0_4).bind fun t303 => ((thalwegref01_Both.f k (([y294, t297, y300, t303, (([(a0_5) % 256] : List Int))] : List (List Int)))).bind fun t312 => (some (t312, 0)))) = some (r1, r2) := by first | (rw [hy300]; with_reducible exact H) | (have H2_ := (Option.bind_some _ _).symm.trans H; rw [hy300]; with_reducible exact H2_) | (have H2_ := (Option.bind_some _ _).symm.trans H; with_reducible exact H2_) | with_reducible exact H | (rw [hy300]; exact H) | exact H
  have Ny300 := YL hy300; clear hy300; replace H := Option.bind_eq_some_iff.mp H; obtain ⟨t303, A120, H⟩ := H
  replace H : ((thalwegref01_Both.f k (([y294, t297, y300, t303, (([(a0_5) % 256] : List Int))] : List (List Int)))).bind fun t312 => (some (t312, 0))) = some (r1, r2) := H
  have A12 := YL A120; clear A120
  obtain ⟨y306, hy306⟩ : ∃ y_ : List Int, y_ = (([(a0_5) % 256] : List Int)) := ⟨_, rfl⟩
  replace H : ((thalwegref01_Both.f k (([y294, t297, y300, t303, y306] : List (List Int)))).bind fun t312 => (some (t312, 0))) = some (r1, r2) := by first | (rw [hy306]; with_reducible exact H) | (have H2_ := (Option.bind_some _ _).symm.trans H; rw [hy306]; with_reducible exact H2_) | (have H2_ := (Option.bind_some _ _).symm.trans H; with_reducible exact H2_) | with_reducible exact H | (rw [hy306]; exact H) | exact H
  have Ny306 := YL hy306; clear hy306
  obtain ⟨y309, hy309⟩ : ∃ y_ : List (List Int), y_ = (([y294, t297, y300, t303, y306] : List (List Int))) := ⟨_, rfl⟩
  replace H : ((thalwegref01_Both.f k y309).bind fun t312 => (some (t312, 0))) = some (r1, r2) := by first | (rw [hy309]; with_reducible exact H) | (have H2_ := (Option.bind_some _ _).symm.trans H; rw [hy309]; with_reducible exact H2_) | (have H2_ := (Option.bind_some _ _).symm.trans H; with_reducible exact H2_) | with_reducible exact H | (rw [hy309]; exact H) | exact H
  have Ny309 := YL hy309; clear hy309; replace H := Option.bind_eq_some_iff.mp H; obtain ⟨t312, A130, H⟩ := H
  replace H : (some (t312, 0)) = some (r1, r2) := H
  have A13 := YL A130; clear A130
  simp only [Option.some.injEq, Prod.mk.injEq] at H
  obtain ⟨rfl, rfl⟩ := H
  go_enter Try.func71, Try.ntmps71
  try go_wp2_with (first | ((with_reducible refine gate_dst (N := 1) rfl ?_); refine box_event ?hg (N := 1) ?hd (cs := #[.bool false, .int .i64 a0_1, .int .i64 a0_2, .int .i64 a0_3, .int .i64 a0_4, .int .i64 a0_5]) (t := 30) ?hr ?_; (case hd => rfl); (case hg => rfl); (case hr => first | (go_simp; done) | (go_simp; rfl)); intro gb289 hg w14 hbox hb; have n0_ := YL (YD (upB HB) hb); have n1_ := YL (hbox); have n2_ := YL ((by rw [hg]; exact (YE (upB HB)) : w.heap.size ≤ gb289)); have n3_ := YL ((by rw [hg]; exact (YE (upB HB)) : w.heap.size ≤ gb289)); clear HB; have HB := n0_; have BK289 := n1_; have GW289 := n2_; have GE289 := n3_; clear n0_ n1_ n2_ n3_; clear hb hbox hg; obtain ⟨q15_0, q15_1, q15_2, q15_3, q15_4, q15_5⟩ := cA6 BK289.out; obtain ⟨f15_0, f15_1, f15_2, f15_3, f15_4, f15_5⟩ := fA6 BK289.out) | ((with_reducible refine gate_callee (f := 59) rfl ?_); refine goesA (some 5) Try.func59 #[.agg #[.bool false, .int .i64 a0_1, .int .i64 a0_2, .int .i64 a0_3, .int .i64 a0_4, .int .i64 a0_5]] ?_; (with_reducible refine (thalwegref02_Right.calls k false a0_1 a0_2 a0_3 a0_4 a0_5 true _ A2.out).mono ?_); rintro e w16 ⟨rfl, hb⟩; refine ⟨_, rfl, ?_⟩; have n0_ := YL (YK (g := gb289) (o := .cells #[.bool false, .int .i64 a0_1, .int .i64 a0_2, .int .i64 a0_3, .int .i64 a0_4, .int .i64 a0_5] 30 (0, 0)) (upK BK289) hb); have n1_ := YL (YD (upB HB) hb); clear BK289; clear HB; have BK289 := n0_; have HB := n1_; clear n0_ n1_; (try clear hb); (try clear hb2); (try clear hk); (try clear hi); obtain ⟨q17_0, q17_1, q17_2, q17_3, q17_4, q17_5⟩ := cA6 BK289.out; obtain ⟨f17_0, f17_1, f17_2, f17_3, f17_4, f17_5⟩ := fA6 BK289.out))
  have n0_ := YL (YG BK289.out)
  have n1_ := YL (YC HB.out)
  clear BK289; clear HB; have BK289 := n0_; have HB := n1_; clear n0_ n1_
  refine start_ (n := 22) (S := fun w' => True) (ds := []) #[false, false, false, false, false, false, false, false, false, false, false, false, false, false, false, false, false, false, false, false, false, false] (by kernel_rfl) rfl rfl trivial (fun hHeld => ?_); refine with_tabW thalwegref02_Bytes.tab5 thalwegref02_Bytes.bits5 (fun HT_ HW_ => ?_)
  generalize w16.drew = w18 at BK289 HB hHeld ⊢
  refine pure_ (i := 1) (N := some 14) (v := ?_) (a' := ?_) #[false, true, false, false, false, false, false, false, false, false, false, false, false, false, false, false, false, false, false, false, false, false] rfl rfl (any_of HT_.out (by kernel_rfl)) (fun _ _ _ h => h) (Or.inl ⟨by rfl, ?_⟩) ?_ ?_
  rotate_left
  ·intro w'
   go_simp; with_reducible rfl
  rotate_left
  ·simp only [Act.put, YM, YN, YO, i64_w, i32_w]
   rfl
  refine pure_ (i := 4) (N := some 17) (v := ?_) (a' := ?_) #[false, true, false, false, true, false, false, false, false, false, false, false, false, false, false, false, false, false, false, false, false, false] rfl rfl (any_of HT_.out (by kernel_rfl)) (fun _ _ _ h => h) (Or.inl ⟨by rfl, ?_⟩) ?_ ?_
  rotate_left
  ·intro w'
   go_simp; with_reducible rfl
  rotate_left
  ·simp only [Act.put, YM, YN, YO, i64_w, i32_w]
   rfl
  refine pure_ (i := 7) (N := some 20) (v := ?_) (a' := ?_) #[false, true, false, false, true, false, false, true, false, false, false, false, false, false, false, false, false, false, false, false, false, false] rfl rfl (any_of HT_.out (by kernel_rfl)) (fun _ _ _ h => h) (Or.inl ⟨by rfl, ?_⟩) ?_ ?_
  rotate_left
  ·intro w'
   go_simp; with_reducible rfl
  rotate_left
  ·simp only [Act.put, YM, YN, YO, i64_w, i32_w]
   rfl
  refine pure_ (i := 11) (N := some 24) (v := ?_) (a' := ?_) #[false, true, false, false, true, false, false, true, false, false, false, true, false, false, false, false, false, false, false, false, false, false] rfl rfl (any_of HT_.out (by kernel_rfl)) (fun _ _ _ h => h) (Or.inl ⟨by rfl, ?_⟩) ?_ ?_
  rotate_left
  ·intro w'
   go_simp; with_reducible rfl
  rotate_left
  ·simp only [Act.put, YM, YN, YO, i64_w, i32_w]
   rfl
  refine pure_ (i := 14) (N := some 27) (v := ?_) (a' := ?_) #[false, true, false, false, true, false, false, true, false, false, false, true, false, false, true, false, false, false, false, false, false, false] rfl rfl (any_of HT_.out (by kernel_rfl)) (fun _ _ _ h => h) (Or.inl ⟨by rfl, ?_⟩) ?_ ?_
  rotate_left
  ·intro w'
   go_simp; with_reducible rfl
  rotate_left
  ·simp only [Act.put, YM, YN, YO, i64_w, i32_w]
   rfl
  refine inv_at [0, 2, 3, 5, 6, 8, 9, 10, 12, 13, 15, 16, 17, 18, 19, 20, 21] (fun a0_ b a w' => ∃ (v295 : Value) (v298 : Value) (v301 : Value) (v304 : Value) (v307 : Value) (v310 : Value) (v313 : Value) (m20_ : Value), a = putSel a0_ b [(0, 13, v295), (2, 15, .int .i64 a0_1), (3, 16, v298), (5, 18, .int .i64 a0_2), (6, 19, .int .u8 ((a0_2) % 256)), (8, 21, .int .i64 a0_3), (9, 22, .int .u8 ((a0_3) % 256)), (10, 23, v301), (12, 25, .int .i64 a0_4), (13, 26, v304), (15, 28, .int .i64 a0_5), (16, 29, .int .u8 ((a0_5) % 256)), (17, 30, v307), (18, 31, v310), (19, 32, v313), (20, 2, m20_), (21, 3, .int .i64 0)] ∧ (w'.heap[gb289]? = some (.cells #[.bool false, .int .i64 a0_1, .int .i64 a0_2, .int .i64 a0_3, .int .i64 a0_4, .int .i64 a0_5] 30 (0, 0))) ∧ (Below w.heap.size w w') ∧ (b 0 = true → b 18 = false → Kd.R (Kd.int .u8) 5 w' w.heap.size (fun _ => True) v295 y294) ∧ (b 3 = true → b 18 = false → Kd.R (Kd.int .u8) 5 w' w.heap.size (fun _ => True) v298 t297) ∧ (b 10 = true → b 18 = false → Kd.R (Kd.int .u8) 5 w' w.heap.size (fun _ => True) v301 y300) ∧ (b 13 = true → b 18 = false → Kd.R (Kd.int .u8) 5 w' w.heap.size (fun _ => True) v304 t303) ∧ (b 17 = true → b 18 = false → Kd.R (Kd.int .u8) 5 w' w.heap.size (fun _ => True) v307 y306) ∧ (b 18 = true → Kd.N (Kd.slice 5 (Kd.int .u8)) 107 w' w.heap.size (fun k_ => k_ ≠ gb289) v310 y309) ∧ (b 19 = true → Kd.R (Kd.int .u8) 5 w' w.heap.size (fun _ => True) v313 t312) ∧ (b 20 = true → (m20_ : Value) = v313)) HT_.out HW_.out (by kernel_rfl) (by kernel_rfl) ?_ ?_ ?_
  ·exact ⟨.bool false, .bool false, .bool false, .bool false, .bool false, .bool false, .bool false, .bool false, by simp only [putSel, Bool.false_eq_true, if_false], BK289.out, HB.out, fun h_ => absurd h_ (by decide), fun h_ => absurd h_ (by decide), fun h_ => absurd h_ (by decide), fun h_ => absurd h_ (by decide), fun h_ => absurd h_ (by decide), fun h_ => absurd h_ (by decide), fun h_ => absurd h_ (by decide), fun h_ => absurd h_ (by decide)⟩
  ·skip
   clear BK289 HB
   refine steps_cons ?_ ?_
   ·rintro b a w' ⟨v295, v298, v301, v304, v307, v310, v313, m20_, ha, Q_BK289, Q_HB, Q_HO296, Q_HO299, Q_HO302, Q_HO305, Q_HO308, Q_HO311, Q_HO314, Q_X20_⟩ hb_ hon hoff
    refine ⟨_, rfl, fun K hK => ?_⟩
    replace ha := YL ha
    have BK289 := YL Q_BK289; have HB := YL Q_HB
    refine Kd.R_lit_step (Kd.int .u8) _ 5 ?hg (N := 13) ?hd (xs := ([1] : List Int)) (inner := [.int .u8 1]) (ok := fun _ => True) (okp := fun _ => True) ?hr ?hp (fun _ hk => hk) trivial (Below.refl _ _) (Nat.le_refl _) (by simp) ?_; (case hd => rfl); (case hg => rfl); (case hr => first | (go_simp; done) | (go_simp; rfl)); (case hp => exact (Reps.one (show Kd.M (Kd.int .u8) _ _ _ 1 [.int .u8 1] from rfl) (Reps.none _ _)))
    intro v295 w19 ho20 hb hg_ hnew_
    clear hg_ hnew_
    (first | rw [← Ny294.out] at ho20 | (simp only [Int.reduceToNat] at ho20; rw [← Ny294.out] at ho20))
    have n0_ := YL (Kd.R_lower ho20 (YE (upB HB)))
    have n1_ := YL (YK (g := gb289) (o := .cells #[.bool false, .int .i64 a0_1, .int .i64 a0_2, .int .i64 a0_3, .int .i64 a0_4, .int .i64 a0_5] 30 (0, 0)) (upK BK289) hb)
    have n2_ := YL (YD (upB HB) hb)
    have z_HO299 := fun (h0_ : b 3 = true) (h1_ : b 18 = false) => (show Kd.R (Kd.int .u8) 5 w19 w.heap.size (fun _ => True) v298 t297 from by first | exact (Kd.R_elder' (by (with_reducible repeat (first | apply YQ | apply YR | apply YS)); exact (Q_HO299 h0_ h1_)) (Kd.R_base ho20) hb) | exact Kd.R_mono (Kd.R_elder' (by (with_reducible repeat (first | apply YQ | apply YR | apply YS)); exact (Q_HO299 h0_ h1_)) (Kd.R_base ho20) hb) (fun _ h_ => by first | trivial | exact h_ | exact h_.1))
    have z_HO302 := fun (h0_ : b 10 = true) (h1_ : b 18 = false) => (show Kd.R (Kd.int .u8) 5 w19 w.heap.size (fun _ => True) v301 y300 from by first | exact (Kd.R_elder' (by (with_reducible repeat (first | apply YQ | apply YR | apply YS)); exact (Q_HO302 h0_ h1_)) (Kd.R_base ho20) hb) | exact Kd.R_mono (Kd.R_elder' (by (with_reducible repeat (first | apply YQ | apply YR | apply YS)); exact (Q_HO302 h0_ h1_)) (Kd.R_base ho20) hb) (fun _ h_ => by first | trivial | exact h_ | exact h_.1))
    have z_HO305 := fun (h0_ : b 13 = true) (h1_ : b 18 = false) => (show Kd.R (Kd.int .u8) 5 w19 w.heap.size (fun _ => True) v304 t303 from by first | exact (Kd.R_elder' (by (with_reducible repeat (first | apply YQ | apply YR | apply YS)); exact (Q_HO305 h0_ h1_)) (Kd.R_base ho20) hb) | exact Kd.R_mono (Kd.R_elder' (by (with_reducible repeat (first | apply YQ | apply YR | apply YS)); exact (Q_HO305 h0_ h1_)) (Kd.R_base ho20) hb) (fun _ h_ => by first | trivial | exact h_ | exact h_.1))
    have z_HO308 := fun (h0_ : b 17 = true) (h1_ : b 18 = false) => (show Kd.R (Kd.int .u8) 5 w19 w.heap.size (fun _ => True) v307 y306 from by first | exact (Kd.R_elder' (by (with_reducible repeat (first | apply YQ | apply YR | apply YS)); exact (Q_HO308 h0_ h1_)) (Kd.R_base ho20) hb) | exact Kd.R_mono (Kd.R_elder' (by (with_reducible repeat (first | apply YQ | apply YR | apply YS)); exact (Q_HO308 h0_ h1_)) (Kd.R_base ho20) hb) (fun _ h_ => by first | trivial | exact h_ | exact h_.1))
    clear BK289; clear HB; have HO296 := n0_; have BK289 := n1_; have HB := n2_; clear n0_ n1_ n2_; clear hb ho20
    refine hK.out _ _ ⟨v295, v298, v301, v304, v307, v310, v313, m20_, (by rw [ha.out]; exact putSel_upk 0 hb_ rfl rfl rfl), (upK BK289), (upB HB), fun _ _ => (upR HO296), z_HO299, z_HO302, z_HO305, z_HO308, fun h0_ => absurd ((hoff 18 (by kernel_rfl)).symm.trans h0_) (by decide), fun h0_ => absurd ((hoff 19 (by kernel_rfl)).symm.trans h0_) (by decide), fun h0_ => absurd ((hoff 20 (by kernel_rfl)).symm.trans h0_) (by decide)⟩
   refine steps_cons ?_ ?_
   ·rintro b a w' ⟨v295, v298, v301, v304, v307, v310, v313, m20_, ha, Q_BK289, Q_HB, Q_HO296, Q_HO299, Q_HO302, Q_HO305, Q_HO308, Q_HO311, Q_HO314, Q_X20_⟩ hb_ hon hoff
    refine ⟨_, rfl, fun K hK => ?_⟩
    have e14 : a.tmps[14]? = some (.pointer (some ⟨gb289, 1, none⟩)) := by rw [ha]; exact (putSel_off rfl).trans rfl
    replace ha := YL ha
    have BK289 := YL Q_BK289; have HB := YL Q_HB
    have hc0_ : w'.cell? ⟨gb289, 0, none⟩ = some (.bool false) := (YI BK289.out 0).trans rfl
    have hc1_ : w'.cell? ⟨gb289, 1, none⟩ = some (.int .i64 a0_1) := (YI BK289.out 1).trans rfl
    have hc2_ : w'.cell? ⟨gb289, 2, none⟩ = some (.int .i64 a0_2) := (YI BK289.out 2).trans rfl
    have hc3_ : w'.cell? ⟨gb289, 3, none⟩ = some (.int .i64 a0_3) := (YI BK289.out 3).trans rfl
    have hc4_ : w'.cell? ⟨gb289, 4, none⟩ = some (.int .i64 a0_4) := (YI BK289.out 4).trans rfl
    have hc5_ : w'.cell? ⟨gb289, 5, none⟩ = some (.int .i64 a0_5) := (YI BK289.out 5).trans rfl
    refine value_ (w1 := w') (v := .int .i64 a0_1) (by rfl) rfl ?_ ?_
    ·go_simp
     (try simp only [i64_w])
     try rfl
    refine hK.out _ _ ⟨v295, v298, v301, v304, v307, v310, v313, m20_, (by rw [ha.out]; exact putSel_upk 1 hb_ rfl rfl rfl), Q_BK289, Q_HB, Q_HO296, fun h0_ _ => absurd ((hoff 3 (by kernel_rfl)).symm.trans h0_) (by decide), Q_HO302, fun h0_ _ => absurd ((hoff 13 (by kernel_rfl)).symm.trans h0_) (by decide), Q_HO308, fun h0_ => absurd ((hoff 18 (by kernel_rfl)).symm.trans h0_) (by decide), fun h0_ => absurd ((hoff 19 (by kernel_rfl)).symm.trans h0_) (by decide), fun h0_ => absurd ((hoff 20 (by kernel_rfl)).symm.trans h0_) (by decide)⟩
   refine steps_cons ?_ ?_
   ·rintro b a w' ⟨v295, v298, v301, v304, v307, v310, v313, m20_, ha, Q_BK289, Q_HB, Q_HO296, Q_HO299, Q_HO302, Q_HO305, Q_HO308, Q_HO311, Q_HO314, Q_X20_⟩ hb_ hon hoff
    refine ⟨_, rfl, fun K hK => ?_⟩
    have e15 : a.tmps[15]? = some (.int .i64 a0_1) := by rw [ha]; exact putSel_on (e := (2, 15, .int .i64 a0_1)) 1 rfl rfl (hon 2 (by kernel_rfl)) rfl
    replace ha := YL ha
    have BK289 := YL Q_BK289; have HB := YL Q_HB
    refine goes_ Try.func72 (by kernel_rfl) rfl #[.int .i64 a0_1] (by rfl) rfl rfl (by first | (simp only [YP, List.map_cons, List.map_nil, Act.eval, Array.getD_eq_getD_getElem?, Option.getD_some, e15]; done) | (simp only [YP, List.map_cons, List.map_nil, Act.eval, Array.getD_eq_getD_getElem?, Option.getD_some, e15]; rfl)) ?_
    with_reducible refine (thalwegref01_Int.calls k a0_1 t297 _ A11.out).mono ?_
    rintro e w19 ⟨v298, rfl, ho0, hb⟩
    refine ⟨_, rfl, ?_⟩
    have n0_ := YL (Kd.R_lower ho0 (YE (upB HB)))
    have n1_ := YL (YK (g := gb289) (o := .cells #[.bool false, .int .i64 a0_1, .int .i64 a0_2, .int .i64 a0_3, .int .i64 a0_4, .int .i64 a0_5] 30 (0, 0)) (upK BK289) hb)
    have n2_ := YL (YD (upB HB) hb)
    have z_HO296 := fun (h0_ : b 0 = true) (h1_ : b 18 = false) => (show Kd.R (Kd.int .u8) 5 w19 w.heap.size (fun _ => True) v295 y294 from by first | exact (Kd.R_elder' (by (with_reducible repeat (first | apply YQ | apply YR | apply YS)); exact (Q_HO296 h0_ h1_)) (Kd.R_base ho0) hb) | exact Kd.R_mono (Kd.R_elder' (by (with_reducible repeat (first | apply YQ | apply YR | apply YS)); exact (Q_HO296 h0_ h1_)) (Kd.R_base ho0) hb) (fun _ h_ => by first | trivial | exact h_ | exact h_.1))
    have z_HO302 := fun (h0_ : b 10 = true) (h1_ : b 18 = false) => (show Kd.R (Kd.int .u8) 5 w19 w.heap.size (fun _ => True) v301 y300 from by first | exact (Kd.R_elder' (by (with_reducible repeat (first | apply YQ | apply YR | apply YS)); exact (Q_HO302 h0_ h1_)) (Kd.R_base ho0) hb) | exact Kd.R_mono (Kd.R_elder' (by (with_reducible repeat (first | apply YQ | apply YR | apply YS)); exact (Q_HO302 h0_ h1_)) (Kd.R_base ho0) hb) (fun _ h_ => by first | trivial | exact h_ | exact h_.1))
    have z_HO308 := fun (h0_ : b 17 = true) (h1_ : b 18 = false) => (show Kd.R (Kd.int .u8) 5 w19 w.heap.size (fun _ => True) v307 y306 from by first | exact (Kd.R_elder' (by (with_reducible repeat (first | apply YQ | apply YR | apply YS)); exact (Q_HO308 h0_ h1_)) (Kd.R_base ho0) hb) | exact Kd.R_mono (Kd.R_elder' (by (with_reducible repeat (first | apply YQ | apply YR | apply YS)); exact (Q_HO308 h0_ h1_)) (Kd.R_base ho0) hb) (fun _ h_ => by first | trivial | exact h_ | exact h_.1))
    clear BK289; clear HB; have HO299 := n0_; have BK289 := n1_; have HB := n2_; clear n0_ n1_ n2_; (try clear hb); (try clear hb2); (try clear hk); (try clear hi); (try clear ho0)
    refine hK.out _ _ ⟨v295, v298, v301, v304, v307, v310, v313, m20_, (by rw [ha.out]; exact putSel_upk 2 hb_ rfl rfl rfl), (upK BK289), (upB HB), z_HO296, fun _ _ => (upR HO299), z_HO302, fun h0_ _ => absurd ((hoff 13 (by kernel_rfl)).symm.trans h0_) (by decide), z_HO308, fun h0_ => absurd ((hoff 18 (by kernel_rfl)).symm.trans h0_) (by decide), fun h0_ => absurd ((hoff 19 (by kernel_rfl)).symm.trans h0_) (by decide), fun h0_ => absurd ((hoff 20 (by kernel_rfl)).symm.trans h0_) (by decide)⟩
   refine steps_cons ?_ ?_
   ·rintro b a w' ⟨v295, v298, v301, v304, v307, v310, v313, m20_, ha, Q_BK289, Q_HB, Q_HO296, Q_HO299, Q_HO302, Q_HO305, Q_HO308, Q_HO311, Q_HO314, Q_X20_⟩ hb_ hon hoff
    refine ⟨_, rfl, fun K hK => ?_⟩
    have e17 : a.tmps[17]? = some (.pointer (some ⟨gb289, 2, none⟩)) := by rw [ha]; exact (putSel_off rfl).trans rfl
    replace ha := YL ha
    have BK289 := YL Q_BK289; have HB := YL Q_HB
    have hc0_ : w'.cell? ⟨gb289, 0, none⟩ = some (.bool false) := (YI BK289.out 0).trans rfl
    have hc1_ : w'.cell? ⟨gb289, 1, none⟩ = some (.int .i64 a0_1) := (YI BK289.out 1).trans rfl
    have hc2_ : w'.cell? ⟨gb289, 2, none⟩ = some (.int .i64 a0_2) := (YI BK289.out 2).trans rfl
    have hc3_ : w'.cell? ⟨gb289, 3, none⟩ = some (.int .i64 a0_3) := (YI BK289.out 3).trans rfl
    have hc4_ : w'.cell? ⟨gb289, 4, none⟩ = some (.int .i64 a0_4) := (YI BK289.out 4).trans rfl
    have hc5_ : w'.cell? ⟨gb289, 5, none⟩ = some (.int .i64 a0_5) := (YI BK289.out 5).trans rfl
    refine value_ (w1 := w') (v := .int .i64 a0_2) (by rfl) rfl ?_ ?_
    ·go_simp
     (try simp only [i64_w])
     try rfl
    refine hK.out _ _ ⟨v295, v298, v301, v304, v307, v310, v313, m20_, (by rw [ha.out]; exact putSel_upk 3 hb_ rfl rfl rfl), Q_BK289, Q_HB, Q_HO296, Q_HO299, fun h0_ _ => absurd ((hoff 10 (by kernel_rfl)).symm.trans h0_) (by decide), Q_HO305, Q_HO308, fun h0_ => absurd ((hoff 18 (by kernel_rfl)).symm.trans h0_) (by decide), fun h0_ => absurd ((hoff 19 (by kernel_rfl)).symm.trans h0_) (by decide), fun h0_ => absurd ((hoff 20 (by kernel_rfl)).symm.trans h0_) (by decide)⟩
   refine steps_cons ?_ ?_
   ·rintro b a w' ⟨v295, v298, v301, v304, v307, v310, v313, m20_, ha, Q_BK289, Q_HB, Q_HO296, Q_HO299, Q_HO302, Q_HO305, Q_HO308, Q_HO311, Q_HO314, Q_X20_⟩ hb_ hon hoff
    refine ⟨_, rfl, fun K hK => ?_⟩
    have e18 : a.tmps[18]? = some (.int .i64 a0_2) := by rw [ha]; exact putSel_on (e := (5, 18, .int .i64 a0_2)) 3 rfl rfl (hon 5 (by kernel_rfl)) rfl
    replace ha := YL ha
    have BK289 := YL Q_BK289; have HB := YL Q_HB
    refine value_ (w1 := w') (v := .int .u8 ((a0_2) % 256)) (by rfl) rfl ?_ ?_
    ·go_simp
     (try simp only [i64_w])
     try rfl
    refine hK.out _ _ ⟨v295, v298, v301, v304, v307, v310, v313, m20_, (by rw [ha.out]; exact putSel_upk 4 hb_ rfl rfl rfl), Q_BK289, Q_HB, Q_HO296, Q_HO299, fun h0_ _ => absurd ((hoff 10 (by kernel_rfl)).symm.trans h0_) (by decide), Q_HO305, Q_HO308, fun h0_ => absurd ((hoff 18 (by kernel_rfl)).symm.trans h0_) (by decide), fun h0_ => absurd ((hoff 19 (by kernel_rfl)).symm.trans h0_) (by decide), fun h0_ => absurd ((hoff 20 (by kernel_rfl)).symm.trans h0_) (by decide)⟩
   refine steps_cons ?_ ?_
   ·rintro b a w' ⟨v295, v298, v301, v304, v307, v310, v313, m20_, ha, Q_BK289, Q_HB, Q_HO296, Q_HO299, Q_HO302, Q_HO305, Q_HO308, Q_HO311, Q_HO314, Q_X20_⟩ hb_ hon hoff
    refine ⟨_, rfl, fun K hK => ?_⟩
    have e20 : a.tmps[20]? = some (.pointer (some ⟨gb289, 3, none⟩)) := by rw [ha]; exact (putSel_off rfl).trans rfl
    replace ha := YL ha
    have BK289 := YL Q_BK289; have HB := YL Q_HB
    have hc0_ : w'.cell? ⟨gb289, 0, none⟩ = some (.bool false) := (YI BK289.out 0).trans rfl
    have hc1_ : w'.cell? ⟨gb289, 1, none⟩ = some (.int .i64 a0_1) := (YI BK289.out 1).trans rfl
    have hc2_ : w'.cell? ⟨gb289, 2, none⟩ = some (.int .i64 a0_2) := (YI BK289.out 2).trans rfl
    have hc3_ : w'.cell? ⟨gb289, 3, none⟩ = some (.int .i64 a0_3) := (YI BK289.out 3).trans rfl
    have hc4_ : w'.cell? ⟨gb289, 4, none⟩ = some (.int .i64 a0_4) := (YI BK289.out 4).trans rfl
    have hc5_ : w'.cell? ⟨gb289, 5, none⟩ = some (.int .i64 a0_5) := (YI BK289.out 5).trans rfl
    refine value_ (w1 := w') (v := .int .i64 a0_3) (by rfl) rfl ?_ ?_
    ·go_simp
     (try simp only [i64_w])
     try rfl
    refine hK.out _ _ ⟨v295, v298, v301, v304, v307, v310, v313, m20_, (by rw [ha.out]; exact putSel_upk 5 hb_ rfl rfl rfl), Q_BK289, Q_HB, Q_HO296, Q_HO299, fun h0_ _ => absurd ((hoff 10 (by kernel_rfl)).symm.trans h0_) (by decide), Q_HO305, Q_HO308, fun h0_ => absurd ((hoff 18 (by kernel_rfl)).symm.trans h0_) (by decide), fun h0_ => absurd ((hoff 19 (by kernel_rfl)).symm.trans h0_) (by decide), fun h0_ => absurd ((hoff 20 (by kernel_rfl)).symm.trans h0_) (by decide)⟩
   refine steps_cons ?_ ?_
   ·rintro b a w' ⟨v295, v298, v301, v304, v307, v310, v313, m20_, ha, Q_BK289, Q_HB, Q_HO296, Q_HO299, Q_HO302, Q_HO305, Q_HO308, Q_HO311, Q_HO314, Q_X20_⟩ hb_ hon hoff
    refine ⟨_, rfl, fun K hK => ?_⟩
    have e21 : a.tmps[21]? = some (.int .i64 a0_3) := by rw [ha]; exact putSel_on (e := (8, 21, .int .i64 a0_3)) 5 rfl rfl (hon 8 (by kernel_rfl)) rfl
    replace ha := YL ha
    have BK289 := YL Q_BK289; have HB := YL Q_HB
    refine value_ (w1 := w') (v := .int .u8 ((a0_3) % 256)) (by rfl) rfl ?_ ?_
    ·go_simp
     (try simp only [i64_w])
     try rfl
    refine hK.out _ _ ⟨v295, v298, v301, v304, v307, v310, v313, m20_, (by rw [ha.out]; exact putSel_upk 6 hb_ rfl rfl rfl), Q_BK289, Q_HB, Q_HO296, Q_HO299, fun h0_ _ => absurd ((hoff 10 (by kernel_rfl)).symm.trans h0_) (by decide), Q_HO305, Q_HO308, fun h0_ => absurd ((hoff 18 (by kernel_rfl)).symm.trans h0_) (by decide), fun h0_ => absurd ((hoff 19 (by kernel_rfl)).symm.trans h0_) (by decide), fun h0_ => absurd ((hoff 20 (by kernel_rfl)).symm.trans h0_) (by decide)⟩
   refine steps_cons ?_ ?_
   ·rintro b a w' ⟨v295, v298, v301, v304, v307, v310, v313, m20_, ha, Q_BK289, Q_HB, Q_HO296, Q_HO299, Q_HO302, Q_HO305, Q_HO308, Q_HO311, Q_HO314, Q_X20_⟩ hb_ hon hoff
    refine ⟨_, rfl, fun K hK => ?_⟩
    have e19 : a.tmps[19]? = some (.int .u8 ((a0_2) % 256)) := by rw [ha]; exact putSel_on (e := (6, 19, .int .u8 ((a0_2) % 256))) 4 rfl rfl (hon 6 (by kernel_rfl)) rfl
    have e22 : a.tmps[22]? = some (.int .u8 ((a0_3) % 256)) := by rw [ha]; exact putSel_on (e := (9, 22, .int .u8 ((a0_3) % 256))) 6 rfl rfl (hon 9 (by kernel_rfl)) rfl
    replace ha := YL ha
    have BK289 := YL Q_BK289; have HB := YL Q_HB
    refine Kd.R_lit_step (Kd.int .u8) _ 5 ?hg (N := 23) ?hd (xs := ([(a0_2) % 256, (a0_3) % 256] : List Int)) (inner := [.int .u8 ((a0_2) % 256), .int .u8 ((a0_3) % 256)]) (ok := fun _ => True) (okp := fun _ => True) ?hr ?hp (fun _ hk => hk) trivial (Below.refl _ _) (Nat.le_refl _) (by simp) ?_; (case hd => rfl); (case hg => rfl); (case hr => first | (go_simp; done) | (go_simp; rfl)); (case hp => exact (Reps.one (show Kd.M (Kd.int .u8) _ _ _ ((a0_2) % 256) [.int .u8 ((a0_2) % 256)] from rfl) (Reps.one (show Kd.M (Kd.int .u8) _ _ _ ((a0_3) % 256) [.int .u8 ((a0_3) % 256)] from rfl) (Reps.none _ _))))
    intro v301 w19 ho20 hb hg_ hnew_
    clear hg_ hnew_
    (first | rw [← Ny300.out] at ho20 | (simp only [Int.reduceToNat] at ho20; rw [← Ny300.out] at ho20))
    have n0_ := YL (Kd.R_lower ho20 (YE (upB HB)))
    have n1_ := YL (YK (g := gb289) (o := .cells #[.bool false, .int .i64 a0_1, .int .i64 a0_2, .int .i64 a0_3, .int .i64 a0_4, .int .i64 a0_5] 30 (0, 0)) (upK BK289) hb)
    have n2_ := YL (YD (upB HB) hb)
    have z_HO296 := fun (h0_ : b 0 = true) (h1_ : b 18 = false) => (show Kd.R (Kd.int .u8) 5 w19 w.heap.size (fun _ => True) v295 y294 from by first | exact (Kd.R_elder' (by (with_reducible repeat (first | apply YQ | apply YR | apply YS)); exact (Q_HO296 h0_ h1_)) (Kd.R_base ho20) hb) | exact Kd.R_mono (Kd.R_elder' (by (with_reducible repeat (first | apply YQ | apply YR | apply YS)); exact (Q_HO296 h0_ h1_)) (Kd.R_base ho20) hb) (fun _ h_ => by first | trivial | exact h_ | exact h_.1))
    have z_HO299 := fun (h0_ : b 3 = true) (h1_ : b 18 = false) => (show Kd.R (Kd.int .u8) 5 w19 w.heap.size (fun _ => True) v298 t297 from by first | exact (Kd.R_elder' (by (with_reducible repeat (first | apply YQ | apply YR | apply YS)); exact (Q_HO299 h0_ h1_)) (Kd.R_base ho20) hb) | exact Kd.R_mono (Kd.R_elder' (by (with_reducible repeat (first | apply YQ | apply YR | apply YS)); exact (Q_HO299 h0_ h1_)) (Kd.R_base ho20) hb) (fun _ h_ => by first | trivial | exact h_ | exact h_.1))
    have z_HO305 := fun (h0_ : b 13 = true) (h1_ : b 18 = false) => (show Kd.R (Kd.int .u8) 5 w19 w.heap.size (fun _ => True) v304 t303 from by first | exact (Kd.R_elder' (by (with_reducible repeat (first | apply YQ | apply YR | apply YS)); exact (Q_HO305 h0_ h1_)) (Kd.R_base ho20) hb) | exact Kd.R_mono (Kd.R_elder' (by (with_reducible repeat (first | apply YQ | apply YR | apply YS)); exact (Q_HO305 h0_ h1_)) (Kd.R_base ho20) hb) (fun _ h_ => by first | trivial | exact h_ | exact h_.1))
    have z_HO308 := fun (h0_ : b 17 = true) (h1_ : b 18 = false) => (show Kd.R (Kd.int .u8) 5 w19 w.heap.size (fun _ => True) v307 y306 from by first | exact (Kd.R_elder' (by (with_reducible repeat (first | apply YQ | apply YR | apply YS)); exact (Q_HO308 h0_ h1_)) (Kd.R_base ho20) hb) | exact Kd.R_mono (Kd.R_elder' (by (with_reducible repeat (first | apply YQ | apply YR | apply YS)); exact (Q_HO308 h0_ h1_)) (Kd.R_base ho20) hb) (fun _ h_ => by first | trivial | exact h_ | exact h_.1))
    clear BK289; clear HB; have HO302 := n0_; have BK289 := n1_; have HB := n2_; clear n0_ n1_ n2_; clear hb ho20
    refine hK.out _ _ ⟨v295, v298, v301, v304, v307, v310, v313, m20_, (by rw [ha.out]; exact putSel_upk 7 hb_ rfl rfl rfl), (upK BK289), (upB HB), z_HO296, z_HO299, fun _ _ => (upR HO302), z_HO305, z_HO308, fun h0_ => absurd ((hoff 18 (by kernel_rfl)).symm.trans h0_) (by decide), fun h0_ => absurd ((hoff 19 (by kernel_rfl)).symm.trans h0_) (by decide), fun h0_ => absurd ((hoff 20 (by kernel_rfl)).symm.trans h0_) (by decide)⟩
   refine steps_cons ?_ ?_
   ·rintro b a w' ⟨v295, v298, v301, v304, v307, v310, v313, m20_, ha, Q_BK289, Q_HB, Q_HO296, Q_HO299, Q_HO302, Q_HO305, Q_HO308, Q_HO311, Q_HO314, Q_X20_⟩ hb_ hon hoff
    refine ⟨_, rfl, fun K hK => ?_⟩
    have e24 : a.tmps[24]? = some (.pointer (some ⟨gb289, 4, none⟩)) := by rw [ha]; exact (putSel_off rfl).trans rfl
    replace ha := YL ha
    have BK289 := YL Q_BK289; have HB := YL Q_HB
    have hc0_ : w'.cell? ⟨gb289, 0, none⟩ = some (.bool false) := (YI BK289.out 0).trans rfl
    have hc1_ : w'.cell? ⟨gb289, 1, none⟩ = some (.int .i64 a0_1) := (YI BK289.out 1).trans rfl
    have hc2_ : w'.cell? ⟨gb289, 2, none⟩ = some (.int .i64 a0_2) := (YI BK289.out 2).trans rfl
    have hc3_ : w'.cell? ⟨gb289, 3, none⟩ = some (.int .i64 a0_3) := (YI BK289.out 3).trans rfl
    have hc4_ : w'.cell? ⟨gb289, 4, none⟩ = some (.int .i64 a0_4) := (YI BK289.out 4).trans rfl
    have hc5_ : w'.cell? ⟨gb289, 5, none⟩ = some (.int .i64 a0_5) := (YI BK289.out 5).trans rfl
    refine value_ (w1 := w') (v := .int .i64 a0_4) (by rfl) rfl ?_ ?_
    ·go_simp
     (try simp only [i64_w])
     try rfl
    refine hK.out _ _ ⟨v295, v298, v301, v304, v307, v310, v313, m20_, (by rw [ha.out]; exact putSel_upk 8 hb_ rfl rfl rfl), Q_BK289, Q_HB, Q_HO296, Q_HO299, Q_HO302, fun h0_ _ => absurd ((hoff 13 (by kernel_rfl)).symm.trans h0_) (by decide), Q_HO308, fun h0_ => absurd ((hoff 18 (by kernel_rfl)).symm.trans h0_) (by decide), fun h0_ => absurd ((hoff 19 (by kernel_rfl)).symm.trans h0_) (by decide), fun h0_ => absurd ((hoff 20 (by kernel_rfl)).symm.trans h0_) (by decide)⟩
   refine steps_cons ?_ ?_
   ·rintro b a w' ⟨v295, v298, v301, v304, v307, v310, v313, m20_, ha, Q_BK289, Q_HB, Q_HO296, Q_HO299, Q_HO302, Q_HO305, Q_HO308, Q_HO311, Q_HO314, Q_X20_⟩ hb_ hon hoff
    refine ⟨_, rfl, fun K hK => ?_⟩
    have e25 : a.tmps[25]? = some (.int .i64 a0_4) := by rw [ha]; exact putSel_on (e := (12, 25, .int .i64 a0_4)) 8 rfl rfl (hon 12 (by kernel_rfl)) rfl
    replace ha := YL ha
    have BK289 := YL Q_BK289; have HB := YL Q_HB
    have HO299 := YL (Q_HO299 (hon 3 (by kernel_rfl)) (hoff 18 (by kernel_rfl)))
    refine goes_ Try.func72 (by kernel_rfl) rfl #[.int .i64 a0_4] (by rfl) rfl rfl (by first | (simp only [YP, List.map_cons, List.map_nil, Act.eval, Array.getD_eq_getD_getElem?, Option.getD_some, e25]; done) | (simp only [YP, List.map_cons, List.map_nil, Act.eval, Array.getD_eq_getD_getElem?, Option.getD_some, e25]; rfl)) ?_
    with_reducible refine (thalwegref01_Int.calls k a0_4 t303 _ A12.out).mono ?_
    rintro e w21 ⟨v304, rfl, ho0, hb⟩
    refine ⟨_, rfl, ?_⟩
    have n0_ := YL (Kd.R_elder' (upR HO299) (Kd.R_base ho0) hb)
    have n1_ := YL (Kd.R_lower (Kd.R_new' ho0 (Kd.R_lt (upR HO299))) (YE (upB HB)))
    have n2_ := YL (YK (g := gb289) (o := .cells #[.bool false, .int .i64 a0_1, .int .i64 a0_2, .int .i64 a0_3, .int .i64 a0_4, .int .i64 a0_5] 30 (0, 0)) (upK BK289) hb)
    have n3_ := YL (YD (upB HB) hb)
    have z_HO296 := fun (h0_ : b 0 = true) (h1_ : b 18 = false) => (show Kd.R (Kd.int .u8) 5 w21 w.heap.size (fun _ => True) v295 y294 from by first | exact (Kd.R_elder' (by (with_reducible repeat (first | apply YQ | apply YR | apply YS)); exact (Q_HO296 h0_ h1_)) (Kd.R_base ho0) hb) | exact Kd.R_mono (Kd.R_elder' (by (with_reducible repeat (first | apply YQ | apply YR | apply YS)); exact (Q_HO296 h0_ h1_)) (Kd.R_base ho0) hb) (fun _ h_ => by first | trivial | exact h_ | exact h_.1))
    have z_HO302 := fun (h0_ : b 10 = true) (h1_ : b 18 = false) => (show Kd.R (Kd.int .u8) 5 w21 w.heap.size (fun _ => True) v301 y300 from by first | exact (Kd.R_elder' (by (with_reducible repeat (first | apply YQ | apply YR | apply YS)); exact (Q_HO302 h0_ h1_)) (Kd.R_base ho0) hb) | exact Kd.R_mono (Kd.R_elder' (by (with_reducible repeat (first | apply YQ | apply YR | apply YS)); exact (Q_HO302 h0_ h1_)) (Kd.R_base ho0) hb) (fun _ h_ => by first | trivial | exact h_ | exact h_.1))
    have z_HO308 := fun (h0_ : b 17 = true) (h1_ : b 18 = false) => (show Kd.R (Kd.int .u8) 5 w21 w.heap.size (fun _ => True) v307 y306 from by first | exact (Kd.R_elder' (by (with_reducible repeat (first | apply YQ | apply YR | apply YS)); exact (Q_HO308 h0_ h1_)) (Kd.R_base ho0) hb) | exact Kd.R_mono (Kd.R_elder' (by (with_reducible repeat (first | apply YQ | apply YR | apply YS)); exact (Q_HO308 h0_ h1_)) (Kd.R_base ho0) hb) (fun _ h_ => by first | trivial | exact h_ | exact h_.1))
    clear HO299; clear BK289; clear HB; have HO299 := n0_; have HO305 := n1_; have BK289 := n2_; have HB := n3_; clear n0_ n1_ n2_ n3_; (try clear hb); (try clear hb2); (try clear hk); (try clear hi); (try clear ho0)
    refine hK.out _ _ ⟨v295, v298, v301, v304, v307, v310, v313, m20_, (by rw [ha.out]; exact putSel_upk 9 hb_ rfl rfl rfl), (upK BK289), (upB HB), z_HO296, fun _ _ => (by (with_reducible repeat (first | apply YQ | apply YR | apply YS)); exact Kd.R_mono HO299.out (fun _ hk => by first | exact hk.2 | exact trivial | (simp [hk]; done) | simp_all)), z_HO302, fun _ _ => (by (with_reducible repeat (first | apply YQ | apply YR | apply YS)); exact Kd.R_mono HO305.out (fun _ hk => by first | exact hk.2 | exact trivial | (simp [hk]; done) | simp_all)), z_HO308, fun h0_ => absurd ((hoff 18 (by kernel_rfl)).symm.trans h0_) (by decide), fun h0_ => absurd ((hoff 19 (by kernel_rfl)).symm.trans h0_) (by decide), fun h0_ => absurd ((hoff 20 (by kernel_rfl)).symm.trans h0_) (by decide)⟩
   refine steps_cons ?_ ?_
   ·rintro b a w' ⟨v295, v298, v301, v304, v307, v310, v313, m20_, ha, Q_BK289, Q_HB, Q_HO296, Q_HO299, Q_HO302, Q_HO305, Q_HO308, Q_HO311, Q_HO314, Q_X20_⟩ hb_ hon hoff
    refine ⟨_, rfl, fun K hK => ?_⟩
    have e27 : a.tmps[27]? = some (.pointer (some ⟨gb289, 5, none⟩)) := by rw [ha]; exact (putSel_off rfl).trans rfl
    replace ha := YL ha
    have BK289 := YL Q_BK289; have HB := YL Q_HB
    have hc0_ : w'.cell? ⟨gb289, 0, none⟩ = some (.bool false) := (YI BK289.out 0).trans rfl
    have hc1_ : w'.cell? ⟨gb289, 1, none⟩ = some (.int .i64 a0_1) := (YI BK289.out 1).trans rfl
    have hc2_ : w'.cell? ⟨gb289, 2, none⟩ = some (.int .i64 a0_2) := (YI BK289.out 2).trans rfl
    have hc3_ : w'.cell? ⟨gb289, 3, none⟩ = some (.int .i64 a0_3) := (YI BK289.out 3).trans rfl
    have hc4_ : w'.cell? ⟨gb289, 4, none⟩ = some (.int .i64 a0_4) := (YI BK289.out 4).trans rfl
    have hc5_ : w'.cell? ⟨gb289, 5, none⟩ = some (.int .i64 a0_5) := (YI BK289.out 5).trans rfl
    refine value_ (w1 := w') (v := .int .i64 a0_5) (by rfl) rfl ?_ ?_
    ·go_simp
     (try simp only [i64_w])
     try rfl
    refine hK.out _ _ ⟨v295, v298, v301, v304, v307, v310, v313, m20_, (by rw [ha.out]; exact putSel_upk 10 hb_ rfl rfl rfl), Q_BK289, Q_HB, Q_HO296, Q_HO299, Q_HO302, Q_HO305, fun h0_ _ => absurd ((hoff 17 (by kernel_rfl)).symm.trans h0_) (by decide), fun h0_ => absurd ((hoff 18 (by kernel_rfl)).symm.trans h0_) (by decide), fun h0_ => absurd ((hoff 19 (by kernel_rfl)).symm.trans h0_) (by decide), fun h0_ => absurd ((hoff 20 (by kernel_rfl)).symm.trans h0_) (by decide)⟩
   refine steps_cons ?_ ?_
   ·rintro b a w' ⟨v295, v298, v301, v304, v307, v310, v313, m20_, ha, Q_BK289, Q_HB, Q_HO296, Q_HO299, Q_HO302, Q_HO305, Q_HO308, Q_HO311, Q_HO314, Q_X20_⟩ hb_ hon hoff
    refine ⟨_, rfl, fun K hK => ?_⟩
    have e28 : a.tmps[28]? = some (.int .i64 a0_5) := by rw [ha]; exact putSel_on (e := (15, 28, .int .i64 a0_5)) 10 rfl rfl (hon 15 (by kernel_rfl)) rfl
    replace ha := YL ha
    have BK289 := YL Q_BK289; have HB := YL Q_HB
    refine value_ (w1 := w') (v := .int .u8 ((a0_5) % 256)) (by rfl) rfl ?_ ?_
    ·go_simp
     (try simp only [i64_w])
     try rfl
    refine hK.out _ _ ⟨v295, v298, v301, v304, v307, v310, v313, m20_, (by rw [ha.out]; exact putSel_upk 11 hb_ rfl rfl rfl), Q_BK289, Q_HB, Q_HO296, Q_HO299, Q_HO302, Q_HO305, fun h0_ _ => absurd ((hoff 17 (by kernel_rfl)).symm.trans h0_) (by decide), fun h0_ => absurd ((hoff 18 (by kernel_rfl)).symm.trans h0_) (by decide), fun h0_ => absurd ((hoff 19 (by kernel_rfl)).symm.trans h0_) (by decide), fun h0_ => absurd ((hoff 20 (by kernel_rfl)).symm.trans h0_) (by decide)⟩
   refine steps_cons ?_ ?_
   ·rintro b a w' ⟨v295, v298, v301, v304, v307, v310, v313, m20_, ha, Q_BK289, Q_HB, Q_HO296, Q_HO299, Q_HO302, Q_HO305, Q_HO308, Q_HO311, Q_HO314, Q_X20_⟩ hb_ hon hoff
    refine ⟨_, rfl, fun K hK => ?_⟩
    have e29 : a.tmps[29]? = some (.int .u8 ((a0_5) % 256)) := by rw [ha]; exact putSel_on (e := (16, 29, .int .u8 ((a0_5) % 256))) 11 rfl rfl (hon 16 (by kernel_rfl)) rfl
    replace ha := YL ha
    have BK289 := YL Q_BK289; have HB := YL Q_HB
    refine Kd.R_lit_step (Kd.int .u8) _ 5 ?hg (N := 30) ?hd (xs := ([(a0_5) % 256] : List Int)) (inner := [.int .u8 ((a0_5) % 256)]) (ok := fun _ => True) (okp := fun _ => True) ?hr ?hp (fun _ hk => hk) trivial (Below.refl _ _) (Nat.le_refl _) (by simp) ?_; (case hd => rfl); (case hg => rfl); (case hr => first | (go_simp; done) | (go_simp; rfl)); (case hp => exact (Reps.one (show Kd.M (Kd.int .u8) _ _ _ ((a0_5) % 256) [.int .u8 ((a0_5) % 256)] from rfl) (Reps.none _ _)))
    intro v307 w19 ho20 hb hg_ hnew_
    clear hg_ hnew_
    (first | rw [← Ny306.out] at ho20 | (simp only [Int.reduceToNat] at ho20; rw [← Ny306.out] at ho20))
    have n0_ := YL (Kd.R_lower ho20 (YE (upB HB)))
    have n1_ := YL (YK (g := gb289) (o := .cells #[.bool false, .int .i64 a0_1, .int .i64 a0_2, .int .i64 a0_3, .int .i64 a0_4, .int .i64 a0_5] 30 (0, 0)) (upK BK289) hb)
    have n2_ := YL (YD (upB HB) hb)
    have z_HO296 := fun (h0_ : b 0 = true) (h1_ : b 18 = false) => (show Kd.R (Kd.int .u8) 5 w19 w.heap.size (fun _ => True) v295 y294 from by first | exact (Kd.R_elder' (by (with_reducible repeat (first | apply YQ | apply YR | apply YS)); exact (Q_HO296 h0_ h1_)) (Kd.R_base ho20) hb) | exact Kd.R_mono (Kd.R_elder' (by (with_reducible repeat (first | apply YQ | apply YR | apply YS)); exact (Q_HO296 h0_ h1_)) (Kd.R_base ho20) hb) (fun _ h_ => by first | trivial | exact h_ | exact h_.1))
    have z_HO299 := fun (h0_ : b 3 = true) (h1_ : b 18 = false) => (show Kd.R (Kd.int .u8) 5 w19 w.heap.size (fun _ => True) v298 t297 from by first | exact (Kd.R_elder' (by (with_reducible repeat (first | apply YQ | apply YR | apply YS)); exact (Q_HO299 h0_ h1_)) (Kd.R_base ho20) hb) | exact Kd.R_mono (Kd.R_elder' (by (with_reducible repeat (first | apply YQ | apply YR | apply YS)); exact (Q_HO299 h0_ h1_)) (Kd.R_base ho20) hb) (fun _ h_ => by first | trivial | exact h_ | exact h_.1))
    have z_HO302 := fun (h0_ : b 10 = true) (h1_ : b 18 = false) => (show Kd.R (Kd.int .u8) 5 w19 w.heap.size (fun _ => True) v301 y300 from by first | exact (Kd.R_elder' (by (with_reducible repeat (first | apply YQ | apply YR | apply YS)); exact (Q_HO302 h0_ h1_)) (Kd.R_base ho20) hb) | exact Kd.R_mono (Kd.R_elder' (by (with_reducible repeat (first | apply YQ | apply YR | apply YS)); exact (Q_HO302 h0_ h1_)) (Kd.R_base ho20) hb) (fun _ h_ => by first | trivial | exact h_ | exact h_.1))
    have z_HO305 := fun (h0_ : b 13 = true) (h1_ : b 18 = false) => (show Kd.R (Kd.int .u8) 5 w19 w.heap.size (fun _ => True) v304 t303 from by first | exact (Kd.R_elder' (by (with_reducible repeat (first | apply YQ | apply YR | apply YS)); exact (Q_HO305 h0_ h1_)) (Kd.R_base ho20) hb) | exact Kd.R_mono (Kd.R_elder' (by (with_reducible repeat (first | apply YQ | apply YR | apply YS)); exact (Q_HO305 h0_ h1_)) (Kd.R_base ho20) hb) (fun _ h_ => by first | trivial | exact h_ | exact h_.1))
    clear BK289; clear HB; have HO308 := n0_; have BK289 := n1_; have HB := n2_; clear n0_ n1_ n2_; clear hb ho20
    refine hK.out _ _ ⟨v295, v298, v301, v304, v307, v310, v313, m20_, (by rw [ha.out]; exact putSel_upk 12 hb_ rfl rfl rfl), (upK BK289), (upB HB), z_HO296, z_HO299, z_HO302, z_HO305, fun _ _ => (upR HO308), fun h0_ => absurd ((hoff 18 (by kernel_rfl)).symm.trans h0_) (by decide), fun h0_ => absurd ((hoff 19 (by kernel_rfl)).symm.trans h0_) (by decide), fun h0_ => absurd ((hoff 20 (by kernel_rfl)).symm.trans h0_) (by decide)⟩
   refine steps_cons ?_ ?_
   ·rintro b a w' ⟨v295, v298, v301, v304, v307, v310, v313, m20_, ha, Q_BK289, Q_HB, Q_HO296, Q_HO299, Q_HO302, Q_HO305, Q_HO308, Q_HO311, Q_HO314, Q_X20_⟩ hb_ hon hoff
    refine ⟨_, rfl, fun K hK => ?_⟩
    have e13 : a.tmps[13]? = some (v295) := by rw [ha]; exact putSel_on (e := (0, 13, v295)) 0 rfl rfl (hon 0 (by kernel_rfl)) rfl
    have e16 : a.tmps[16]? = some (v298) := by rw [ha]; exact putSel_on (e := (3, 16, v298)) 2 rfl rfl (hon 3 (by kernel_rfl)) rfl
    have e23 : a.tmps[23]? = some (v301) := by rw [ha]; exact putSel_on (e := (10, 23, v301)) 7 rfl rfl (hon 10 (by kernel_rfl)) rfl
    have e26 : a.tmps[26]? = some (v304) := by rw [ha]; exact putSel_on (e := (13, 26, v304)) 9 rfl rfl (hon 13 (by kernel_rfl)) rfl
    have e30 : a.tmps[30]? = some (v307) := by rw [ha]; exact putSel_on (e := (17, 30, v307)) 12 rfl rfl (hon 17 (by kernel_rfl)) rfl
    replace ha := YL ha
    have BK289 := YL Q_BK289; have HB := YL Q_HB
    have HO296 := YL (Q_HO296 (hon 0 (by kernel_rfl)) hb_)
    have HO299 := YL (Q_HO299 (hon 3 (by kernel_rfl)) hb_)
    have HO302 := YL (Q_HO302 (hon 10 (by kernel_rfl)) hb_)
    have HO305 := YL (Q_HO305 (hon 13 (by kernel_rfl)) hb_)
    have HO308 := YL (Q_HO308 (hon 17 (by kernel_rfl)) hb_)
    obtain ⟨Ao28, co28, eo28⟩ := Kd.R_slice HO296.out
    (first | subst eo28 | (injection eo28 with f1_ f2_ f3_; have f4_ := f1_.symm; have f5_ := f3_.symm; clear f1_ f2_ f3_; subst f4_; subst f5_))
    obtain ⟨Ao29, co29, eo29⟩ := Kd.R_slice HO299.out
    (first | subst eo29 | (injection eo29 with f1_ f2_ f3_; have f4_ := f1_.symm; have f5_ := f3_.symm; clear f1_ f2_ f3_; subst f4_; subst f5_))
    obtain ⟨Ao30, co30, eo30⟩ := Kd.R_slice HO302.out
    (first | subst eo30 | (injection eo30 with f1_ f2_ f3_; have f4_ := f1_.symm; have f5_ := f3_.symm; clear f1_ f2_ f3_; subst f4_; subst f5_))
    obtain ⟨Ao31, co31, eo31⟩ := Kd.R_slice HO305.out
    (first | subst eo31 | (injection eo31 with f1_ f2_ f3_; have f4_ := f1_.symm; have f5_ := f3_.symm; clear f1_ f2_ f3_; subst f4_; subst f5_))
    obtain ⟨Ao32, co32, eo32⟩ := Kd.R_slice HO308.out
    (first | subst eo32 | (injection eo32 with f1_ f2_ f3_; have f4_ := f1_.symm; have f5_ := f3_.symm; clear f1_ f2_ f3_; subst f4_; subst f5_))
    refine Kd.N_lit_step (Kd.slice 5 (Kd.int .u8)) _ 107 ?hg (N' := 31) ?hd (xs := ([y294, t297, y300, t303, y306] : List (List Int))) (inner := [.slice Ao28 y294.length co28, .slice Ao29 t297.length co29, .slice Ao30 y300.length co30, .slice Ao31 t303.length co31, .slice Ao32 y306.length co32]) (ok := (fun k_ => k_ ≠ gb289)) (okp := (fun k_ => k_ ≠ gb289)) ?hr ?hp (fun _ hk => hk) ((show ∀ k_, w'.heap.size ≤ k_ → (fun k_ => k_ ≠ gb289) k_ from fun k_ hk => Kd.freshB (g := gb289) (o := .cells #[.bool false, .int .i64 a0_1, .int .i64 a0_2, .int .i64 a0_3, .int .i64 a0_4, .int .i64 a0_5] 30 (0, 0)) (upK BK289) k_ hk) _ (Nat.le_refl _)) (Below.refl _ _) (Nat.le_refl _) (by simp) ?_; (case hd => rfl); (case hg => rfl); (case hr => first | (go_simp; done) | (go_simp; rfl)); (case hp => exact (Reps.one (show Kd.FK (Kd.slice 5 (Kd.int .u8)) _ _ y294 [.slice Ao28 y294.length co28] from (Kd.FK_slice_mk (Kd.R_reads' (Kd.R_mono (ok' := (fun k_ => k_ ≠ gb289)) (Kd.R_types (HO296.out) BK289.out (by decide)) (fun k_ hk => hk.2))).2.1 (Kd.R_F (Kd.R_mono (ok' := (fun k_ => k_ ≠ gb289)) (Kd.R_types (HO296.out) BK289.out (by decide)) (fun k_ hk => hk.2))))) (Reps.one (show Kd.FK (Kd.slice 5 (Kd.int .u8)) _ _ t297 [.slice Ao29 t297.length co29] from (Kd.FK_slice_mk (Kd.R_reads' (Kd.R_mono (ok' := (fun k_ => k_ ≠ gb289)) (Kd.R_types (HO299.out) BK289.out (by decide)) (fun k_ hk => hk.2))).2.1 (Kd.R_F (Kd.R_mono (ok' := (fun k_ => k_ ≠ gb289)) (Kd.R_types (HO299.out) BK289.out (by decide)) (fun k_ hk => hk.2))))) (Reps.one (show Kd.FK (Kd.slice 5 (Kd.int .u8)) _ _ y300 [.slice Ao30 y300.length co30] from (Kd.FK_slice_mk (Kd.R_reads' (Kd.R_mono (ok' := (fun k_ => k_ ≠ gb289)) (Kd.R_types (HO302.out) BK289.out (by decide)) (fun k_ hk => hk.2))).2.1 (Kd.R_F (Kd.R_mono (ok' := (fun k_ => k_ ≠ gb289)) (Kd.R_types (HO302.out) BK289.out (by decide)) (fun k_ hk => hk.2))))) (Reps.one (show Kd.FK (Kd.slice 5 (Kd.int .u8)) _ _ t303 [.slice Ao31 t303.length co31] from (Kd.FK_slice_mk (Kd.R_reads' (Kd.R_mono (ok' := (fun k_ => k_ ≠ gb289)) (Kd.R_types (HO305.out) BK289.out (by decide)) (fun k_ hk => hk.2))).2.1 (Kd.R_F (Kd.R_mono (ok' := (fun k_ => k_ ≠ gb289)) (Kd.R_types (HO305.out) BK289.out (by decide)) (fun k_ hk => hk.2))))) (Reps.one (show Kd.FK (Kd.slice 5 (Kd.int .u8)) _ _ y306 [.slice Ao32 y306.length co32] from (Kd.FK_slice_mk (Kd.R_reads' (Kd.R_mono (ok' := (fun k_ => k_ ≠ gb289)) (Kd.R_types (HO308.out) BK289.out (by decide)) (fun k_ hk => hk.2))).2.1 (Kd.R_F (Kd.R_mono (ok' := (fun k_ => k_ ≠ gb289)) (Kd.R_types (HO308.out) BK289.out (by decide)) (fun k_ hk => hk.2))))) (Reps.none _ _)))))))
    intro v310 w33 ho34 hb hg_ hnew_
    clear hg_ hnew_
    (first | rw [← Ny309.out] at ho34 | (simp only [Int.reduceToNat] at ho34; rw [← Ny309.out] at ho34))
    have n0_ := YL (Kd.N_lower ho34 (YE (upB HB)))
    have n1_ := YL (YK (g := gb289) (o := .cells #[.bool false, .int .i64 a0_1, .int .i64 a0_2, .int .i64 a0_3, .int .i64 a0_4, .int .i64 a0_5] 30 (0, 0)) (upK BK289) hb)
    have n2_ := YL (YD (upB HB) hb)
    clear BK289; clear HB; clear HO296; clear HO299; clear HO302; clear HO305; clear HO308; have HO311 := n0_; have BK289 := n1_; have HB := n2_; clear n0_ n1_ n2_; clear hb ho34
    refine hK.out _ _ ⟨.slice Ao28 y294.length co28, .slice Ao29 t297.length co29, .slice Ao30 y300.length co30, .slice Ao31 t303.length co31, .slice Ao32 y306.length co32, v310, v313, m20_, (by rw [ha.out]; exact putSel_upk 13 hb_ rfl rfl rfl), (upK BK289), (upB HB), fun _ h1_ => absurd ((up_self b 18).symm.trans h1_) (by decide), fun _ h1_ => absurd ((up_self b 18).symm.trans h1_) (by decide), fun _ h1_ => absurd ((up_self b 18).symm.trans h1_) (by decide), fun _ h1_ => absurd ((up_self b 18).symm.trans h1_) (by decide), fun _ h1_ => absurd ((up_self b 18).symm.trans h1_) (by decide), fun _ => (upN HO311), fun h0_ => absurd ((hoff 19 (by kernel_rfl)).symm.trans h0_) (by decide), fun h0_ => absurd ((hoff 20 (by kernel_rfl)).symm.trans h0_) (by decide)⟩
   refine steps_cons ?_ ?_
   ·rintro b a w' ⟨v295, v298, v301, v304, v307, v310, v313, m20_, ha, Q_BK289, Q_HB, Q_HO296, Q_HO299, Q_HO302, Q_HO305, Q_HO308, Q_HO311, Q_HO314, Q_X20_⟩ hb_ hon hoff
    refine ⟨_, rfl, fun K hK => ?_⟩
    have e31 : a.tmps[31]? = some (v310) := by rw [ha]; exact putSel_on (e := (18, 31, v310)) 13 rfl rfl (hon 18 (by kernel_rfl)) rfl
    replace ha := YL ha
    have BK289 := YL Q_BK289; have HB := YL Q_HB
    have HO311 := YL (Q_HO311 (hon 18 (by kernel_rfl)))
    obtain ⟨Ao35, co35, eo35⟩ := Kd.N_slice HO311.out
    (first | subst eo35 | (injection eo35 with f1_ f2_ f3_; have f4_ := f1_.symm; have f5_ := f3_.symm; clear f1_ f2_ f3_; subst f4_; subst f5_))
    refine goes_ Try.func74 (by kernel_rfl) rfl #[.slice Ao35 y309.length co35] (by rfl) rfl rfl (by first | (simp only [YP, List.map_cons, List.map_nil, Act.eval, Array.getD_eq_getD_getElem?, Option.getD_some, e31]; done) | (simp only [YP, List.map_cons, List.map_nil, Act.eval, Array.getD_eq_getD_getElem?, Option.getD_some, e31]; rfl)) ?_
    with_reducible refine (thalwegref01_Both.calls k _ _ y309 t312 _ ?side1 ?side2 A13.out).mono ?_
    (case side1 => repeat (first | exact (Kd.N_reads' HO311.out).2.2 | (with_reducible refine Kd.C_alloc ?_ _) | (with_reducible refine Kd.C_drewN ?_ _) | (with_reducible refine Kd.C_drew ?_)))
    (case side2 => exact (Kd.N_reads' HO311.out).2.1)
    rintro e w36 ⟨v313, rfl, ho0, hb⟩
    refine ⟨_, rfl, ?_⟩
    have n0_ := YL (Kd.N_elder' (upN HO311) (Kd.R_base ho0) hb)
    have n1_ := YL (Kd.R_lower ho0 (YE (upB HB)))
    have n2_ := YL (YK (g := gb289) (o := .cells #[.bool false, .int .i64 a0_1, .int .i64 a0_2, .int .i64 a0_3, .int .i64 a0_4, .int .i64 a0_5] 30 (0, 0)) (upK BK289) hb)
    have n3_ := YL (YD (upB HB) hb)
    clear HO311; clear BK289; clear HB; have HO311 := n0_; have HO314 := n1_; have BK289 := n2_; have HB := n3_; clear n0_ n1_ n2_ n3_; (try clear hb); (try clear hb2); (try clear hk); (try clear hi); (try clear ho0)
    refine hK.out _ _ ⟨v295, v298, v301, v304, v307, .slice Ao35 y309.length co35, v313, m20_, (by rw [ha.out]; exact putSel_upk 14 hb_ rfl rfl rfl), (upK BK289), (upB HB), fun _ h1_ => absurd ((hon 18 (by kernel_rfl)).symm.trans h1_) (by decide), fun _ h1_ => absurd ((hon 18 (by kernel_rfl)).symm.trans h1_) (by decide), fun _ h1_ => absurd ((hon 18 (by kernel_rfl)).symm.trans h1_) (by decide), fun _ h1_ => absurd ((hon 18 (by kernel_rfl)).symm.trans h1_) (by decide), fun _ h1_ => absurd ((hon 18 (by kernel_rfl)).symm.trans h1_) (by decide), fun _ => (by (with_reducible repeat (first | apply Kd.N_alloc | apply Kd.N_drewN | apply Kd.N_drew)); exact Kd.N_mono HO311.out (fun _ hk => by first | exact ⟨hk.2, hk.1⟩ | exact trivial | (simp [hk]; done) | simp_all)), fun _ => (upR HO314), fun h0_ => absurd ((hoff 20 (by kernel_rfl)).symm.trans h0_) (by decide)⟩
   refine steps_cons ?_ ?_
   ·rintro b a w' ⟨v295, v298, v301, v304, v307, v310, v313, m20_, ha, Q_BK289, Q_HB, Q_HO296, Q_HO299, Q_HO302, Q_HO305, Q_HO308, Q_HO311, Q_HO314, Q_X20_⟩ hb_ hon hoff
    refine ⟨_, rfl, fun K hK => ?_⟩
    have e32 : a.tmps[32]? = some (v313) := by rw [ha]; exact putSel_on (e := (19, 32, v313)) 14 rfl rfl (hon 19 (by kernel_rfl)) rfl
    replace ha := YL ha
    have BK289 := YL Q_BK289; have HB := YL Q_HB
    have HO311 := YL (Q_HO311 (hon 18 (by kernel_rfl)))
    have HO314 := YL (Q_HO314 (hon 19 (by kernel_rfl)))
    refine value_ (w1 := w') (v := v313) (by rfl) rfl ?_ ?_
    ·go_simp
     (try simp only [i64_w])
     try rfl
    refine hK.out _ _ ⟨v295, v298, v301, v304, v307, v310, v313, (v313), (by rw [ha.out]; exact putSel_upk 15 hb_ rfl rfl rfl), Q_BK289, Q_HB, fun _ h1_ => absurd ((hon 18 (by kernel_rfl)).symm.trans h1_) (by decide), fun _ h1_ => absurd ((hon 18 (by kernel_rfl)).symm.trans h1_) (by decide), fun _ h1_ => absurd ((hon 18 (by kernel_rfl)).symm.trans h1_) (by decide), fun _ h1_ => absurd ((hon 18 (by kernel_rfl)).symm.trans h1_) (by decide), fun _ h1_ => absurd ((hon 18 (by kernel_rfl)).symm.trans h1_) (by decide), Q_HO311, Q_HO314, fun _ => rfl⟩
   refine steps_cons ?_ ?_
   ·rintro b a w' ⟨v295, v298, v301, v304, v307, v310, v313, m20_, ha, Q_BK289, Q_HB, Q_HO296, Q_HO299, Q_HO302, Q_HO305, Q_HO308, Q_HO311, Q_HO314, Q_X20_⟩ hb_ hon hoff
    refine ⟨_, rfl, fun K hK => ?_⟩
    replace ha := YL ha
    have BK289 := YL Q_BK289; have HB := YL Q_HB
    have HO311 := YL (Q_HO311 (hon 18 (by kernel_rfl)))
    have HO314 := YL (Q_HO314 (hon 19 (by kernel_rfl)))
    refine value_ (w1 := w') (v := .int .i64 0) (by rfl) rfl ?_ ?_
    ·go_simp
     (try simp only [i64_w])
     try rfl
    refine hK.out _ _ ⟨v295, v298, v301, v304, v307, v310, v313, m20_, (by rw [ha.out]; exact putSel_upk 16 hb_ rfl rfl rfl), Q_BK289, Q_HB, fun _ h1_ => absurd ((hon 18 (by kernel_rfl)).symm.trans h1_) (by decide), fun _ h1_ => absurd ((hon 18 (by kernel_rfl)).symm.trans h1_) (by decide), fun _ h1_ => absurd ((hon 18 (by kernel_rfl)).symm.trans h1_) (by decide), fun _ h1_ => absurd ((hon 18 (by kernel_rfl)).symm.trans h1_) (by decide), fun _ h1_ => absurd ((hon 18 (by kernel_rfl)).symm.trans h1_) (by decide), Q_HO311, Q_HO314, Q_X20_⟩
   exact steps_nil
  rintro b a w36 hall ⟨v295, v298, v301, v304, v307, v310, v313, m20_, ha, Q_BK289, Q_HB, Q_HO296, Q_HO299, Q_HO302, Q_HO305, Q_HO308, Q_HO311, Q_HO314, Q_X20_⟩
  clear BK289 HB
  have hb0_ := hall 0 (by kernel_rfl)
  have hb2_ := hall 2 (by kernel_rfl)
  have hb3_ := hall 3 (by kernel_rfl)
  have hb5_ := hall 5 (by kernel_rfl)
  have hb6_ := hall 6 (by kernel_rfl)
  have hb8_ := hall 8 (by kernel_rfl)
  have hb9_ := hall 9 (by kernel_rfl)
  have hb10_ := hall 10 (by kernel_rfl)
  have hb12_ := hall 12 (by kernel_rfl)
  have hb13_ := hall 13 (by kernel_rfl)
  have hb15_ := hall 15 (by kernel_rfl)
  have hb16_ := hall 16 (by kernel_rfl)
  have hb17_ := hall 17 (by kernel_rfl)
  have hb18_ := hall 18 (by kernel_rfl)
  have hb19_ := hall 19 (by kernel_rfl)
  have hb20_ := hall 20 (by kernel_rfl)
  have hb21_ := hall 21 (by kernel_rfl)
  subst ha
  obtain rfl := Q_X20_ hb20_
  simp only [putSel, hb0_, hb2_, hb3_, hb5_, hb6_, hb8_, hb9_, hb10_, hb12_, hb13_, hb15_, hb16_, hb17_, hb18_, hb19_, hb20_, hb21_, if_true, Act.put, YM, YN, YO]
  have BK289 := YL Q_BK289; clear Q_BK289; have HB := YL Q_HB; clear Q_HB; clear Q_HO296; clear Q_HO299; clear Q_HO302; clear Q_HO305; clear Q_HO308
  have HO311 := YL (Q_HO311 hb18_)
  clear Q_HO311
  have HO314 := YL (Q_HO314 hb19_)
  clear Q_HO314; clear hall hb0_ hb2_ hb3_ hb5_ hb6_ hb8_ hb9_ hb10_ hb12_ hb13_ hb15_ hb16_ hb17_ hb18_ hb19_ hb20_ hb21_
  try go_wp2
  go_ret2
  exact ⟨_, by first | rfl | (simp [errW_none, errW_some] <;> rfl) | (simp [*, errW_none, errW_some] <;> rfl), by (with_reducible repeat (first | apply YQ | apply YR | apply YS)); exact HO314.out, by repeat (first | (with_reducible first | exact HB.out | apply YA | apply YB | apply YC | refine below_set ?_ GE289.out) | exact HB.out)⟩
 replace c3 := Bool.eq_false_iff.mpr c3
 subst c3
 have H1 : (some (([] : List Int), 1)) = some (r1, r2) := by rw [if_neg (show ¬ (false = true) by decide)] at H; exact H
 clear H
 have H := H1
 clear H1
 simp only [Option.some.injEq, Prod.mk.injEq] at H
 obtain ⟨rfl, rfl⟩ := H
 go_enter Try.func71, Try.ntmps71
 go_wp2_with (first | ((with_reducible refine gate_dst (N := 1) rfl ?_); refine box_event ?hg (N := 1) ?hd (cs := #[.bool a0_0, .int .i64 a0_1, .int .i64 a0_2, .int .i64 a0_3, .int .i64 a0_4, .int .i64 a0_5]) (t := 30) ?hr ?_; (case hd => rfl); (case hg => rfl); (case hr => first | (go_simp; done) | (go_simp; rfl)); intro gb289 hg w37 hbox hb; have n0_ := YL (YD (upB HB) hb); have n1_ := YL (hbox); have n2_ := YL ((by rw [hg]; exact (YE (upB HB)) : w.heap.size ≤ gb289)); have n3_ := YL ((by rw [hg]; exact (YE (upB HB)) : w.heap.size ≤ gb289)); clear HB; have HB := n0_; have BK289 := n1_; have GW289 := n2_; have GE289 := n3_; clear n0_ n1_ n2_ n3_; clear hb hbox hg; obtain ⟨q38_0, q38_1, q38_2, q38_3, q38_4, q38_5⟩ := cA6 BK289.out; obtain ⟨f38_0, f38_1, f38_2, f38_3, f38_4, f38_5⟩ := fA6 BK289.out) | ((with_reducible refine gate_callee (f := 59) rfl ?_); refine goesA (some 5) Try.func59 #[.agg #[.bool a0_0, .int .i64 a0_1, .int .i64 a0_2, .int .i64 a0_3, .int .i64 a0_4, .int .i64 a0_5]] ?_; (with_reducible refine (thalwegref02_Right.calls k a0_0 a0_1 a0_2 a0_3 a0_4 a0_5 false _ A2.out).mono ?_); rintro e w39 ⟨rfl, hb⟩; refine ⟨_, rfl, ?_⟩; have n0_ := YL (YK (g := gb289) (o := .cells #[.bool a0_0, .int .i64 a0_1, .int .i64 a0_2, .int .i64 a0_3, .int .i64 a0_4, .int .i64 a0_5] 30 (0, 0)) (upK BK289) hb); have n1_ := YL (YD (upB HB) hb); clear BK289; clear HB; have BK289 := n0_; have HB := n1_; clear n0_ n1_; (try clear hb); (try clear hb2); (try clear hk); (try clear hi)))
 go_ret2
 exact ⟨_, by first | rfl | (simp [errW_none, errW_some] <;> rfl) | (simp [*, errW_none, errW_some] <;> rfl), by first | exact Kd.R_nil _ _ _ _ _ | exact Kd.N_nil _ _ _ _ _ | exact Kd.V_nil _ _ _ _ _ | exact Kd.Q_nil _ _ _ _ _ | exact Kd.S_nil _ _ _ _ _, by repeat (first | (with_reducible first | exact HB.out | apply YA | apply YB | apply YC | refine below_set ?_ GE289.out) | exact HB.out)⟩
end Go.Proofs.Ytclbempnhelmoaa.P
namespace Go.Proofs.Ytclbempnhelmoaa.P
open Go.RowKit YtclbempnhelmoaaW.PrintWords YtclbempnhelmoaaW.PrintLast YtclbempnhelmoaaW.PrintMore
open YtclbempnhelmoaaW.PrintWords renaming below_alloc → YA, pw_below_drewN → YB, below_drew1 → YC, below_step → YD, blk_drewN → YE, blk_drew → YF, blk_alloc → YG, blk_cell → YH, blk_frozen → YI
open YtclbempnhelmoaaW.PrintWords.Aside0 renaming mk → YJ
attribute [local go_sem] max2_int min2_int max_two min_two max_three min_three max_four min_four
attribute [local go_sem high] eqA30 eqA32
def thalwegref04_Right.j0 : Nat → Bool → Int → Int → Bool → Int → Int → Int → Int → Int → Int → Int → Int → Int → Option (Bool)
 | 0, _, _, _, _, _, _, _, _, _, _, _, _, _ => none
 | k + 1, x12, x273000, x273001, x273002, x273003, x273004, x273005, x273006, x273007, x273008, x273009, x273010, x273011 => if x12 = true then (some false) else (if x273000 = 1 then (if (x273008 == 0 && (x273009 == 0 && (x273010 == 0))) = true then (if (!x273002 && (x273003 == 0 && (x273004 == 0 && (x273005 == 0 && (x273006 == 0 && (x273007 == 0)))))) = true then (some (x273011 == 0)) else (some false)) else (some false)) else (if x273000 = 2 then (if (x273008 == 0 && (x273009 == 0 && (x273010 == 0))) = true then (if x273011 = 0 then ((thalwegref02_Right.f k x273002 x273003 x273004 x273005 x273006 x273007).bind fun t273 => (some t273)) else (some false)) else (some false)) else (if x273000 = 3 then (if (!x273002 && (x273003 == 0 && (x273004 == 0 && (x273005 == 0 && (x273006 == 0 && (x273007 == 0)))))) = true then (if x273011 = 0 then ((thalwegref02_Right.f k false x273008 x273009 x273010 0 0).bind fun t274 => (some t274)) else (some false)) else (some false)) else (if x273000 = 4 then (if (x273008 == 0 && (x273009 == 0 && (x273010 == 0))) = true then (if x273011 ≥ 0 then (if x273011 ≤ 65535 then ((thalwegref02_Told.f k x273002 x273003 x273004 x273005 x273006 x273007).bind fun t275 => (some t275)) else (some false)) else (some false)) else (some false)) else (some false)))))
def thalwegref04_Right.f (k : Nat) (a0_0 : Int) (a0_1 : Int) (a0_2 : Bool) (a0_3 : Int) (a0_4 : Int) (a0_5 : Int) (a0_6 : Int) (a0_7 : Int) (a0_8 : Int) (a0_9 : Int) (a0_10 : Int) (a0_11 : Int) : Option (Bool) := if a0_1 < 0 then (thalwegref04_Right.j0 k true a0_0 a0_1 a0_2 a0_3 a0_4 a0_5 a0_6 a0_7 a0_8 a0_9 a0_10 a0_11) else (thalwegref04_Right.j0 k (decide (a0_1 ≥ 64)) a0_0 a0_1 a0_2 a0_3 a0_4 a0_5 a0_6 a0_7 a0_8 a0_9 a0_10 a0_11)
theorem thalwegref04_Right.mono_l : ∀ k, (∀ y0 y1 y2 y3 y4 y5 y6 y7 y8 y9 y10 y11 y12, LeO (thalwegref04_Right.j0 k y0 y1 y2 y3 y4 y5 y6 y7 y8 y9 y10 y11 y12) (thalwegref04_Right.j0 (k + 1) y0 y1 y2 y3 y4 y5 y6 y7 y8 y9 y10 y11 y12))
 | 0 => fun _ _ _ _ _ _ _ _ _ _ _ _ _ r h => by simp [thalwegref04_Right.j0] at h
 | k + 1 => by
  have ih0 := thalwegref04_Right.mono_l k
  ·intro y0 y1 y2 y3 y4 y5 y6 y7 y8 y9 y10 y11 y12
   unfold thalwegref04_Right.j0
   repeat' first
   | (with_reducible exact ih0 _ _ _ _ _ _ _ _ _ _ _ _ _)
   | (with_reducible exact thalwegref02_Right.mono _ _ _ _ _ _ _)
   | (with_reducible exact thalwegref02_Told.mono _ _ _ _ _ _ _)
   | (with_reducible exact LeO.refl _)
   | (with_reducible exact LeO.none _)
   | (with_reducible refine LeO.ite ?_ ?_)
   | (with_reducible refine LeO.bind ?_ (fun _ => ?_))
   | exact ih0 _ _ _ _ _ _ _ _ _ _ _ _ _
   | exact thalwegref02_Right.mono _ _ _ _ _ _ _
   | exact thalwegref02_Told.mono _ _ _ _ _ _ _
   | exact LeO.none _
   | refine LeO.ite ?_ ?_
   | refine LeO.bind ?_ (fun _ => ?_)
theorem thalwegref04_Right.mono : ∀ a0 a1 a2 a3 a4 a5 a6 a7 a8 a9 a10 a11 k, LeO (thalwegref04_Right.f k a0 a1 a2 a3 a4 a5 a6 a7 a8 a9 a10 a11) (thalwegref04_Right.f (k + 1) a0 a1 a2 a3 a4 a5 a6 a7 a8 a9 a10 a11) := by
 intro a0 a1 a2 a3 a4 a5 a6 a7 a8 a9 a10 a11 k
 have ih0 := thalwegref04_Right.mono_l k
 unfold thalwegref04_Right.f
 repeat' first
   | (with_reducible exact ih0 _ _ _ _ _ _ _ _ _ _ _ _ _)
   | (with_reducible exact thalwegref02_Right.mono _ _ _ _ _ _ _)
   | (with_reducible exact thalwegref02_Told.mono _ _ _ _ _ _ _)
   | (with_reducible exact LeO.refl _)
   | (with_reducible exact LeO.none _)
   | (with_reducible refine LeO.ite ?_ ?_)
   | (with_reducible refine LeO.bind ?_ (fun _ => ?_))
   | exact ih0 _ _ _ _ _ _ _ _ _ _ _ _ _
   | exact thalwegref02_Right.mono _ _ _ _ _ _ _
   | exact thalwegref02_Told.mono _ _ _ _ _ _ _
   | exact LeO.none _
   | refine LeO.ite ?_ ?_
   | refine LeO.bind ?_ (fun _ => ?_)
theorem thalwegref04_Right.calls (k : Nat) (a0_0 : Int) (a0_1 : Int) (a0_2 : Bool) (a0_3 : Int) (a0_4 : Int) (a0_5 : Int) (a0_6 : Int) (a0_7 : Int) (a0_8 : Int) (a0_9 : Int) (a0_10 : Int) (a0_11 : Int) (r : Bool) (w : World) (h : thalwegref04_Right.f k a0_0 a0_1 a0_2 a0_3 a0_4 a0_5 a0_6 a0_7 a0_8 a0_9 a0_10 a0_11 = some r) :
  Calls Try.prog 39 #[.agg #[.int .i64 a0_0, .int .i64 a0_1, .bool a0_2, .int .i64 a0_3, .int .i64 a0_4, .int .i64 a0_5, .int .i64 a0_6, .int .i64 a0_7, .int .i64 a0_8, .int .i64 a0_9, .int .i64 a0_10, .int .i64 a0_11]] w fun e w' => e = .returned (.bool r) ∧ Below w.heap.size w w' := by
 have hu34 := Try.underlying34
 have hu32 := Try.underlying32
 have hu30 := Try.underlying30
 have HB := YJ (Below.refl w.heap.size w)
 have H : (if a0_1 < 0 then (thalwegref04_Right.j0 k true a0_0 a0_1 a0_2 a0_3 a0_4 a0_5 a0_6 a0_7 a0_8 a0_9 a0_10 a0_11) else (thalwegref04_Right.j0 k (decide (a0_1 ≥ 64)) a0_0 a0_1 a0_2 a0_3 a0_4 a0_5 a0_6 a0_7 a0_8 a0_9 a0_10 a0_11)) = some r := h
 clear h; have HC2 := YJ H; clear H
 go_enter Try.func39, Try.ntmps39
 go_upto_region 1 with (first | ((with_reducible refine gate_dst (N := 1) rfl ?_); refine box_event ?hg (N := 1) ?hd (cs := #[.int .i64 a0_0, .int .i64 a0_1, .bool a0_2, .int .i64 a0_3, .int .i64 a0_4, .int .i64 a0_5, .int .i64 a0_6, .int .i64 a0_7, .int .i64 a0_8, .int .i64 a0_9, .int .i64 a0_10, .int .i64 a0_11]) (t := 34) ?hr ?_; (case hd => rfl); (case hg => rfl); (case hr => first | (go_simp; done) | (go_simp; rfl)); intro gb272 hg w3 hbox hb; have n0_ := YJ (YD (upB HB) hb); have n1_ := YJ (hbox); have n2_ := YJ ((by rw [hg]; exact (below_size (upB HB)) : w.heap.size ≤ gb272)); have n3_ := YJ ((by rw [hg]; exact (below_size (upB HB)) : w.heap.size ≤ gb272)); clear HB; have HB := n0_; have BK272 := n1_; have GW272 := n2_; have GE272 := n3_; clear n0_ n1_ n2_ n3_; clear hb hbox hg))
 (try simp only [Act.put, List.setIfInBounds_toArray, List.set_cons_zero, List.set_cons_succ])
 go_cut [12] (fun v12 wc => ∃ (kq : Nat) (x12_1 : Bool), v12 = .bool x12_1 ∧ Aside0 (thalwegref04_Right.j0 kq x12_1 a0_0 a0_1 a0_2 a0_3 a0_4 a0_5 a0_6 a0_7 a0_8 a0_9 a0_10 a0_11 = some r) ∧ Aside0 (kq ≤ k) ∧ Aside0 (wc.heap[gb272]? = some (.cells #[.int .i64 a0_0, .int .i64 a0_1, .bool a0_2, .int .i64 a0_3, .int .i64 a0_4, .int .i64 a0_5, .int .i64 a0_6, .int .i64 a0_7, .int .i64 a0_8, .int .i64 a0_9, .int .i64 a0_10, .int .i64 a0_11] 34 (0, 0))) ∧ Aside0 (Below w.heap.size w wc))
 case first =>
  have H := HC2.out
  clear HC2
  by_cases c4 : a0_1 < 0
  ·rw [if_pos c4] at H
   have c4b0 : decide (a0_1 < 0) = true := decide_eq_true c4; clear c4
   (first | rw [c4b0] | (simp only [i64_w, i32_w]; rw [c4b0]) | rw [c4b1] | skip)
   have H' := YJ H
   clear H
   obtain ⟨q5_0, q5_1, q5_2, q5_3, q5_4, q5_5, q5_6, q5_7, q5_8, q5_9, q5_10, q5_11⟩ := cA12 BK272.out
   obtain ⟨f5_0, f5_1, f5_2, f5_3, f5_4, f5_5, f5_6, f5_7, f5_8, f5_9, f5_10, f5_11⟩ := fA12 BK272.out
   go_wp2
   go_meet
   case rel => exact ⟨_, (true), (by first | rfl | (simp; done) | (simp [*]; done)), H', ⟨by first | omega | exact Nat.le_refl _⟩, ⟨by (with_reducible repeat (first | refine YE ?_ _ | refine YF ?_ | refine YG ?_ _)); exact BK272.out⟩, ⟨by repeat (first | (with_reducible first | exact HB.out | apply YA | apply YB | apply YC | refine below_set ?_ GE272.out) | exact HB.out)⟩⟩
  rw [if_neg c4] at H; have c4b0 : decide (a0_1 < 0) = false := decide_eq_false c4; clear c4
  (first | rw [c4b0] | (simp only [i64_w, i32_w]; rw [c4b0]) | rw [c4b1] | skip)
  have H' := YJ H
  clear H
  obtain ⟨q6_0, q6_1, q6_2, q6_3, q6_4, q6_5, q6_6, q6_7, q6_8, q6_9, q6_10, q6_11⟩ := cA12 BK272.out
  obtain ⟨f6_0, f6_1, f6_2, f6_3, f6_4, f6_5, f6_6, f6_7, f6_8, f6_9, f6_10, f6_11⟩ := fA12 BK272.out
  go_wp2
  go_meet
  case rel => exact ⟨_, (decide (a0_1 ≥ 64)), (by first | rfl | (simp; done) | (simp [*]; done)), H', ⟨by first | omega | exact Nat.le_refl _⟩, ⟨by (with_reducible repeat (first | refine YE ?_ _ | refine YF ?_ | refine YG ?_ _)); exact BK272.out⟩, ⟨by repeat (first | (with_reducible first | exact HB.out | apply YA | apply YB | apply YC | refine below_set ?_ GE272.out) | exact HB.out)⟩⟩
 case rest =>
  clear HC2
  try clear p2; try clear c3
  try clear c4; try clear c4b0
  try clear q5_0; try clear q5_1
  try clear q5_10; try clear q5_11
  try clear q5_2; try clear q5_3
  try clear q5_4; try clear q5_5
  try clear q5_6; try clear q5_7
  try clear q5_8; try clear q5_9
  try clear q6_0; try clear q6_1
  try clear q6_10; try clear q6_11
  try clear q6_2; try clear q6_3
  try clear q6_4; try clear q6_5
  try clear q6_6; try clear q6_7
  try clear q6_8; try clear q6_9
  try clear f5_0; try clear f5_1
  try clear f5_10; try clear f5_11
  try clear f5_2; try clear f5_3
  try clear f5_4; try clear f5_5
  try clear f5_6; try clear f5_7
  try clear f5_8; try clear f5_9
  try clear f6_0; try clear f6_1
  try clear f6_10; try clear f6_11
  try clear f6_2; try clear f6_3
  try clear f6_4; try clear f6_5
  try clear f6_6; try clear f6_7
  try clear f6_8; try clear f6_9
  obtain ⟨kq, x12_1, rfl, HA, HJ1, BK272, HB⟩ := hcut
  cases kq with
  | zero => exact absurd HA.out (by simp [thalwegref04_Right.j0])
  | succ kj1 =>
   have H := HA.out
   clear HA
   simp only [thalwegref04_Right.j0] at H
   by_cases c7 : x12_1 = true
   ·subst c7
    have H1 : (some false) = some r := by rw [if_pos rfl] at H; exact H
    clear H
    have H := H1
    clear H1
    obtain rfl := Option.some.inj H
    go_wp2
    go_ret
    exact ⟨by first | rfl | (simp [errW_none, errW_some] <;> rfl) | (simp [*, errW_none, errW_some] <;> rfl), by repeat (first | (with_reducible first | exact HB.out | apply YA | apply YB | apply YC | refine below_set ?_ GE272.out) | exact HB.out)⟩
   replace c7 := Bool.eq_false_iff.mpr c7
   subst c7
   have H1 : (if a0_0 = 1 then (if (a0_8 == 0 && (a0_9 == 0 && (a0_10 == 0))) = true then (if (!a0_2 && (a0_3 == 0 && (a0_4 == 0 && (a0_5 == 0 && (a0_6 == 0 && (a0_7 == 0)))))) = true then (some (a0_11 == 0)) else (some false)) else (some false)) else (if a0_0 = 2 then (if (a0_8 == 0 && (a0_9 == 0 && (a0_10 == 0))) = true then (if a0_11 = 0 then ((thalwegref02_Right.f kj1 a0_2 a0_3 a0_4 a0_5 a0_6 a0_7).bind fun t273 => (some t273)) else (some false)) else (some false)) else (if a0_0 = 3 then (if (!a0_2 && (a0_3 == 0 && (a0_4 == 0 && (a0_5 == 0 && (a0_6 == 0 && (a0_7 == 0)))))) = true then (if a0_11 = 0 then ((thalwegref02_Right.f kj1 false a0_8 a0_9 a0_10 0 0).bind fun t274 => (some t274)) else (some false)) else (some false)) else (if a0_0 = 4 then (if (a0_8 == 0 && (a0_9 == 0 && (a0_10 == 0))) = true then (if a0_11 ≥ 0 then (if a0_11 ≤ 65535 then ((thalwegref02_Told.f kj1 a0_2 a0_3 a0_4 a0_5 a0_6 a0_7).bind fun t275 => (some t275)) else (some false)) else (some false)) else (some false)) else (some false))))) = some r := by rw [if_neg (show ¬ (false = true) by decide)] at H; exact H
   clear H
   have H := H1
   clear H1
   by_cases c8 : a0_0 = 1
   ·rw [if_pos c8] at H
    have c8b0 : (a0_0 == 1) = true := beq_iff_eq.mpr c8
    have c8b1 : (a0_0 != 1) = false := bne_eq_false_iff_eq.mpr c8
    clear c8
    by_cases c9 : (a0_8 == 0 && (a0_9 == 0 && (a0_10 == 0))) = true
    ·rw [if_pos c9] at H
     have c9b0 : (a0_8 == 0 && (a0_9 == 0 && (a0_10 == 0))) = true := c9
     (try (have c9b1 : decide (a0_8 = 0 && (a0_9 == 0 && (a0_10 == 0))) = true := by simpa using c9))
     (try (have c9b2 : (a0_8 == 0 && (a0_9 == 0 && (a0_10 == 0))) = true := by simpa using c9))
     clear c9
     by_cases c10 : (!a0_2 && (a0_3 == 0 && (a0_4 == 0 && (a0_5 == 0 && (a0_6 == 0 && (a0_7 == 0)))))) = true
     ·rw [if_pos c10] at H
      have c10b0 : (!a0_2 && (a0_3 == 0 && (a0_4 == 0 && (a0_5 == 0 && (a0_6 == 0 && (a0_7 == 0)))))) = true := c10
      clear c10
      obtain rfl := Option.some.inj H
      obtain ⟨q11_0, q11_1, q11_2, q11_3, q11_4, q11_5, q11_6, q11_7, q11_8, q11_9, q11_10, q11_11⟩ := cA12 BK272.out
      obtain ⟨f11_0, f11_1, f11_2, f11_3, f11_4, f11_5, f11_6, f11_7, f11_8, f11_9, f11_10, f11_11⟩ := fA12 BK272.out
      go_wp2
      go_ret
      exact ⟨by first | rfl | (simp [errW_none, errW_some] <;> rfl) | (simp [*, errW_none, errW_some] <;> rfl), by repeat (first | (with_reducible first | exact HB.out | apply YA | apply YB | apply YC | refine below_set ?_ GE272.out) | exact HB.out)⟩
     rw [if_neg c10] at H
     have c10b0 : (!a0_2 && (a0_3 == 0 && (a0_4 == 0 && (a0_5 == 0 && (a0_6 == 0 && (a0_7 == 0)))))) = false := by simpa using c10
     clear c10
     obtain rfl := Option.some.inj H
     obtain ⟨q12_0, q12_1, q12_2, q12_3, q12_4, q12_5, q12_6, q12_7, q12_8, q12_9, q12_10, q12_11⟩ := cA12 BK272.out
     obtain ⟨f12_0, f12_1, f12_2, f12_3, f12_4, f12_5, f12_6, f12_7, f12_8, f12_9, f12_10, f12_11⟩ := fA12 BK272.out
     go_wp2
     go_ret
     exact ⟨by first | rfl | (simp [errW_none, errW_some] <;> rfl) | (simp [*, errW_none, errW_some] <;> rfl), by repeat (first | (with_reducible first | exact HB.out | apply YA | apply YB | apply YC | refine below_set ?_ GE272.out) | exact HB.out)⟩
    rw [if_neg c9] at H
    have c9b0 : (a0_8 == 0 && (a0_9 == 0 && (a0_10 == 0))) = false := by simpa using c9
    (try (have c9b1 : decide (a0_8 = 0 && (a0_9 == 0 && (a0_10 == 0))) = false := by simpa using c9))
    (try (have c9b2 : (a0_8 == 0 && (a0_9 == 0 && (a0_10 == 0))) = false := by simpa using c9))
    (try (have c9b3 : ¬ (a0_8 = 0 && (a0_9 == 0 && (a0_10 == 0))) := by simpa using c9))
    clear c9
    obtain rfl := Option.some.inj H
    obtain ⟨q13_0, q13_1, q13_2, q13_3, q13_4, q13_5, q13_6, q13_7, q13_8, q13_9, q13_10, q13_11⟩ := cA12 BK272.out
    obtain ⟨f13_0, f13_1, f13_2, f13_3, f13_4, f13_5, f13_6, f13_7, f13_8, f13_9, f13_10, f13_11⟩ := fA12 BK272.out
    go_wp2
    go_ret
    exact ⟨by first | rfl | (simp [errW_none, errW_some] <;> rfl) | (simp [*, errW_none, errW_some] <;> rfl), by repeat (first | (with_reducible first | exact HB.out | apply YA | apply YB | apply YC | refine below_set ?_ GE272.out) | exact HB.out)⟩
   rw [if_neg c8] at H
   have c8b0 : (a0_0 == 1) = false := beq_eq_false_iff_ne.mpr c8
   have c8b1 : (a0_0 != 1) = true := bne_iff_ne.mpr c8
   by_cases c14 : a0_0 = 2
   ·rw [if_pos c14] at H
    have c14b0 : (a0_0 == 2) = true := beq_iff_eq.mpr c14
    have c14b1 : (a0_0 != 2) = false := bne_eq_false_iff_eq.mpr c14
    clear c14
    by_cases c15 : (a0_8 == 0 && (a0_9 == 0 && (a0_10 == 0))) = true
    ·rw [if_pos c15] at H
     have c15b0 : (a0_8 == 0 && (a0_9 == 0 && (a0_10 == 0))) = true := c15
     (try (have c15b1 : decide (a0_8 = 0 && (a0_9 == 0 && (a0_10 == 0))) = true := by simpa using c15))
     (try (have c15b2 : (a0_8 == 0 && (a0_9 == 0 && (a0_10 == 0))) = true := by simpa using c15))
     clear c15
     by_cases c16 : a0_11 = 0
     ·rw [if_pos c16] at H
      have c16b0 : (a0_11 == 0) = true := beq_iff_eq.mpr c16
      have c16b1 : (a0_11 != 0) = false := bne_eq_false_iff_eq.mpr c16
      clear c16; replace H := Option.bind_eq_some_iff.mp H; obtain ⟨t273, A170, H⟩ := H
      replace H : (some t273) = some r := H
      have A17 := YJ A170; clear A170
      obtain rfl := Option.some.inj H
      obtain ⟨q18_0, q18_1, q18_2, q18_3, q18_4, q18_5, q18_6, q18_7, q18_8, q18_9, q18_10, q18_11⟩ := cA12 BK272.out
      obtain ⟨f18_0, f18_1, f18_2, f18_3, f18_4, f18_5, f18_6, f18_7, f18_8, f18_9, f18_10, f18_11⟩ := fA12 BK272.out
      go_wp2_with (first | (go_at_call 59; (with_reducible refine (thalwegref02_Right.calls kj1 a0_2 a0_3 a0_4 a0_5 a0_6 a0_7 t273 _ A17.out).mono ?_); rintro e w19 ⟨rfl, hb⟩; have n0_ := YJ (blk_below (g := gb272) (o := .cells #[.int .i64 a0_0, .int .i64 a0_1, .bool a0_2, .int .i64 a0_3, .int .i64 a0_4, .int .i64 a0_5, .int .i64 a0_6, .int .i64 a0_7, .int .i64 a0_8, .int .i64 a0_9, .int .i64 a0_10, .int .i64 a0_11] 34 (0, 0)) (upK BK272) hb); have n1_ := YJ (YD (upB HB) hb); clear BK272; clear HB; have BK272 := n0_; have HB := n1_; clear n0_ n1_; (try clear hb); (try clear hb2); (try clear hk); (try clear hi)))
      go_ret
      exact ⟨by first | rfl | (simp [errW_none, errW_some] <;> rfl) | (simp [*, errW_none, errW_some] <;> rfl), by repeat (first | (with_reducible first | exact HB.out | apply YA | apply YB | apply YC | refine below_set ?_ GE272.out) | exact HB.out)⟩
     rw [if_neg c16] at H
     have c16b0 : (a0_11 == 0) = false := beq_eq_false_iff_ne.mpr c16
     have c16b1 : (a0_11 != 0) = true := bne_iff_ne.mpr c16
     obtain rfl := Option.some.inj H
     obtain ⟨q20_0, q20_1, q20_2, q20_3, q20_4, q20_5, q20_6, q20_7, q20_8, q20_9, q20_10, q20_11⟩ := cA12 BK272.out
     obtain ⟨f20_0, f20_1, f20_2, f20_3, f20_4, f20_5, f20_6, f20_7, f20_8, f20_9, f20_10, f20_11⟩ := fA12 BK272.out
     go_wp2
     go_ret
     exact ⟨by first | rfl | (simp [errW_none, errW_some] <;> rfl) | (simp [*, errW_none, errW_some] <;> rfl), by repeat (first | (with_reducible first | exact HB.out | apply YA | apply YB | apply YC | refine below_set ?_ GE272.out) | exact HB.out)⟩
    rw [if_neg c15] at H
    have c15b0 : (a0_8 == 0 && (a0_9 == 0 && (a0_10 == 0))) = false := by simpa using c15
    (try (have c15b1 : decide (a0_8 = 0 && (a0_9 == 0 && (a0_10 == 0))) = false := by simpa using c15))
    (try (have c15b2 : (a0_8 == 0 && (a0_9 == 0 && (a0_10 == 0))) = false := by simpa using c15))
    (try (have c15b3 : ¬ (a0_8 = 0 && (a0_9 == 0 && (a0_10 == 0))) := by simpa using c15))
    clear c15
    obtain rfl := Option.some.inj H
    obtain ⟨q21_0, q21_1, q21_2, q21_3, q21_4, q21_5, q21_6, q21_7, q21_8, q21_9, q21_10, q21_11⟩ := cA12 BK272.out
    obtain ⟨f21_0, f21_1, f21_2, f21_3, f21_4, f21_5, f21_6, f21_7, f21_8, f21_9, f21_10, f21_11⟩ := fA12 BK272.out
    go_wp2
    go_ret
    exact ⟨by first | rfl | (simp [errW_none, errW_some] <;> rfl) | (simp [*, errW_none, errW_some] <;> rfl), by repeat (first | (with_reducible first | exact HB.out | apply YA | apply YB | apply YC | refine below_set ?_ GE272.out) | exact HB.out)⟩
   rw [if_neg c14] at H
   have c14b0 : (a0_0 == 2) = false := beq_eq_false_iff_ne.mpr c14
   have c14b1 : (a0_0 != 2) = true := bne_iff_ne.mpr c14
   by_cases c22 : a0_0 = 3
   ·rw [if_pos c22] at H
    have c22b0 : (a0_0 == 3) = true := beq_iff_eq.mpr c22
    have c22b1 : (a0_0 != 3) = false := bne_eq_false_iff_eq.mpr c22
    clear c22
    by_cases c23 : (!a0_2 && (a0_3 == 0 && (a0_4 == 0 && (a0_5 == 0 && (a0_6 == 0 && (a0_7 == 0)))))) = true
    ·rw [if_pos c23] at H
     have c23b0 : (!a0_2 && (a0_3 == 0 && (a0_4 == 0 && (a0_5 == 0 && (a0_6 == 0 && (a0_7 == 0)))))) = true := c23
     clear c23
     by_cases c24 : a0_11 = 0
     ·rw [if_pos c24] at H
      have c24b0 : (a0_11 == 0) = true := beq_iff_eq.mpr c24
      have c24b1 : (a0_11 != 0) = false := bne_eq_false_iff_eq.mpr c24
      clear c24; replace H := Option.bind_eq_some_iff.mp H; obtain ⟨t274, A250, H⟩ := H
      replace H : (some t274) = some r := H
      have A25 := YJ A250; clear A250
      obtain rfl := Option.some.inj H
      obtain ⟨q26_0, q26_1, q26_2, q26_3, q26_4, q26_5, q26_6, q26_7, q26_8, q26_9, q26_10, q26_11⟩ := cA12 BK272.out
      obtain ⟨f26_0, f26_1, f26_2, f26_3, f26_4, f26_5, f26_6, f26_7, f26_8, f26_9, f26_10, f26_11⟩ := fA12 BK272.out
      go_wp2_with (first | (go_at_call 59; (with_reducible refine (thalwegref02_Right.calls kj1 false a0_8 a0_9 a0_10 0 0 t274 _ A25.out).mono ?_); rintro e w27 ⟨rfl, hb⟩; have n0_ := YJ (blk_below (g := gb272) (o := .cells #[.int .i64 a0_0, .int .i64 a0_1, .bool a0_2, .int .i64 a0_3, .int .i64 a0_4, .int .i64 a0_5, .int .i64 a0_6, .int .i64 a0_7, .int .i64 a0_8, .int .i64 a0_9, .int .i64 a0_10, .int .i64 a0_11] 34 (0, 0)) (upK BK272) hb); have n1_ := YJ (YD (upB HB) hb); clear BK272; clear HB; have BK272 := n0_; have HB := n1_; clear n0_ n1_; (try clear hb); (try clear hb2); (try clear hk); (try clear hi)))
      go_ret
      exact ⟨by first | rfl | (simp [errW_none, errW_some] <;> rfl) | (simp [*, errW_none, errW_some] <;> rfl), by repeat (first | (with_reducible first | exact HB.out | apply YA | apply YB | apply YC | refine below_set ?_ GE272.out) | exact HB.out)⟩
     rw [if_neg c24] at H
     have c24b0 : (a0_11 == 0) = false := beq_eq_false_iff_ne.mpr c24
     have c24b1 : (a0_11 != 0) = true := bne_iff_ne.mpr c24
     obtain rfl := Option.some.inj H
     obtain ⟨q28_0, q28_1, q28_2, q28_3, q28_4, q28_5, q28_6, q28_7, q28_8, q28_9, q28_10, q28_11⟩ := cA12 BK272.out
     obtain ⟨f28_0, f28_1, f28_2, f28_3, f28_4, f28_5, f28_6, f28_7, f28_8, f28_9, f28_10, f28_11⟩ := fA12 BK272.out
     go_wp2
     go_ret
     exact ⟨by first | rfl | (simp [errW_none, errW_some] <;> rfl) | (simp [*, errW_none, errW_some] <;> rfl), by repeat (first | (with_reducible first | exact HB.out | apply YA | apply YB | apply YC | refine below_set ?_ GE272.out) | exact HB.out)⟩
    rw [if_neg c23] at H
    have c23b0 : (!a0_2 && (a0_3 == 0 && (a0_4 == 0 && (a0_5 == 0 && (a0_6 == 0 && (a0_7 == 0)))))) = false := by simpa using c23
    clear c23
    obtain rfl := Option.some.inj H
    obtain ⟨q29_0, q29_1, q29_2, q29_3, q29_4, q29_5, q29_6, q29_7, q29_8, q29_9, q29_10, q29_11⟩ := cA12 BK272.out
    obtain ⟨f29_0, f29_1, f29_2, f29_3, f29_4, f29_5, f29_6, f29_7, f29_8, f29_9, f29_10, f29_11⟩ := fA12 BK272.out
    go_wp2
    go_ret
    exact ⟨by first | rfl | (simp [errW_none, errW_some] <;> rfl) | (simp [*, errW_none, errW_some] <;> rfl), by repeat (first | (with_reducible first | exact HB.out | apply YA | apply YB | apply YC | refine below_set ?_ GE272.out) | exact HB.out)⟩
   rw [if_neg c22] at H
   have c22b0 : (a0_0 == 3) = false := beq_eq_false_iff_ne.mpr c22
   have c22b1 : (a0_0 != 3) = true := bne_iff_ne.mpr c22
   by_cases c30 : a0_0 = 4
   ·rw [if_pos c30] at H
    have c30b0 : (a0_0 == 4) = true := beq_iff_eq.mpr c30
    have c30b1 : (a0_0 != 4) = false := bne_eq_false_iff_eq.mpr c30
    clear c30
    by_cases c31 : (a0_8 == 0 && (a0_9 == 0 && (a0_10 == 0))) = true
    ·rw [if_pos c31] at H
     have c31b0 : (a0_8 == 0 && (a0_9 == 0 && (a0_10 == 0))) = true := c31
     (try (have c31b1 : decide (a0_8 = 0 && (a0_9 == 0 && (a0_10 == 0))) = true := by simpa using c31))
     (try (have c31b2 : (a0_8 == 0 && (a0_9 == 0 && (a0_10 == 0))) = true := by simpa using c31))
     clear c31
     by_cases c32 : a0_11 ≥ 0
     ·rw [if_pos c32] at H
      have c32b0 : decide (0 ≤ a0_11) = true := decide_eq_true c32; clear c32
      by_cases c33 : a0_11 ≤ 65535
      ·rw [if_pos c33] at H
       have c33b0 : decide (a0_11 ≤ 65535) = true := decide_eq_true c33; clear c33; replace H := Option.bind_eq_some_iff.mp H; obtain ⟨t275, A340, H⟩ := H
       replace H : (some t275) = some r := H
       have A34 := YJ A340; clear A340
       obtain rfl := Option.some.inj H
       obtain ⟨q35_0, q35_1, q35_2, q35_3, q35_4, q35_5, q35_6, q35_7, q35_8, q35_9, q35_10, q35_11⟩ := cA12 BK272.out
       obtain ⟨f35_0, f35_1, f35_2, f35_3, f35_4, f35_5, f35_6, f35_7, f35_8, f35_9, f35_10, f35_11⟩ := fA12 BK272.out
       go_wp2_with (first | (go_at_call 60; (with_reducible refine (thalwegref02_Told.calls kj1 a0_2 a0_3 a0_4 a0_5 a0_6 a0_7 t275 _ A34.out).mono ?_); rintro e w36 ⟨rfl, hb⟩; have n0_ := YJ (blk_below (g := gb272) (o := .cells #[.int .i64 a0_0, .int .i64 a0_1, .bool a0_2, .int .i64 a0_3, .int .i64 a0_4, .int .i64 a0_5, .int .i64 a0_6, .int .i64 a0_7, .int .i64 a0_8, .int .i64 a0_9, .int .i64 a0_10, .int .i64 a0_11] 34 (0, 0)) (upK BK272) hb); have n1_ := YJ (YD (upB HB) hb); clear BK272; clear HB; have BK272 := n0_; have HB := n1_; clear n0_ n1_; (try clear hb); (try clear hb2); (try clear hk); (try clear hi)))
       go_ret
       exact ⟨by first | rfl | (simp [errW_none, errW_some] <;> rfl) | (simp [*, errW_none, errW_some] <;> rfl), by repeat (first | (with_reducible first | exact HB.out | apply YA | apply YB | apply YC | refine below_set ?_ GE272.out) | exact HB.out)⟩
      rw [if_neg c33] at H; have c33b0 : decide (a0_11 ≤ 65535) = false := decide_eq_false c33; clear c33
      obtain rfl := Option.some.inj H
      obtain ⟨q37_0, q37_1, q37_2, q37_3, q37_4, q37_5, q37_6, q37_7, q37_8, q37_9, q37_10, q37_11⟩ := cA12 BK272.out
      obtain ⟨f37_0, f37_1, f37_2, f37_3, f37_4, f37_5, f37_6, f37_7, f37_8, f37_9, f37_10, f37_11⟩ := fA12 BK272.out
      go_wp2
      go_ret
      exact ⟨by first | rfl | (simp [errW_none, errW_some] <;> rfl) | (simp [*, errW_none, errW_some] <;> rfl), by repeat (first | (with_reducible first | exact HB.out | apply YA | apply YB | apply YC | refine below_set ?_ GE272.out) | exact HB.out)⟩
     rw [if_neg c32] at H; have c32b0 : decide (0 ≤ a0_11) = false := decide_eq_false c32; clear c32
     obtain rfl := Option.some.inj H
     obtain ⟨q38_0, q38_1, q38_2, q38_3, q38_4, q38_5, q38_6, q38_7, q38_8, q38_9, q38_10, q38_11⟩ := cA12 BK272.out
     obtain ⟨f38_0, f38_1, f38_2, f38_3, f38_4, f38_5, f38_6, f38_7, f38_8, f38_9, f38_10, f38_11⟩ := fA12 BK272.out
     go_wp2
     go_ret
     exact ⟨by first | rfl | (simp [errW_none, errW_some] <;> rfl) | (simp [*, errW_none, errW_some] <;> rfl), by repeat (first | (with_reducible first | exact HB.out | apply YA | apply YB | apply YC | refine below_set ?_ GE272.out) | exact HB.out)⟩
    rw [if_neg c31] at H
    have c31b0 : (a0_8 == 0 && (a0_9 == 0 && (a0_10 == 0))) = false := by simpa using c31
    (try (have c31b1 : decide (a0_8 = 0 && (a0_9 == 0 && (a0_10 == 0))) = false := by simpa using c31))
    (try (have c31b2 : (a0_8 == 0 && (a0_9 == 0 && (a0_10 == 0))) = false := by simpa using c31))
    (try (have c31b3 : ¬ (a0_8 = 0 && (a0_9 == 0 && (a0_10 == 0))) := by simpa using c31))
    clear c31
    obtain rfl := Option.some.inj H
    obtain ⟨q39_0, q39_1, q39_2, q39_3, q39_4, q39_5, q39_6, q39_7, q39_8, q39_9, q39_10, q39_11⟩ := cA12 BK272.out
    obtain ⟨f39_0, f39_1, f39_2, f39_3, f39_4, f39_5, f39_6, f39_7, f39_8, f39_9, f39_10, f39_11⟩ := fA12 BK272.out
    go_wp2
    go_ret
    exact ⟨by first | rfl | (simp [errW_none, errW_some] <;> rfl) | (simp [*, errW_none, errW_some] <;> rfl), by repeat (first | (with_reducible first | exact HB.out | apply YA | apply YB | apply YC | refine below_set ?_ GE272.out) | exact HB.out)⟩
   rw [if_neg c30] at H
   have c30b0 : (a0_0 == 4) = false := beq_eq_false_iff_ne.mpr c30
   have c30b1 : (a0_0 != 4) = true := bne_iff_ne.mpr c30
   obtain rfl := Option.some.inj H
   obtain ⟨q40_0, q40_1, q40_2, q40_3, q40_4, q40_5, q40_6, q40_7, q40_8, q40_9, q40_10, q40_11⟩ := cA12 BK272.out
   obtain ⟨f40_0, f40_1, f40_2, f40_3, f40_4, f40_5, f40_6, f40_7, f40_8, f40_9, f40_10, f40_11⟩ := fA12 BK272.out
   go_wp2
   go_ret
   exact ⟨by first | rfl | (simp [errW_none, errW_some] <;> rfl) | (simp [*, errW_none, errW_some] <;> rfl), by repeat (first | (with_reducible first | exact HB.out | apply YA | apply YB | apply YC | refine below_set ?_ GE272.out) | exact HB.out)⟩
end Go.Proofs.Ytclbempnhelmoaa.P
namespace Go.Proofs.Ytclbempnhelmoaa.P
open Go.RowKit YtclbempnhelmoaaW.PrintWords YtclbempnhelmoaaW.PrintLast YtclbempnhelmoaaW.PrintMore
open YtclbempnhelmoaaW.PrintWords renaming below_alloc → YA, pw_below_drewN → YB, below_drew1 → YC, below_step → YD, below_size → YE, blk_drewN → YF, blk_drew → YG, blk_alloc → YH, blk_cell → YI, blk_frozen → YJ, blk_below → YK
open YtclbempnhelmoaaW.PrintWords.Aside0 renaming mk → YL
open List renaming map_toArray → YM, length_take → YN, length_drop → YO
open YtclbempnhelmoaaW.PrintWords.Kd renaming R_alloc → YP, R_drewN → YQ, R_drew → YR
attribute [local go_sem] max2_int min2_int max_two min_two max_three min_three max_four min_four
mutual
def thalwegref04_Bytes.j0 : Nat → List Int → Bool → Int → Int → Bool → Int → Int → Int → Int → Int → Int → Int → Int → Int → Option (List Int × Int)
 | 0, _, _, _, _, _, _, _, _, _, _, _, _, _, _ => none
 | k + 1, x4, x24, x316000, x316001, x316002, x316003, x316004, x316005, x316006, x316007, x316008, x316009, x316010, x316011 => if x24 = true then ((thalwegref02_Bytes.f k x316002 x316003 x316004 x316005 x316006 x316007).bind fun bt320 => (if x4.length + bt320.1.length < 140737488355328 then (thalwegref04_Bytes.j1 k (x4 ++ bt320.1) x316000 x316001 x316002 x316003 x316004 x316005 x316006 x316007 x316008 x316009 x316010 x316011) else (none))) else (thalwegref04_Bytes.j1 k x4 x316000 x316001 x316002 x316003 x316004 x316005 x316006 x316007 x316008 x316009 x316010 x316011)
def thalwegref04_Bytes.j1 : Nat → List Int → Int → Int → Bool → Int → Int → Int → Int → Int → Int → Int → Int → Int → Option (List Int × Int)
 | 0, _, _, _, _, _, _, _, _, _, _, _, _, _ => none
 | k + 1, x4, x316000, x316001, x316002, x316003, x316004, x316005, x316006, x316007, x316008, x316009, x316010, x316011 => if x316000 = 3 then ((thalwegref01_Int.f k x316008).bind fun t327 => (if x4.length + t327.length < 140737488355328 then ((some (x4 ++ t327 : List Int)).bind fun y330 => ((some (([(x316009) % 256, (x316010) % 256] : List Int) : List Int)).bind fun y333 => (if y330.length + y333.length < 140737488355328 then (if x316000 = 4 then (none) else (some ((y330 ++ y333), 0))) else (none)))) else (none))) else (if x316000 = 4 then ((some (([(wrap64 (Int.tdiv x316011 256)) % 256, (Int.tmod x316011 256) % 256] : List Int) : List Int)).bind fun y339 => (if x4.length + y339.length < 140737488355328 then (some ((x4 ++ y339), 0)) else (none))) else (some (x4, 0)))
end
def thalwegref04_Bytes.f (k : Nat) (a0_0 : Int) (a0_1 : Int) (a0_2 : Bool) (a0_3 : Int) (a0_4 : Int) (a0_5 : Int) (a0_6 : Int) (a0_7 : Int) (a0_8 : Int) (a0_9 : Int) (a0_10 : Int) (a0_11 : Int) : Option (List Int × Int) := (thalwegref04_Right.f k a0_0 a0_1 a0_2 a0_3 a0_4 a0_5 a0_6 a0_7 a0_8 a0_9 a0_10 a0_11).bind fun t316 => (if t316 = true then ((some (([(a0_0) % 256, (a0_1) % 256] : List Int) : List Int)).bind fun y317 => (if a0_0 = 2 then (thalwegref04_Bytes.j0 k y317 true a0_0 a0_1 a0_2 a0_3 a0_4 a0_5 a0_6 a0_7 a0_8 a0_9 a0_10 a0_11) else (thalwegref04_Bytes.j0 k y317 (a0_0 == 4) a0_0 a0_1 a0_2 a0_3 a0_4 a0_5 a0_6 a0_7 a0_8 a0_9 a0_10 a0_11))) else (some (([] : List Int), 1)))
theorem thalwegref04_Bytes.mono_l : ∀ k, (∀ y0 y1 y2 y3 y4 y5 y6 y7 y8 y9 y10 y11 y12 y13, LeO (thalwegref04_Bytes.j0 k y0 y1 y2 y3 y4 y5 y6 y7 y8 y9 y10 y11 y12 y13) (thalwegref04_Bytes.j0 (k + 1) y0 y1 y2 y3 y4 y5 y6 y7 y8 y9 y10 y11 y12 y13)) ∧ (∀ y0 y1 y2 y3 y4 y5 y6 y7 y8 y9 y10 y11 y12, LeO (thalwegref04_Bytes.j1 k y0 y1 y2 y3 y4 y5 y6 y7 y8 y9 y10 y11 y12) (thalwegref04_Bytes.j1 (k + 1) y0 y1 y2 y3 y4 y5 y6 y7 y8 y9 y10 y11 y12))
 | 0 => ⟨fun _ _ _ _ _ _ _ _ _ _ _ _ _ _ r h => by simp [thalwegref04_Bytes.j0] at h, fun _ _ _ _ _ _ _ _ _ _ _ _ _ r h => by simp [thalwegref04_Bytes.j1] at h⟩
 | k + 1 => by
  obtain ⟨ih0, ih1⟩ := thalwegref04_Bytes.mono_l k
  refine ⟨?_, ?_⟩
  ·intro y0 y1 y2 y3 y4 y5 y6 y7 y8 y9 y10 y11 y12 y13
   unfold thalwegref04_Bytes.j0
   repeat' first
   | (with_reducible exact ih0 _ _ _ _ _ _ _ _ _ _ _ _ _ _)
   | (with_reducible exact ih1 _ _ _ _ _ _ _ _ _ _ _ _ _)
   | (with_reducible exact thalwegref01_Int.mono _ _)
   | (with_reducible exact thalwegref02_Bytes.mono _ _ _ _ _ _ _)
   | (with_reducible exact thalwegref04_Right.mono _ _ _ _ _ _ _ _ _ _ _ _ _)
   | (with_reducible exact LeO.refl _)
   | (with_reducible exact LeO.none _)
   | (with_reducible refine LeO.ite ?_ ?_)
   | (with_reducible refine LeO.bind ?_ (fun _ => ?_))
   | exact ih0 _ _ _ _ _ _ _ _ _ _ _ _ _ _
   | exact ih1 _ _ _ _ _ _ _ _ _ _ _ _ _
   | exact thalwegref01_Int.mono _ _
   | exact thalwegref02_Bytes.mono _ _ _ _ _ _ _
   | exact thalwegref04_Right.mono _ _ _ _ _ _ _ _ _ _ _ _ _
   | exact LeO.none _
   | refine LeO.ite ?_ ?_
   | refine LeO.bind ?_ (fun _ => ?_)
  intro y0 y1 y2 y3 y4 y5 y6 y7 y8 y9 y10 y11 y12
  unfold thalwegref04_Bytes.j1
  repeat' first
  | (with_reducible exact ih0 _ _ _ _ _ _ _ _ _ _ _ _ _ _)
  | (with_reducible exact ih1 _ _ _ _ _ _ _ _ _ _ _ _ _)
  | (with_reducible exact thalwegref01_Int.mono _ _)
  | (with_reducible exact thalwegref02_Bytes.mono _ _ _ _ _ _ _)
  | (with_reducible exact thalwegref04_Right.mono _ _ _ _ _ _ _ _ _ _ _ _ _)
  | (with_reducible exact LeO.refl _)
  | (with_reducible exact LeO.none _)
  | (with_reducible refine LeO.ite ?_ ?_)
  | (with_reducible refine LeO.bind ?_ (fun _ => ?_))
  | exact ih0 _ _ _ _ _ _ _ _ _ _ _ _ _ _
  | exact ih1 _ _ _ _ _ _ _ _ _ _ _ _ _
  | exact thalwegref01_Int.mono _ _
  | exact thalwegref02_Bytes.mono _ _ _ _ _ _ _
  | exact thalwegref04_Right.mono _ _ _ _ _ _ _ _ _ _ _ _ _
  | exact LeO.none _
  | refine LeO.ite ?_ ?_
  | refine LeO.bind ?_ (fun _ => ?_)
theorem thalwegref04_Bytes.mono : ∀ a0 a1 a2 a3 a4 a5 a6 a7 a8 a9 a10 a11 k, LeO (thalwegref04_Bytes.f k a0 a1 a2 a3 a4 a5 a6 a7 a8 a9 a10 a11) (thalwegref04_Bytes.f (k + 1) a0 a1 a2 a3 a4 a5 a6 a7 a8 a9 a10 a11) := by
 intro a0 a1 a2 a3 a4 a5 a6 a7 a8 a9 a10 a11 k
 obtain ⟨ih0, ih1⟩ := thalwegref04_Bytes.mono_l k
 unfold thalwegref04_Bytes.f
 repeat' first
   | (with_reducible exact ih0 _ _ _ _ _ _ _ _ _ _ _ _ _ _)
   | (with_reducible exact ih1 _ _ _ _ _ _ _ _ _ _ _ _ _)
   | (with_reducible exact thalwegref01_Int.mono _ _)
   | (with_reducible exact thalwegref02_Bytes.mono _ _ _ _ _ _ _)
   | (with_reducible exact thalwegref04_Right.mono _ _ _ _ _ _ _ _ _ _ _ _ _)
   | (with_reducible exact LeO.refl _)
   | (with_reducible exact LeO.none _)
   | (with_reducible refine LeO.ite ?_ ?_)
   | (with_reducible refine LeO.bind ?_ (fun _ => ?_))
   | exact ih0 _ _ _ _ _ _ _ _ _ _ _ _ _ _
   | exact ih1 _ _ _ _ _ _ _ _ _ _ _ _ _
   | exact thalwegref01_Int.mono _ _
   | exact thalwegref02_Bytes.mono _ _ _ _ _ _ _
   | exact thalwegref04_Right.mono _ _ _ _ _ _ _ _ _ _ _ _ _
   | exact LeO.none _
   | refine LeO.ite ?_ ?_
   | refine LeO.bind ?_ (fun _ => ?_)
theorem thalwegref04_Bytes.calls (k : Nat) (a0_0 : Int) (a0_1 : Int) (a0_2 : Bool) (a0_3 : Int) (a0_4 : Int) (a0_5 : Int) (a0_6 : Int) (a0_7 : Int) (a0_8 : Int) (a0_9 : Int) (a0_10 : Int) (a0_11 : Int) (r1 : List Int) (r2 : Int) (w : World) (h : thalwegref04_Bytes.f k a0_0 a0_1 a0_2 a0_3 a0_4 a0_5 a0_6 a0_7 a0_8 a0_9 a0_10 a0_11 = some (r1, r2)) :
  Calls Try.prog 68 #[.agg #[.int .i64 a0_0, .int .i64 a0_1, .bool a0_2, .int .i64 a0_3, .int .i64 a0_4, .int .i64 a0_5, .int .i64 a0_6, .int .i64 a0_7, .int .i64 a0_8, .int .i64 a0_9, .int .i64 a0_10, .int .i64 a0_11]] w fun e w' => ∃ v0_ : Value, e = .returned (.tuple #[v0_, .int .i64 r2]) ∧ Kd.R (Kd.int .u8) 5 w' w.heap.size (fun _ => True) v0_ r1 ∧ Below w.heap.size w w' := by
 have hu34 := Try.underlying34
 have hu30 := Try.underlying30
 have HB := YL (Below.refl w.heap.size w)
 have H : ((thalwegref04_Right.f k a0_0 a0_1 a0_2 a0_3 a0_4 a0_5 a0_6 a0_7 a0_8 a0_9 a0_10 a0_11).bind fun t316 => (if t316 = true then ((some (([(a0_0) % 256, (a0_1) % 256] : List Int) : List Int)).bind fun y317 => (if a0_0 = 2 then (thalwegref04_Bytes.j0 k y317 true a0_0 a0_1 a0_2 a0_3 a0_4 a0_5 a0_6 a0_7 a0_8 a0_9 a0_10 a0_11) else (thalwegref04_Bytes.j0 k y317 (a0_0 == 4) a0_0 a0_1 a0_2 a0_3 a0_4 a0_5 a0_6 a0_7 a0_8 a0_9 a0_10 a0_11))) else (some (([] : List Int), 1)))) = some (r1, r2) := h
 clear h; replace H := Option.bind_eq_some_iff.mp H; obtain ⟨t316, A20, H⟩ := H
 replace H : (if t316 = true then ((some (([(a0_0) % 256, (a0_1) % 256] : List Int) : List Int)).bind fun y317 => (if a0_0 = 2 then (thalwegref04_Bytes.j0 k y317 true a0_0 a0_1 a0_2 a0_3 a0_4 a0_5 a0_6 a0_7 a0_8 a0_9 a0_10 a0_11) else (thalwegref04_Bytes.j0 k y317 (a0_0 == 4) a0_0 a0_1 a0_2 a0_3 a0_4 a0_5 a0_6 a0_7 a0_8 a0_9 a0_10 a0_11))) else (some (([] : List Int), 1))) = some (r1, r2) := H
 have A2 := YL A20; clear A20
 by_cases c3 : t316 = true
 ·subst c3
  have H1 : ((some (([(a0_0) % 256, (a0_1) % 256] : List Int) : List Int)).bind fun y317 => (if a0_0 = 2 then (thalwegref04_Bytes.j0 k y317 true a0_0 a0_1 a0_2 a0_3 a0_4 a0_5 a0_6 a0_7 a0_8 a0_9 a0_10 a0_11) else (thalwegref04_Bytes.j0 k y317 (a0_0 == 4) a0_0 a0_1 a0_2 a0_3 a0_4 a0_5 a0_6 a0_7 a0_8 a0_9 a0_10 a0_11))) = some (r1, r2) := by rw [if_pos rfl] at H; exact H
  clear H
  have H := H1
  clear H1
  obtain ⟨y317, hy317⟩ : ∃ y_ : List Int, y_ = (([(a0_0) % 256, (a0_1) % 256] : List Int)) := ⟨_, rfl⟩
  replace H : (if a0_0 = 2 then (thalwegref04_Bytes.j0 k y317 true a0_0 a0_1 a0_2 a0_3 a0_4 a0_5 a0_6 a0_7 a0_8 a0_9 a0_10 a0_11) else (thalwegref04_Bytes.j0 k y317 (a0_0 == 4) a0_0 a0_1 a0_2 a0_3 a0_4 a0_5 a0_6 a0_7 a0_8 a0_9 a0_10 a0_11)) = some (r1, r2) := by first | (rw [hy317]; with_reducible exact H) | (have H2_ := (Option.bind_some _ _).symm.trans H; rw [hy317]; with_reducible exact H2_) | (have H2_ := (Option.bind_some _ _).symm.trans H; with_reducible exact H2_) | with_reducible exact H | (rw [hy317]; exact H) | exact H
  have Ny317 := YL hy317; clear hy317; have HC4 := YL H; clear H
  go_enter Try.func68, Try.ntmps68
  go_upto_region 4 with (first | ((with_reducible refine gate_dst (N := 1) rfl ?_); refine box_event ?hg (N := 1) ?hd (cs := #[.int .i64 a0_0, .int .i64 a0_1, .bool a0_2, .int .i64 a0_3, .int .i64 a0_4, .int .i64 a0_5, .int .i64 a0_6, .int .i64 a0_7, .int .i64 a0_8, .int .i64 a0_9, .int .i64 a0_10, .int .i64 a0_11]) (t := 34) ?hr ?_; (case hd => rfl); (case hg => rfl); (case hr => first | (go_simp; done) | (go_simp; rfl)); intro gb315 hg w5 hbox hb; have n0_ := YL (YD (upB HB) hb); have n1_ := YL (hbox); have n2_ := YL ((by rw [hg]; exact (YE (upB HB)) : w.heap.size ≤ gb315)); have n3_ := YL ((by rw [hg]; exact (YE (upB HB)) : w.heap.size ≤ gb315)); clear HB; have HB := n0_; have BK315 := n1_; have GW315 := n2_; have GE315 := n3_; clear n0_ n1_ n2_ n3_; clear hb hbox hg; obtain ⟨q6_0, q6_1, q6_2, q6_3, q6_4, q6_5, q6_6, q6_7, q6_8, q6_9, q6_10, q6_11⟩ := cA12 BK315.out; obtain ⟨f6_0, f6_1, f6_2, f6_3, f6_4, f6_5, f6_6, f6_7, f6_8, f6_9, f6_10, f6_11⟩ := fA12 BK315.out) | ((with_reducible refine gate_callee (f := 39) rfl ?_); refine goesA (some 8) Try.func39 #[.agg #[.int .i64 a0_0, .int .i64 a0_1, .bool a0_2, .int .i64 a0_3, .int .i64 a0_4, .int .i64 a0_5, .int .i64 a0_6, .int .i64 a0_7, .int .i64 a0_8, .int .i64 a0_9, .int .i64 a0_10, .int .i64 a0_11]] ?_; (with_reducible refine (thalwegref04_Right.calls k a0_0 a0_1 a0_2 a0_3 a0_4 a0_5 a0_6 a0_7 a0_8 a0_9 a0_10 a0_11 true _ A2.out).mono ?_); rintro e w7 ⟨rfl, hb⟩; refine ⟨_, rfl, ?_⟩; have n0_ := YL (YK (g := gb315) (o := .cells #[.int .i64 a0_0, .int .i64 a0_1, .bool a0_2, .int .i64 a0_3, .int .i64 a0_4, .int .i64 a0_5, .int .i64 a0_6, .int .i64 a0_7, .int .i64 a0_8, .int .i64 a0_9, .int .i64 a0_10, .int .i64 a0_11] 34 (0, 0)) (upK BK315) hb); have n1_ := YL (YD (upB HB) hb); clear BK315; clear HB; have BK315 := n0_; have HB := n1_; clear n0_ n1_; (try clear hb); (try clear hb2); (try clear hk); (try clear hi); obtain ⟨q8_0, q8_1, q8_2, q8_3, q8_4, q8_5, q8_6, q8_7, q8_8, q8_9, q8_10, q8_11⟩ := cA12 BK315.out; obtain ⟨f8_0, f8_1, f8_2, f8_3, f8_4, f8_5, f8_6, f8_7, f8_8, f8_9, f8_10, f8_11⟩ := fA12 BK315.out) | ((with_reducible refine gate_dst (N := 16) rfl ?_); refine Kd.R_lit (Kd.int .u8) _ 5 ?hg (N := 16) ?hd (xs := ([(a0_0) % 256, (a0_1) % 256] : List Int)) (inner := [.int .u8 ((a0_0) % 256), .int .u8 ((a0_1) % 256)]) (ok := fun _ => True) (okp := fun _ => True) ?hr ?hp (fun _ hk => hk) trivial (Below.refl _ _) (Nat.le_refl _) (by simp) ?_; (case hd => rfl); (case hg => rfl); (case hr => first | (go_simp; done) | (go_simp; rfl)); (case hp => exact (Reps.one (show Kd.M (Kd.int .u8) _ _ _ ((a0_0) % 256) [.int .u8 ((a0_0) % 256)] from rfl) (Reps.one (show Kd.M (Kd.int .u8) _ _ _ ((a0_1) % 256) [.int .u8 ((a0_1) % 256)] from rfl) (Reps.none _ _)))); intro v318 w9 ho10 hb hg_ hnew_; clear hg_ hnew_; (first | rw [← Ny317.out] at ho10 | (simp only [Int.reduceToNat] at ho10; rw [← Ny317.out] at ho10)); have n0_ := YL (Kd.R_lower ho10 (YE (upB HB))); have n1_ := YL (YK (g := gb315) (o := .cells #[.int .i64 a0_0, .int .i64 a0_1, .bool a0_2, .int .i64 a0_3, .int .i64 a0_4, .int .i64 a0_5, .int .i64 a0_6, .int .i64 a0_7, .int .i64 a0_8, .int .i64 a0_9, .int .i64 a0_10, .int .i64 a0_11] 34 (0, 0)) (upK BK315) hb); have n2_ := YL (YD (upB HB) hb); clear BK315; clear HB; have HO319 := n0_; have BK315 := n1_; have HB := n2_; clear n0_ n1_ n2_; clear hb ho10))
  (try simp only [Act.put, List.setIfInBounds_toArray, List.set_cons_zero, List.set_cons_succ])
  go_cut [24] (fun v24 wc => ∃ (kq : Nat) (x24_3 : Bool), v24 = .bool x24_3 ∧ Aside0 (thalwegref04_Bytes.j0 kq y317 x24_3 a0_0 a0_1 a0_2 a0_3 a0_4 a0_5 a0_6 a0_7 a0_8 a0_9 a0_10 a0_11 = some (r1, r2)) ∧ Aside0 (kq ≤ k) ∧ Aside0 (Kd.R (Kd.int .u8) 5 wc w.heap.size (fun _ => True) v318 y317) ∧ Aside0 (wc.heap[gb315]? = some (.cells #[.int .i64 a0_0, .int .i64 a0_1, .bool a0_2, .int .i64 a0_3, .int .i64 a0_4, .int .i64 a0_5, .int .i64 a0_6, .int .i64 a0_7, .int .i64 a0_8, .int .i64 a0_9, .int .i64 a0_10, .int .i64 a0_11] 34 (0, 0))) ∧ Aside0 (Below w.heap.size w wc))
  case first =>
   have H := HC4.out
   clear HC4
   by_cases c11 : a0_0 = 2
   ·rw [if_pos c11] at H
    have c11b0 : (a0_0 == 2) = true := beq_iff_eq.mpr c11
    have c11b1 : (a0_0 != 2) = false := bne_eq_false_iff_eq.mpr c11
    clear c11
    (first | rw [c11b0] | (simp only [i64_w, i32_w]; rw [c11b0]) | rw [c11b1] | skip)
    have H' := YL H
    clear H
    obtain ⟨q12_0, q12_1, q12_2, q12_3, q12_4, q12_5, q12_6, q12_7, q12_8, q12_9, q12_10, q12_11⟩ := cA12 BK315.out
    obtain ⟨f12_0, f12_1, f12_2, f12_3, f12_4, f12_5, f12_6, f12_7, f12_8, f12_9, f12_10, f12_11⟩ := fA12 BK315.out
    go_wp2
    go_meet
    case rel => exact ⟨_, (true), (by first | rfl | (simp; done) | (simp [*]; done)), H', ⟨by first | omega | exact Nat.le_refl _⟩, ⟨by (with_reducible repeat (first | apply YP | apply YQ | apply YR)); exact HO319.out⟩, ⟨by (with_reducible repeat (first | refine YF ?_ _ | refine YG ?_ | refine YH ?_ _)); exact BK315.out⟩, ⟨by repeat (first | (with_reducible first | exact HB.out | apply YA | apply YB | apply YC | refine below_set ?_ GE315.out) | exact HB.out)⟩⟩
   rw [if_neg c11] at H
   have c11b0 : (a0_0 == 2) = false := beq_eq_false_iff_ne.mpr c11
   have c11b1 : (a0_0 != 2) = true := bne_iff_ne.mpr c11
   (first | rw [c11b0] | (simp only [i64_w, i32_w]; rw [c11b0]) | rw [c11b1] | skip)
   have H' := YL H
   clear H
   obtain ⟨q13_0, q13_1, q13_2, q13_3, q13_4, q13_5, q13_6, q13_7, q13_8, q13_9, q13_10, q13_11⟩ := cA12 BK315.out
   obtain ⟨f13_0, f13_1, f13_2, f13_3, f13_4, f13_5, f13_6, f13_7, f13_8, f13_9, f13_10, f13_11⟩ := fA12 BK315.out
   go_wp2
   go_meet
   case rel => exact ⟨_, ((a0_0 == 4)), (by first | rfl | (simp; done) | (simp [*]; done)), H', ⟨by first | omega | exact Nat.le_refl _⟩, ⟨by (with_reducible repeat (first | apply YP | apply YQ | apply YR)); exact HO319.out⟩, ⟨by (with_reducible repeat (first | refine YF ?_ _ | refine YG ?_ | refine YH ?_ _)); exact BK315.out⟩, ⟨by repeat (first | (with_reducible first | exact HB.out | apply YA | apply YB | apply YC | refine below_set ?_ GE315.out) | exact HB.out)⟩⟩
  case rest =>
   clear HC4
   try clear c1; try clear p2
   try clear c3; try clear c6
   try clear c11; try clear c11b0
   try clear c11b1; try clear q12_0
   try clear q12_1; try clear q12_10
   try clear q12_11; try clear q12_2
   try clear q12_3; try clear q12_4
   try clear q12_5; try clear q12_6
   try clear q12_7; try clear q12_8
   try clear q12_9; try clear q13_0
   try clear q13_1; try clear q13_10
   try clear q13_11; try clear q13_2
   try clear q13_3; try clear q13_4
   try clear q13_5; try clear q13_6
   try clear q13_7; try clear q13_8
   try clear q13_9; try clear q6_0
   try clear q6_1; try clear q6_10
   try clear q6_11; try clear q6_2
   try clear q6_3; try clear q6_4
   try clear q6_5; try clear q6_6
   try clear q6_7; try clear q6_8
   try clear q6_9; try clear q8_0
   try clear q8_1; try clear q8_10
   try clear q8_11; try clear q8_2
   try clear q8_3; try clear q8_4
   try clear q8_5; try clear q8_6
   try clear q8_7; try clear q8_8
   try clear q8_9; try clear f12_0
   try clear f12_1; try clear f12_10
   try clear f12_11; try clear f12_2
   try clear f12_3; try clear f12_4
   try clear f12_5; try clear f12_6
   try clear f12_7; try clear f12_8
   try clear f12_9; try clear f13_0
   try clear f13_1; try clear f13_10
   try clear f13_11; try clear f13_2
   try clear f13_3; try clear f13_4
   try clear f13_5; try clear f13_6
   try clear f13_7; try clear f13_8
   try clear f13_9; try clear f6_0
   try clear f6_1; try clear f6_10
   try clear f6_11; try clear f6_2
   try clear f6_3; try clear f6_4
   try clear f6_5; try clear f6_6
   try clear f6_7; try clear f6_8
   try clear f6_9; try clear f8_0
   try clear f8_1; try clear f8_10
   try clear f8_11; try clear f8_2
   try clear f8_3; try clear f8_4
   try clear f8_5; try clear f8_6
   try clear f8_7; try clear f8_8; try clear f8_9
   obtain ⟨kq, x24_3, rfl, HA, HJ3, HO_4, BK315, HB⟩ := hcut
   cases kq with
   | zero => exact absurd HA.out (by simp [thalwegref04_Bytes.j0])
   | succ kj3 =>
    have H := HA.out
    clear HA
    simp only [thalwegref04_Bytes.j0] at H
    have HC14 := YL H; clear H
    go_upto_if 24 with (fail)
    go_cut [4] (fun v4 wc => ∃ (kq : Nat) (x4_13 : List Int), Aside0 (thalwegref04_Bytes.j1 kq x4_13 a0_0 a0_1 a0_2 a0_3 a0_4 a0_5 a0_6 a0_7 a0_8 a0_9 a0_10 a0_11 = some (r1, r2)) ∧ Aside0 (kq ≤ kj3) ∧ Aside0 (Kd.R (Kd.int .u8) 5 wc w.heap.size (fun _ => True) v4 x4_13) ∧ Aside0 (wc.heap[gb315]? = some (.cells #[.int .i64 a0_0, .int .i64 a0_1, .bool a0_2, .int .i64 a0_3, .int .i64 a0_4, .int .i64 a0_5, .int .i64 a0_6, .int .i64 a0_7, .int .i64 a0_8, .int .i64 a0_9, .int .i64 a0_10, .int .i64 a0_11] 34 (0, 0))) ∧ Aside0 (Below w.heap.size w wc))
    case first =>
     have H := HC14.out
     clear HC14
     by_cases c15 : x24_3 = true
     ·subst c15
      have H1 : ((thalwegref02_Bytes.f kj3 a0_2 a0_3 a0_4 a0_5 a0_6 a0_7).bind fun bt320 => (if y317.length + bt320.1.length < 140737488355328 then (thalwegref04_Bytes.j1 kj3 (y317 ++ bt320.1) a0_0 a0_1 a0_2 a0_3 a0_4 a0_5 a0_6 a0_7 a0_8 a0_9 a0_10 a0_11) else (none))) = some (r1, r2) := by rw [if_pos rfl] at H; exact H
      clear H
      have H := H1
      clear H1; replace H := Option.bind_eq_some_iff.mp H
      obtain ⟨⟨t320, t323⟩, A160, H⟩ := H
      replace H : (if y317.length + t320.length < 140737488355328 then (thalwegref04_Bytes.j1 kj3 (y317 ++ t320) a0_0 a0_1 a0_2 a0_3 a0_4 a0_5 a0_6 a0_7 a0_8 a0_9 a0_10 a0_11) else (none)) = some (r1, r2) := H
      have A16 := YL A160; clear A160
      by_cases c17 : y317.length + t320.length < 140737488355328
      rotate_left
      ·rw [if_neg c17] at H
       exact absurd H (by simp)
      rw [if_pos c17] at H; have LMc17 := YL c17; clear c17
      obtain ⟨y324, hy324⟩ : ∃ y_ : List Int, y_ = (y317 ++ t320) := ⟨_, rfl⟩
      replace H : (thalwegref04_Bytes.j1 kj3 y324 a0_0 a0_1 a0_2 a0_3 a0_4 a0_5 a0_6 a0_7 a0_8 a0_9 a0_10 a0_11) = some (r1, r2) := by first | (rw [hy324]; with_reducible exact H) | (have H2_ := (Option.bind_some _ _).symm.trans H; rw [hy324]; with_reducible exact H2_) | (have H2_ := (Option.bind_some _ _).symm.trans H; with_reducible exact H2_) | with_reducible exact H | (rw [hy324]; exact H) | exact H
      have Ny324 := YL hy324; clear hy324
      have H' := YL H
      clear H
      obtain ⟨q18_0, q18_1, q18_2, q18_3, q18_4, q18_5, q18_6, q18_7, q18_8, q18_9, q18_10, q18_11⟩ := cA12 BK315.out
      obtain ⟨f18_0, f18_1, f18_2, f18_3, f18_4, f18_5, f18_6, f18_7, f18_8, f18_9, f18_10, f18_11⟩ := fA12 BK315.out
      go_wp2_with (first | ((with_reducible refine gate_callee (f := 71) rfl ?_); refine goesA (some 28) Try.func71 #[.agg #[.bool a0_2, .int .i64 a0_3, .int .i64 a0_4, .int .i64 a0_5, .int .i64 a0_6, .int .i64 a0_7]] ?_; (with_reducible refine (thalwegref02_Bytes.calls kj3 a0_2 a0_3 a0_4 a0_5 a0_6 a0_7 t320 t323 _ A16.out).mono ?_); rintro e w19 ⟨v321, rfl, ho0, hb⟩; refine ⟨_, rfl, ?_⟩; have n0_ := YL (Kd.R_elder' (upR HO_4) (Kd.R_base ho0) hb); have n1_ := YL (Kd.R_lower (Kd.R_new' ho0 (Kd.R_lt (upR HO_4))) (YE (upB HB))); have n2_ := YL (YK (g := gb315) (o := .cells #[.int .i64 a0_0, .int .i64 a0_1, .bool a0_2, .int .i64 a0_3, .int .i64 a0_4, .int .i64 a0_5, .int .i64 a0_6, .int .i64 a0_7, .int .i64 a0_8, .int .i64 a0_9, .int .i64 a0_10, .int .i64 a0_11] 34 (0, 0)) (upK BK315) hb); have n3_ := YL (YD (upB HB) hb); clear HO_4; clear BK315; clear HB; have HO_4 := n0_; have HO322 := n1_; have BK315 := n2_; have HB := n3_; clear n0_ n1_ n2_ n3_; (try clear hb); (try clear hb2); (try clear hk); (try clear hi); (try clear ho0); obtain ⟨Ao21, co21, eo21⟩ := Kd.R_slice HO322.out; subst eo21) | ((with_reducible refine gate_builtin (b := .append) (xs := #[.tmp 31, .tmp 32]) rfl ?_); at_builtin; refine Kd.R_append_rows (Kd.int .u8) (w0 := w) w.heap.size rfl (.tmp 31) (.tmp 32) 107 5 (.int .u8 0) 1 rfl Try.underlying107 info5 rfl (by decide) (by omega) v318 y317 t320 _ _ _ (fun k_ => some k_ ≠ (.slice Ao21 t320.length co21 : Value).ownBlock) (fun _ => False) rfl rfl ?aO ?aR (fun _ _ h => h) (fun _ h => h.elim) ?aF ?aB ?aS ?aL ?_; (case aR => repeat (first | exact (Kd.R_reads' HO322.out).2.2 | (with_reducible refine Kd.C_alloc ?_ _) | (with_reducible refine Kd.C_drewN ?_ _) | (with_reducible refine Kd.C_drew ?_))); (case aB => exact (upB HB)); (case aF => exact (fun k_ hk => Kd.fresh' (Kd.R_lt (upR HO322)) k_ hk)); (case aO => exact (by (with_reducible repeat (first | apply YP | apply YQ | apply YR)); exact Kd.R_mono HO_4.out (fun _ hk => by first | exact hk.2 | exact trivial | (simp [hk]; done) | simp_all))); (case aS => exact (YE (upB HB))); (case aL => have := LMc17.out; omega); intro v325 w20 ho hb hg hat; rw [← Ny324.out] at ho; have n0_ := YL (blk_grown (g := gb315) (o := .cells #[.int .i64 a0_0, .int .i64 a0_1, .bool a0_2, .int .i64 a0_3, .int .i64 a0_4, .int .i64 a0_5, .int .i64 a0_6, .int .i64 a0_7, .int .i64 a0_8, .int .i64 a0_9, .int .i64 a0_10, .int .i64 a0_11] 34 (0, 0)) (upK BK315) hg (Kd.R_ne HO_4.out BK315.out (by decide))); have n1_ := YL (Kd.R_after (ok := (fun _ => True)) (upR HO322) hg hat); have n2_ := YL (hb); have n3_ := YL (ho); clear BK315; clear HO322; clear HB; clear HO_4; have BK315 := n0_; have HO322 := n1_; have HB := n2_; have HO326 := n3_; clear n0_ n1_ n2_ n3_; clear ho hb hg hat))
      go_meet
      case rel => exact ⟨_, (y324), H', ⟨by have := HJ3.out; first | omega | exact Nat.le_refl _⟩, ⟨by (with_reducible repeat (first | apply YP | apply YQ | apply YR)); exact Kd.R_mono HO326.out (fun _ hk => trivial)⟩, ⟨by (with_reducible repeat (first | refine YF ?_ _ | refine YG ?_ | refine YH ?_ _)); exact BK315.out⟩, ⟨by repeat (first | (with_reducible first | exact HB.out | apply YA | apply YB | apply YC | refine below_set ?_ GE315.out) | exact HB.out)⟩⟩
     replace c15 := Bool.eq_false_iff.mpr c15
     subst c15
     have H1 : (thalwegref04_Bytes.j1 kj3 y317 a0_0 a0_1 a0_2 a0_3 a0_4 a0_5 a0_6 a0_7 a0_8 a0_9 a0_10 a0_11) = some (r1, r2) := by rw [if_neg (show ¬ (false = true) by decide)] at H; exact H
     clear H
     have H := H1
     clear H1
     have H' := YL H
     clear H
     go_wp2
     go_meet
     case rel => exact ⟨_, (y317), H', ⟨by have := HJ3.out; first | omega | exact Nat.le_refl _⟩, ⟨by (with_reducible repeat (first | apply YP | apply YQ | apply YR)); exact HO_4.out⟩, ⟨by (with_reducible repeat (first | refine YF ?_ _ | refine YG ?_ | refine YH ?_ _)); exact BK315.out⟩, ⟨by repeat (first | (with_reducible first | exact HB.out | apply YA | apply YB | apply YC | refine below_set ?_ GE315.out) | exact HB.out)⟩⟩
    case rest =>
     clear HC14
     try clear c1; try clear p2
     try clear c3; try clear c6
     try clear c7; try clear c11
     try clear c11b0; try clear c11b1
     try clear c15; try clear c17
     try clear q12_0; try clear q12_1
     try clear q12_10; try clear q12_11
     try clear q12_2; try clear q12_3
     try clear q12_4; try clear q12_5
     try clear q12_6; try clear q12_7
     try clear q12_8; try clear q12_9
     try clear q13_0; try clear q13_1
     try clear q13_10; try clear q13_11
     try clear q13_2; try clear q13_3
     try clear q13_4; try clear q13_5
     try clear q13_6; try clear q13_7
     try clear q13_8; try clear q13_9
     try clear q18_0; try clear q18_1
     try clear q18_10; try clear q18_11
     try clear q18_2; try clear q18_3
     try clear q18_4; try clear q18_5
     try clear q18_6; try clear q18_7
     try clear q18_8; try clear q18_9
     try clear q6_0; try clear q6_1
     try clear q6_10; try clear q6_11
     try clear q6_2; try clear q6_3
     try clear q6_4; try clear q6_5
     try clear q6_6; try clear q6_7
     try clear q6_8; try clear q6_9
     try clear q8_0; try clear q8_1
     try clear q8_10; try clear q8_11
     try clear q8_2; try clear q8_3
     try clear q8_4; try clear q8_5
     try clear q8_6; try clear q8_7
     try clear q8_8; try clear q8_9
     try clear f12_0; try clear f12_1
     try clear f12_10; try clear f12_11
     try clear f12_2; try clear f12_3
     try clear f12_4; try clear f12_5
     try clear f12_6; try clear f12_7
     try clear f12_8; try clear f12_9
     try clear f13_0; try clear f13_1
     try clear f13_10; try clear f13_11
     try clear f13_2; try clear f13_3
     try clear f13_4; try clear f13_5
     try clear f13_6; try clear f13_7
     try clear f13_8; try clear f13_9
     try clear f18_0; try clear f18_1
     try clear f18_10; try clear f18_11
     try clear f18_2; try clear f18_3
     try clear f18_4; try clear f18_5
     try clear f18_6; try clear f18_7
     try clear f18_8; try clear f18_9
     try clear f6_0; try clear f6_1
     try clear f6_10; try clear f6_11
     try clear f6_2; try clear f6_3
     try clear f6_4; try clear f6_5
     try clear f6_6; try clear f6_7
     try clear f6_8; try clear f6_9
     try clear f8_0; try clear f8_1
     try clear f8_10; try clear f8_11
     try clear f8_2; try clear f8_3
     try clear f8_4; try clear f8_5
     try clear f8_6; try clear f8_7
     try clear f8_8; try clear f8_9; try clear p2
     obtain ⟨kq, x4_13, HA, HJ13, HO_4, BK315, HB⟩ := hcut
     cases kq with
     | zero => exact absurd HA.out (by simp [thalwegref04_Bytes.j1])
     | succ kj13 =>
      have H := HA.out
      clear HA
      simp only [thalwegref04_Bytes.j1] at H
      by_cases c22 : a0_0 = 3
      ·rw [if_pos c22] at H
       have c22b0 : (a0_0 == 3) = true := beq_iff_eq.mpr c22
       have c22b1 : (a0_0 != 3) = false := bne_eq_false_iff_eq.mpr c22
       clear c22; replace H := Option.bind_eq_some_iff.mp H; obtain ⟨t327, A230, H⟩ := H
       replace H : (if x4_13.length + t327.length < 140737488355328 then ((some (x4_13 ++ t327 : List Int)).bind fun y330 => ((some (([(a0_9) % 256, (a0_10) % 256] : List Int) : List Int)).bind fun y333 => (if y330.length + y333.length < 140737488355328 then (if a0_0 = 4 then (none) else (some ((y330 ++ y333), 0))) else (none)))) else (none)) = some (r1, r2) := H
       have A23 := YL A230; clear A230
       by_cases c24 : x4_13.length + t327.length < 140737488355328
       rotate_left
       ·rw [if_neg c24] at H
        exact absurd H (by simp)
       rw [if_pos c24] at H; have LMc24 := YL c24; clear c24
       obtain ⟨y330, hy330⟩ : ∃ y_ : List Int, y_ = (x4_13 ++ t327) := ⟨_, rfl⟩
       replace H : ((some (([(a0_9) % 256, (a0_10) % 256] : List Int) : List Int)).bind fun y333 => (if y330.length + y333.length < 140737488355328 then (if a0_0 = 4 then (none) else (some ((y330 ++ y333), 0))) else (none))) = some (r1, r2) := by first | (rw [hy330]; with_reducible exact H) | (have H2_ := (Option.bind_some _ _).symm.trans H; rw [hy330]; with_reducible exact H2_) | (have H2_ := (Option.bind_some _ _).symm.trans H; with_reducible exact H2_) | with_reducible exact H | (rw [hy330]; exact H) | exact H
       have Ny330 := YL hy330; clear hy330
       obtain ⟨y333, hy333⟩ : ∃ y_ : List Int, y_ = (([(a0_9) % 256, (a0_10) % 256] : List Int)) := ⟨_, rfl⟩
       replace H : (if y330.length + y333.length < 140737488355328 then (if a0_0 = 4 then (none) else (some ((y330 ++ y333), 0))) else (none)) = some (r1, r2) := by first | (rw [hy333]; with_reducible exact H) | (have H2_ := (Option.bind_some _ _).symm.trans H; rw [hy333]; with_reducible exact H2_) | (have H2_ := (Option.bind_some _ _).symm.trans H; with_reducible exact H2_) | with_reducible exact H | (rw [hy333]; exact H) | exact H
       have Ny333 := YL hy333; clear hy333
       by_cases c25 : y330.length + y333.length < 140737488355328
       rotate_left
       ·rw [if_neg c25] at H
        exact absurd H (by simp)
       rw [if_pos c25] at H; have LMc25 := YL c25; clear c25
       obtain ⟨y336, hy336⟩ : ∃ y_ : List Int, y_ = (y330 ++ y333) := ⟨_, rfl⟩
       replace H : (if a0_0 = 4 then (none) else (some (y336, 0))) = some (r1, r2) := by first | (rw [hy336]; with_reducible exact H) | (have H2_ := (Option.bind_some _ _).symm.trans H; rw [hy336]; with_reducible exact H2_) | (have H2_ := (Option.bind_some _ _).symm.trans H; with_reducible exact H2_) | with_reducible exact H | (rw [hy336]; exact H) | exact H
       have Ny336 := YL hy336; clear hy336
       by_cases c26 : a0_0 = 4
       ·rw [if_pos c26] at H
        exact absurd H (by simp)
       rw [if_neg c26] at H
       have c26b0 : (a0_0 == 4) = false := beq_eq_false_iff_ne.mpr c26
       have c26b1 : (a0_0 != 4) = true := bne_iff_ne.mpr c26
       simp only [Option.some.injEq, Prod.mk.injEq] at H
       obtain ⟨rfl, rfl⟩ := H
       obtain ⟨q27_0, q27_1, q27_2, q27_3, q27_4, q27_5, q27_6, q27_7, q27_8, q27_9, q27_10, q27_11⟩ := cA12 BK315.out
       obtain ⟨f27_0, f27_1, f27_2, f27_3, f27_4, f27_5, f27_6, f27_7, f27_8, f27_9, f27_10, f27_11⟩ := fA12 BK315.out
       go_wp2_with (first | ((with_reducible refine gate_callee (f := 72) rfl ?_); refine goesA (some 41) Try.func72 #[.int .i64 a0_8] ?_; (with_reducible refine (thalwegref01_Int.calls kj13 a0_8 t327 _ A23.out).mono ?_); rintro e w28 ⟨v328, rfl, ho0, hb⟩; refine ⟨_, rfl, ?_⟩; have n0_ := YL (Kd.R_elder' (upR HO_4) (Kd.R_base ho0) hb); have n1_ := YL (Kd.R_lower (Kd.R_new' ho0 (Kd.R_lt (upR HO_4))) (YE (upB HB))); have n2_ := YL (YK (g := gb315) (o := .cells #[.int .i64 a0_0, .int .i64 a0_1, .bool a0_2, .int .i64 a0_3, .int .i64 a0_4, .int .i64 a0_5, .int .i64 a0_6, .int .i64 a0_7, .int .i64 a0_8, .int .i64 a0_9, .int .i64 a0_10, .int .i64 a0_11] 34 (0, 0)) (upK BK315) hb); have n3_ := YL (YD (upB HB) hb); clear HO_4; clear BK315; clear HB; have HO_4 := n0_; have HO329 := n1_; have BK315 := n2_; have HB := n3_; clear n0_ n1_ n2_ n3_; (try clear hb); (try clear hb2); (try clear hk); (try clear hi); (try clear ho0); obtain ⟨Ao30, co30, eo30⟩ := Kd.R_slice HO329.out; subst eo30) | ((with_reducible refine gate_builtin (b := .append) (xs := #[.tmp 37, .tmp 41]) rfl ?_); at_builtin; refine Kd.R_append_rows (Kd.int .u8) (w0 := w) w.heap.size rfl (.tmp 37) (.tmp 41) 107 5 (.int .u8 0) 1 rfl Try.underlying107 info5 rfl (by decide) (by omega) u4 x4_13 t327 _ _ _ (fun k_ => some k_ ≠ (.slice Ao30 t327.length co30 : Value).ownBlock) (fun _ => False) rfl rfl ?aO ?aR (fun _ _ h => h) (fun _ h => h.elim) ?aF ?aB ?aS ?aL ?_; (case aR => repeat (first | exact (Kd.R_reads' HO329.out).2.2 | (with_reducible refine Kd.C_alloc ?_ _) | (with_reducible refine Kd.C_drewN ?_ _) | (with_reducible refine Kd.C_drew ?_))); (case aB => exact (upB HB)); (case aF => exact (fun k_ hk => Kd.fresh' (Kd.R_lt (upR HO329)) k_ hk)); (case aO => exact (by (with_reducible repeat (first | apply YP | apply YQ | apply YR)); exact Kd.R_mono HO_4.out (fun _ hk => by first | exact hk.2 | exact trivial | (simp [hk]; done) | simp_all))); (case aS => exact (YE (upB HB))); (case aL => have := LMc24.out; omega); intro v331 w29 ho hb hg hat; rw [← Ny330.out] at ho; have n0_ := YL (blk_grown (g := gb315) (o := .cells #[.int .i64 a0_0, .int .i64 a0_1, .bool a0_2, .int .i64 a0_3, .int .i64 a0_4, .int .i64 a0_5, .int .i64 a0_6, .int .i64 a0_7, .int .i64 a0_8, .int .i64 a0_9, .int .i64 a0_10, .int .i64 a0_11] 34 (0, 0)) (upK BK315) hg (Kd.R_ne HO_4.out BK315.out (by decide))); have n1_ := YL (Kd.R_after (ok := (fun _ => True)) (upR HO329) hg hat); have n2_ := YL (hb); have n3_ := YL (ho); clear BK315; clear HO329; clear HB; clear HO_4; have BK315 := n0_; have HO329 := n1_; have HB := n2_; have HO332 := n3_; clear n0_ n1_ n2_ n3_; clear ho hb hg hat; obtain ⟨q31_0, q31_1, q31_2, q31_3, q31_4, q31_5, q31_6, q31_7, q31_8, q31_9, q31_10, q31_11⟩ := cA12 BK315.out; obtain ⟨f31_0, f31_1, f31_2, f31_3, f31_4, f31_5, f31_6, f31_7, f31_8, f31_9, f31_10, f31_11⟩ := fA12 BK315.out) | ((with_reducible refine gate_dst (N := 52) rfl ?_); refine Kd.R_lit (Kd.int .u8) _ 5 ?hg (N := 52) ?hd (xs := ([(a0_9) % 256, (a0_10) % 256] : List Int)) (inner := [.int .u8 ((a0_9) % 256), .int .u8 ((a0_10) % 256)]) (ok := fun _ => True) (okp := fun _ => True) ?hr ?hp (fun _ hk => hk) trivial (Below.refl _ _) (Nat.le_refl _) (by simp) ?_; (case hd => rfl); (case hg => rfl); (case hr => first | (go_simp; done) | (go_simp; rfl)); (case hp => exact (Reps.one (show Kd.M (Kd.int .u8) _ _ _ ((a0_9) % 256) [.int .u8 ((a0_9) % 256)] from rfl) (Reps.one (show Kd.M (Kd.int .u8) _ _ _ ((a0_10) % 256) [.int .u8 ((a0_10) % 256)] from rfl) (Reps.none _ _)))); intro v334 w32 ho33 hb hg_ hnew_; clear hg_ hnew_; (first | rw [← Ny333.out] at ho33 | (simp only [Int.reduceToNat] at ho33; rw [← Ny333.out] at ho33)); have n0_ := YL (Kd.R_elder' (upR HO329) (Kd.R_base ho33) hb); have n1_ := YL (Kd.R_elder' (upR HO332) (Kd.R_base ho33) hb); have n2_ := YL (Kd.R_lower (Kd.R_new' (Kd.R_new' ho33 (Kd.R_lt (upR HO329))) (Kd.R_lt (upR HO332))) (YE (upB HB))); have n3_ := YL (YK (g := gb315) (o := .cells #[.int .i64 a0_0, .int .i64 a0_1, .bool a0_2, .int .i64 a0_3, .int .i64 a0_4, .int .i64 a0_5, .int .i64 a0_6, .int .i64 a0_7, .int .i64 a0_8, .int .i64 a0_9, .int .i64 a0_10, .int .i64 a0_11] 34 (0, 0)) (upK BK315) hb); have n4_ := YL (YD (upB HB) hb); clear HO329; clear HO332; clear BK315; clear HB; have HO329 := n0_; have HO332 := n1_; have HO335 := n2_; have BK315 := n3_; have HB := n4_; clear n0_ n1_ n2_ n3_ n4_; clear hb ho33; obtain ⟨Ao35, co35, eo35⟩ := Kd.R_slice HO335.out; subst eo35) | ((with_reducible refine gate_builtin (b := .append) (xs := #[.tmp 43, .tmp 52]) rfl ?_); at_builtin; refine Kd.R_append_rows (Kd.int .u8) (w0 := w) w.heap.size rfl (.tmp 43) (.tmp 52) 107 5 (.int .u8 0) 1 rfl Try.underlying107 info5 rfl (by decide) (by omega) v331 y330 y333 _ _ _ (fun k_ => some k_ ≠ (.slice Ao30 t327.length co30 : Value).ownBlock ∧ some k_ ≠ (.slice Ao35 y333.length co35 : Value).ownBlock) (fun _ => False) rfl rfl ?aO ?aR (fun _ _ h => h) (fun _ h => h.elim) ?aF ?aB ?aS ?aL ?_; (case aR => repeat (first | exact (Kd.R_reads' HO335.out).2.2 | (with_reducible refine Kd.C_alloc ?_ _) | (with_reducible refine Kd.C_drewN ?_ _) | (with_reducible refine Kd.C_drew ?_))); (case aB => exact (upB HB)); (case aF => exact (fun k_ hk => ⟨Kd.fresh' (Kd.R_lt (upR HO329)) k_ hk, Kd.fresh' (Kd.R_lt (upR HO335)) k_ hk⟩)); (case aO => exact (upR HO332)); (case aS => exact (YE (upB HB))); (case aL => have := LMc25.out; omega); intro v337 w34 ho hb hg hat; rw [← Ny336.out] at ho; have n0_ := YL (blk_grown (g := gb315) (o := .cells #[.int .i64 a0_0, .int .i64 a0_1, .bool a0_2, .int .i64 a0_3, .int .i64 a0_4, .int .i64 a0_5, .int .i64 a0_6, .int .i64 a0_7, .int .i64 a0_8, .int .i64 a0_9, .int .i64 a0_10, .int .i64 a0_11] 34 (0, 0)) (upK BK315) hg (Kd.R_ne HO332.out BK315.out (by decide))); have n1_ := YL (Kd.R_after (ok := (fun k_ => some k_ ≠ (.slice Ao35 y333.length co35 : Value).ownBlock)) (by (with_reducible repeat (first | apply YP | apply YQ | apply YR)); exact Kd.R_mono HO329.out (fun _ hk => by first | exact ⟨hk.2, hk.1.2⟩ | exact trivial | (simp [hk]; done) | simp_all)) hg hat); have n2_ := YL (Kd.R_after (ok := (fun k_ => some k_ ≠ (.slice Ao30 t327.length co30 : Value).ownBlock)) (by (with_reducible repeat (first | apply YP | apply YQ | apply YR)); exact Kd.R_mono HO335.out (fun _ hk => by first | exact ⟨hk.1.2, hk.2⟩ | exact trivial | (simp [hk]; done) | simp_all)) hg hat); have n3_ := YL (hb); have n4_ := YL (ho); clear BK315; clear HO329; clear HO335; clear HB; clear HO332; have BK315 := n0_; have HO329 := n1_; have HO335 := n2_; have HB := n3_; have HO338 := n4_; clear n0_ n1_ n2_ n3_ n4_; clear ho hb hg hat; obtain ⟨q36_0, q36_1, q36_2, q36_3, q36_4, q36_5, q36_6, q36_7, q36_8, q36_9, q36_10, q36_11⟩ := cA12 BK315.out; obtain ⟨f36_0, f36_1, f36_2, f36_3, f36_4, f36_5, f36_6, f36_7, f36_8, f36_9, f36_10, f36_11⟩ := fA12 BK315.out))
       go_ret2
       exact ⟨_, by first | rfl | (simp [errW_none, errW_some] <;> rfl) | (simp [*, errW_none, errW_some] <;> rfl), by (with_reducible repeat (first | apply YP | apply YQ | apply YR)); exact Kd.R_mono HO338.out (fun _ hk => trivial), by repeat (first | (with_reducible first | exact HB.out | apply YA | apply YB | apply YC | refine below_set ?_ GE315.out) | exact HB.out)⟩
      rw [if_neg c22] at H
      have c22b0 : (a0_0 == 3) = false := beq_eq_false_iff_ne.mpr c22
      have c22b1 : (a0_0 != 3) = true := bne_iff_ne.mpr c22
      by_cases c37 : a0_0 = 4
      ·rw [if_pos c37] at H
       have c37b0 : (a0_0 == 4) = true := beq_iff_eq.mpr c37
       have c37b1 : (a0_0 != 4) = false := bne_eq_false_iff_eq.mpr c37
       clear c37
       obtain ⟨y339, hy339⟩ : ∃ y_ : List Int, y_ = (([(wrap64 (Int.tdiv a0_11 256)) % 256, (Int.tmod a0_11 256) % 256] : List Int)) := ⟨_, rfl⟩
       replace H : (if x4_13.length + y339.length < 140737488355328 then (some ((x4_13 ++ y339), 0)) else (none)) = some (r1, r2) := by first | (rw [hy339]; with_reducible exact H) | (have H2_ := (Option.bind_some _ _).symm.trans H; rw [hy339]; with_reducible exact H2_) | (have H2_ := (Option.bind_some _ _).symm.trans H; with_reducible exact H2_) | with_reducible exact H | (rw [hy339]; exact H) | exact H
       have Ny339 := YL hy339; clear hy339
       by_cases c38 : x4_13.length + y339.length < 140737488355328
       rotate_left
       ·rw [if_neg c38] at H
        exact absurd H (by simp)
       rw [if_pos c38] at H; have LMc38 := YL c38; clear c38
       obtain ⟨y342, hy342⟩ : ∃ y_ : List Int, y_ = (x4_13 ++ y339) := ⟨_, rfl⟩
       replace H : (some (y342, 0)) = some (r1, r2) := by first | (rw [hy342]; with_reducible exact H) | (have H2_ := (Option.bind_some _ _).symm.trans H; rw [hy342]; with_reducible exact H2_) | (have H2_ := (Option.bind_some _ _).symm.trans H; with_reducible exact H2_) | with_reducible exact H | (rw [hy342]; exact H) | exact H
       have Ny342 := YL hy342; clear hy342
       simp only [Option.some.injEq, Prod.mk.injEq] at H
       obtain ⟨rfl, rfl⟩ := H
       obtain ⟨q39_0, q39_1, q39_2, q39_3, q39_4, q39_5, q39_6, q39_7, q39_8, q39_9, q39_10, q39_11⟩ := cA12 BK315.out
       obtain ⟨f39_0, f39_1, f39_2, f39_3, f39_4, f39_5, f39_6, f39_7, f39_8, f39_9, f39_10, f39_11⟩ := fA12 BK315.out
       go_wp2_with (first | ((with_reducible refine gate_dst (N := 66) rfl ?_); refine Kd.R_lit (Kd.int .u8) _ 5 ?hg (N := 66) ?hd (xs := ([(wrap64 (Int.tdiv a0_11 256)) % 256, (Int.tmod a0_11 256) % 256] : List Int)) (inner := [.int .u8 ((wrap64 (Int.tdiv a0_11 256)) % 256), .int .u8 ((Int.tmod a0_11 256) % 256)]) (ok := fun _ => True) (okp := fun _ => True) ?hr ?hp (fun _ hk => hk) trivial (Below.refl _ _) (Nat.le_refl _) (by simp) ?_; (case hd => rfl); (case hg => rfl); (case hr => first | (go_simp; done) | (go_simp; rfl)); (case hp => exact (Reps.one (show Kd.M (Kd.int .u8) _ _ _ ((wrap64 (Int.tdiv a0_11 256)) % 256) [.int .u8 ((wrap64 (Int.tdiv a0_11 256)) % 256)] from rfl) (Reps.one (show Kd.M (Kd.int .u8) _ _ _ ((Int.tmod a0_11 256) % 256) [.int .u8 ((Int.tmod a0_11 256) % 256)] from rfl) (Reps.none _ _)))); intro v340 w40 ho41 hb hg_ hnew_; clear hg_ hnew_; (first | rw [← Ny339.out] at ho41 | (simp only [Int.reduceToNat] at ho41; rw [← Ny339.out] at ho41)); have n0_ := YL (Kd.R_elder' (upR HO_4) (Kd.R_base ho41) hb); have n1_ := YL (Kd.R_lower (Kd.R_new' ho41 (Kd.R_lt (upR HO_4))) (YE (upB HB))); have n2_ := YL (YK (g := gb315) (o := .cells #[.int .i64 a0_0, .int .i64 a0_1, .bool a0_2, .int .i64 a0_3, .int .i64 a0_4, .int .i64 a0_5, .int .i64 a0_6, .int .i64 a0_7, .int .i64 a0_8, .int .i64 a0_9, .int .i64 a0_10, .int .i64 a0_11] 34 (0, 0)) (upK BK315) hb); have n3_ := YL (YD (upB HB) hb); clear HO_4; clear BK315; clear HB; have HO_4 := n0_; have HO341 := n1_; have BK315 := n2_; have HB := n3_; clear n0_ n1_ n2_ n3_; clear hb ho41; obtain ⟨Ao43, co43, eo43⟩ := Kd.R_slice HO341.out; subst eo43) | ((with_reducible refine gate_builtin (b := .append) (xs := #[.tmp 57, .tmp 66]) rfl ?_); at_builtin; refine Kd.R_append_rows (Kd.int .u8) (w0 := w) w.heap.size rfl (.tmp 57) (.tmp 66) 107 5 (.int .u8 0) 1 rfl Try.underlying107 info5 rfl (by decide) (by omega) u4 x4_13 y339 _ _ _ (fun k_ => some k_ ≠ (.slice Ao43 y339.length co43 : Value).ownBlock) (fun _ => False) rfl rfl ?aO ?aR (fun _ _ h => h) (fun _ h => h.elim) ?aF ?aB ?aS ?aL ?_; (case aR => repeat (first | exact (Kd.R_reads' HO341.out).2.2 | (with_reducible refine Kd.C_alloc ?_ _) | (with_reducible refine Kd.C_drewN ?_ _) | (with_reducible refine Kd.C_drew ?_))); (case aB => exact (upB HB)); (case aF => exact (fun k_ hk => Kd.fresh' (Kd.R_lt (upR HO341)) k_ hk)); (case aO => exact (by (with_reducible repeat (first | apply YP | apply YQ | apply YR)); exact Kd.R_mono HO_4.out (fun _ hk => by first | exact hk.2 | exact trivial | (simp [hk]; done) | simp_all))); (case aS => exact (YE (upB HB))); (case aL => have := LMc38.out; omega); intro v343 w42 ho hb hg hat; rw [← Ny342.out] at ho; have n0_ := YL (blk_grown (g := gb315) (o := .cells #[.int .i64 a0_0, .int .i64 a0_1, .bool a0_2, .int .i64 a0_3, .int .i64 a0_4, .int .i64 a0_5, .int .i64 a0_6, .int .i64 a0_7, .int .i64 a0_8, .int .i64 a0_9, .int .i64 a0_10, .int .i64 a0_11] 34 (0, 0)) (upK BK315) hg (Kd.R_ne HO_4.out BK315.out (by decide))); have n1_ := YL (Kd.R_after (ok := (fun _ => True)) (upR HO341) hg hat); have n2_ := YL (hb); have n3_ := YL (ho); clear BK315; clear HO341; clear HB; clear HO_4; have BK315 := n0_; have HO341 := n1_; have HB := n2_; have HO344 := n3_; clear n0_ n1_ n2_ n3_; clear ho hb hg hat))
       go_ret2
       exact ⟨_, by first | rfl | (simp [errW_none, errW_some] <;> rfl) | (simp [*, errW_none, errW_some] <;> rfl), by (with_reducible repeat (first | apply YP | apply YQ | apply YR)); exact Kd.R_mono HO344.out (fun _ hk => trivial), by repeat (first | (with_reducible first | exact HB.out | apply YA | apply YB | apply YC | refine below_set ?_ GE315.out) | exact HB.out)⟩
      rw [if_neg c37] at H
      have c37b0 : (a0_0 == 4) = false := beq_eq_false_iff_ne.mpr c37
      have c37b1 : (a0_0 != 4) = true := bne_iff_ne.mpr c37
      simp only [Option.some.injEq, Prod.mk.injEq] at H
      obtain ⟨rfl, rfl⟩ := H
      obtain ⟨q44_0, q44_1, q44_2, q44_3, q44_4, q44_5, q44_6, q44_7, q44_8, q44_9, q44_10, q44_11⟩ := cA12 BK315.out
      obtain ⟨f44_0, f44_1, f44_2, f44_3, f44_4, f44_5, f44_6, f44_7, f44_8, f44_9, f44_10, f44_11⟩ := fA12 BK315.out
      go_wp2
      go_ret2
      exact ⟨_, by first | rfl | (simp [errW_none, errW_some] <;> rfl) | (simp [*, errW_none, errW_some] <;> rfl), by (with_reducible repeat (first | apply YP | apply YQ | apply YR)); exact HO_4.out, by repeat (first | (with_reducible first | exact HB.out | apply YA | apply YB | apply YC | refine below_set ?_ GE315.out) | exact HB.out)⟩
 replace c3 := Bool.eq_false_iff.mpr c3
 subst c3
 have H1 : (some (([] : List Int), 1)) = some (r1, r2) := by rw [if_neg (show ¬ (false = true) by decide)] at H; exact H
 clear H
 have H := H1
 clear H1
 simp only [Option.some.injEq, Prod.mk.injEq] at H
 obtain ⟨rfl, rfl⟩ := H
 go_enter Try.func68, Try.ntmps68
 go_wp2_with (first | ((with_reducible refine gate_dst (N := 1) rfl ?_); refine box_event ?hg (N := 1) ?hd (cs := #[.int .i64 a0_0, .int .i64 a0_1, .bool a0_2, .int .i64 a0_3, .int .i64 a0_4, .int .i64 a0_5, .int .i64 a0_6, .int .i64 a0_7, .int .i64 a0_8, .int .i64 a0_9, .int .i64 a0_10, .int .i64 a0_11]) (t := 34) ?hr ?_; (case hd => rfl); (case hg => rfl); (case hr => first | (go_simp; done) | (go_simp; rfl)); intro gb315 hg w45 hbox hb; have n0_ := YL (YD (upB HB) hb); have n1_ := YL (hbox); have n2_ := YL ((by rw [hg]; exact (YE (upB HB)) : w.heap.size ≤ gb315)); have n3_ := YL ((by rw [hg]; exact (YE (upB HB)) : w.heap.size ≤ gb315)); clear HB; have HB := n0_; have BK315 := n1_; have GW315 := n2_; have GE315 := n3_; clear n0_ n1_ n2_ n3_; clear hb hbox hg; obtain ⟨q46_0, q46_1, q46_2, q46_3, q46_4, q46_5, q46_6, q46_7, q46_8, q46_9, q46_10, q46_11⟩ := cA12 BK315.out; obtain ⟨f46_0, f46_1, f46_2, f46_3, f46_4, f46_5, f46_6, f46_7, f46_8, f46_9, f46_10, f46_11⟩ := fA12 BK315.out) | ((with_reducible refine gate_callee (f := 39) rfl ?_); refine goesA (some 8) Try.func39 #[.agg #[.int .i64 a0_0, .int .i64 a0_1, .bool a0_2, .int .i64 a0_3, .int .i64 a0_4, .int .i64 a0_5, .int .i64 a0_6, .int .i64 a0_7, .int .i64 a0_8, .int .i64 a0_9, .int .i64 a0_10, .int .i64 a0_11]] ?_; (with_reducible refine (thalwegref04_Right.calls k a0_0 a0_1 a0_2 a0_3 a0_4 a0_5 a0_6 a0_7 a0_8 a0_9 a0_10 a0_11 false _ A2.out).mono ?_); rintro e w47 ⟨rfl, hb⟩; refine ⟨_, rfl, ?_⟩; have n0_ := YL (YK (g := gb315) (o := .cells #[.int .i64 a0_0, .int .i64 a0_1, .bool a0_2, .int .i64 a0_3, .int .i64 a0_4, .int .i64 a0_5, .int .i64 a0_6, .int .i64 a0_7, .int .i64 a0_8, .int .i64 a0_9, .int .i64 a0_10, .int .i64 a0_11] 34 (0, 0)) (upK BK315) hb); have n1_ := YL (YD (upB HB) hb); clear BK315; clear HB; have BK315 := n0_; have HB := n1_; clear n0_ n1_; (try clear hb); (try clear hb2); (try clear hk); (try clear hi)))
 go_ret2
 exact ⟨_, by first | rfl | (simp [errW_none, errW_some] <;> rfl) | (simp [*, errW_none, errW_some] <;> rfl), by first | exact Kd.R_nil _ _ _ _ _ | exact Kd.N_nil _ _ _ _ _ | exact Kd.V_nil _ _ _ _ _ | exact Kd.Q_nil _ _ _ _ _ | exact Kd.S_nil _ _ _ _ _, by repeat (first | (with_reducible first | exact HB.out | apply YA | apply YB | apply YC | refine below_set ?_ GE315.out) | exact HB.out)⟩
end Go.Proofs.Ytclbempnhelmoaa.P
namespace Go.Proofs.Ytclbempnhelmoaa.P
open Go.RowKit YtclbempnhelmoaaW.PrintWords YtclbempnhelmoaaW.PrintLast YtclbempnhelmoaaW.PrintMore
theorem bool_same0 {p q : Prop} [Decidable p] [Decidable q] (h : p ↔ q) : (decide p) = (decide q) := by
 by_cases hp : p
 ·rw [decide_eq_true hp, decide_eq_true (h.mp hp)]
 ·rw [decide_eq_false hp, decide_eq_false (fun hq => hp (h.mpr hq))]
end Go.Proofs.Ytclbempnhelmoaa.P
namespace Go.Proofs.Ytclbempnhelmoaa.P
open Go.RowKit YtclbempnhelmoaaW.PrintWords YtclbempnhelmoaaW.PrintLast YtclbempnhelmoaaW.PrintMore
open YtclbempnhelmoaaW.PrintWords.Aside0 renaming mk → YA
attribute [local go_sem] max2_int min2_int max_two min_two max_three min_three max_four min_four
attribute [local go_sem high] eqA34
def thalwegref04_Same.l0 : Nat → List (S34) → List (S34) → Int → Option (Bool)
 | 0, _, _, _ => none
 | k + 1, x0, x1, x5 => if x5 < (x0.length : Int) then (if 0 ≤ x5 then (if x5 < (x1.length : Int) then (if (!(((rd_T34 x0 x5).f0) == ((rd_T34 x1 x5).f0)) || (!(((rd_T34 x0 x5).f1) == ((rd_T34 x1 x5).f1)) || ((!(((rd_T34 x0 x5).f2.f0) == ((rd_T34 x1 x5).f2.f0)) || (!(((rd_T34 x0 x5).f2.f1) == ((rd_T34 x1 x5).f2.f1)) || (!(((rd_T34 x0 x5).f2.f2) == ((rd_T34 x1 x5).f2.f2)) || (!(((rd_T34 x0 x5).f2.f3) == ((rd_T34 x1 x5).f2.f3)) || (!(((rd_T34 x0 x5).f2.f4) == ((rd_T34 x1 x5).f2.f4)) || (!(((rd_T34 x0 x5).f2.f5) == ((rd_T34 x1 x5).f2.f5)))))))) || ((!(((rd_T34 x0 x5).f3.f0) == ((rd_T34 x1 x5).f3.f0)) || (!(((rd_T34 x0 x5).f3.f1) == ((rd_T34 x1 x5).f3.f1)) || (!(((rd_T34 x0 x5).f3.f2) == ((rd_T34 x1 x5).f3.f2))))) || (!(((rd_T34 x0 x5).f4) == ((rd_T34 x1 x5).f4))))))) = true then (some false) else (thalwegref04_Same.l0 k x0 x1 (wrap64 (x5 + 1)))) else (none)) else (none)) else (some true)
def thalwegref04_Same.f (k : Nat) (l0 : List (S34)) (l1 : List (S34)) : Option (Bool) := if (l0.length : Int) = (l1.length : Int) then (thalwegref04_Same.l0 k l0 l1 0) else (some false)
theorem thalwegref04_Same.mono_l : ∀ k, (∀ y0 y1 y2, LeO (thalwegref04_Same.l0 k y0 y1 y2) (thalwegref04_Same.l0 (k + 1) y0 y1 y2))
 | 0 => fun _ _ _ r h => by simp [thalwegref04_Same.l0] at h
 | k + 1 => by
  have ih0 := thalwegref04_Same.mono_l k
  ·intro y0 y1 y2
   unfold thalwegref04_Same.l0
   repeat' first
   | (with_reducible exact ih0 _ _ _)
   | (with_reducible exact LeO.refl _)
   | (with_reducible exact LeO.none _)
   | (with_reducible refine LeO.ite ?_ ?_)
   | (with_reducible refine LeO.bind ?_ (fun _ => ?_))
   | exact ih0 _ _ _
   | exact LeO.none _
   | refine LeO.ite ?_ ?_
   | refine LeO.bind ?_ (fun _ => ?_)
theorem thalwegref04_Same.mono : ∀ a0 a1 k, LeO (thalwegref04_Same.f k a0 a1) (thalwegref04_Same.f (k + 1) a0 a1) := by
 intro a0 a1 k
 have ih0 := thalwegref04_Same.mono_l k
 unfold thalwegref04_Same.f
 repeat' first
   | (with_reducible exact ih0 _ _ _)
   | (with_reducible exact LeO.refl _)
   | (with_reducible exact LeO.none _)
   | (with_reducible refine LeO.ite ?_ ?_)
   | (with_reducible refine LeO.bind ?_ (fun _ => ?_))
   | exact ih0 _ _ _
   | exact LeO.none _
   | refine LeO.ite ?_ ?_
   | refine LeO.bind ?_ (fun _ => ?_)
theorem thalwegref04_Same.calls (k : Nat) (A0 : Option Addr) (c0 : Nat) (l0 : List (S34)) (A1 : Option Addr) (c1 : Nat) (l1 : List (S34)) (r : Bool) (w : World) (hr0 : Kd.C k34 w A0 l0.length l0) (hc0 : l0.length ≤ c0) (hr1 : Kd.C k34 w A1 l1.length l1) (hc1 : l1.length ≤ c1) (h : thalwegref04_Same.f k l0 l1 = some r) :
  Calls Try.prog 22 #[.slice A0 l0.length c0, .slice A1 l1.length c1] w fun e w' => e = .returned (.bool r) ∧ Drawn0 w w' := by
 have hu34 := Try.underlying34
 have HR0 := YA hr0; have HC0 := YA hc0; clear hr0 hc0; have HR1 := YA hr1; have HC1 := YA hc1; clear hr1 hc1
 have H : (if (l0.length : Int) = (l1.length : Int) then (thalwegref04_Same.l0 k l0 l1 0) else (some false)) = some r := h
 clear h
 by_cases c3 : (l0.length : Int) = (l1.length : Int)
 ·rw [if_pos c3] at H
  have c3b0 : ((l0.length : Int) == (l1.length : Int)) = true := beq_iff_eq.mpr c3
  have c3b1 : ((l0.length : Int) != (l1.length : Int)) = false := bne_eq_false_iff_eq.mpr c3
  have c3b2 : (l0.length == l1.length) = true := by first | simpa using c3 | (simp at c3 ⊢; omega)
  clear c3
  have H' := YA H
  clear H
  go_enter Try.func22, Try.ntmps22
  go_wp2
  repeat (go_quiet (fail); try go_wp2)
  go_loopg [5] k (fun kq v5 w' => ∃ (x5_1 : Int), v5 = .int .i64 x5_1 ∧ Aside0 (thalwegref04_Same.l0 kq l0 l1 x5_1 = some r) ∧ Aside0 (kq ≤ k) ∧ Drawn0 w w')
  case atStart => exact ⟨(0), (by first | rfl | (simp; done) | (simp [*]; done)), H', ⟨Nat.le_refl _⟩, by repeat (first | exact Drawn0.refl _ | apply Drawn0.step)⟩
  case round =>
   clear H'
   try clear c1; try clear c2
   try clear p2; try clear c3
   try clear c3b0; try clear c3b1; try clear c3b2
   obtain ⟨x5_1, rfl, HA, HK1, ⟨m1, rfl⟩⟩ := hrel
   cases gk with
   | zero => exact absurd HA.out (by simp [thalwegref04_Same.l0])
   | succ k1 =>
    have H := HA.out
    clear HA
    simp only [thalwegref04_Same.l0] at H
    by_cases c4 : x5_1 < (l0.length : Int)
    ·rw [if_pos c4] at H
     have c4b0 : decide (x5_1 < (l0.length : Int)) = true := decide_eq_true c4
     clear c4
     by_cases c5 : 0 ≤ x5_1
     rotate_left
     ·rw [if_neg c5] at H
      exact absurd H (by simp)
     rw [if_pos c5] at H; have c5b0 : decide (0 ≤ x5_1) = true := decide_eq_true c5; clear c5
     by_cases c6 : x5_1 < (l1.length : Int)
     rotate_left
     ·rw [if_neg c6] at H
      exact absurd H (by simp)
     rw [if_pos c6] at H
     have c6b0 : decide (x5_1 < (l1.length : Int)) = true := decide_eq_true c6
     clear c6
     by_cases c7 : (!(((rd_T34 l0 x5_1).f0) == ((rd_T34 l1 x5_1).f0)) || (!(((rd_T34 l0 x5_1).f1) == ((rd_T34 l1 x5_1).f1)) || ((!(((rd_T34 l0 x5_1).f2.f0) == ((rd_T34 l1 x5_1).f2.f0)) || (!(((rd_T34 l0 x5_1).f2.f1) == ((rd_T34 l1 x5_1).f2.f1)) || (!(((rd_T34 l0 x5_1).f2.f2) == ((rd_T34 l1 x5_1).f2.f2)) || (!(((rd_T34 l0 x5_1).f2.f3) == ((rd_T34 l1 x5_1).f2.f3)) || (!(((rd_T34 l0 x5_1).f2.f4) == ((rd_T34 l1 x5_1).f2.f4)) || (!(((rd_T34 l0 x5_1).f2.f5) == ((rd_T34 l1 x5_1).f2.f5)))))))) || ((!(((rd_T34 l0 x5_1).f3.f0) == ((rd_T34 l1 x5_1).f3.f0)) || (!(((rd_T34 l0 x5_1).f3.f1) == ((rd_T34 l1 x5_1).f3.f1)) || (!(((rd_T34 l0 x5_1).f3.f2) == ((rd_T34 l1 x5_1).f3.f2))))) || (!(((rd_T34 l0 x5_1).f4) == ((rd_T34 l1 x5_1).f4))))))) = true
     ·rw [if_pos c7] at H
      have c7b0 : (!(((rd_T34 l0 x5_1).f0) == ((rd_T34 l1 x5_1).f0)) || (!(((rd_T34 l0 x5_1).f1) == ((rd_T34 l1 x5_1).f1)) || ((!(((rd_T34 l0 x5_1).f2.f0) == ((rd_T34 l1 x5_1).f2.f0)) || (!(((rd_T34 l0 x5_1).f2.f1) == ((rd_T34 l1 x5_1).f2.f1)) || (!(((rd_T34 l0 x5_1).f2.f2) == ((rd_T34 l1 x5_1).f2.f2)) || (!(((rd_T34 l0 x5_1).f2.f3) == ((rd_T34 l1 x5_1).f2.f3)) || (!(((rd_T34 l0 x5_1).f2.f4) == ((rd_T34 l1 x5_1).f2.f4)) || (!(((rd_T34 l0 x5_1).f2.f5) == ((rd_T34 l1 x5_1).f2.f5)))))))) || ((!(((rd_T34 l0 x5_1).f3.f0) == ((rd_T34 l1 x5_1).f3.f0)) || (!(((rd_T34 l0 x5_1).f3.f1) == ((rd_T34 l1 x5_1).f3.f1)) || (!(((rd_T34 l0 x5_1).f3.f2) == ((rd_T34 l1 x5_1).f3.f2))))) || (!(((rd_T34 l0 x5_1).f4) == ((rd_T34 l1 x5_1).f4))))))) = true := c7
      clear c7
      obtain rfl := Option.some.inj H
      have p101 : 0 ≤ (x5_1 : Int) := of_decide_eq_true (by first | (with_reducible assumption) | assumption)
      have q101 : x5_1 < (l0.length : Int) := of_decide_eq_true (by first | (with_reducible assumption) | assumption)
      obtain ⟨ad101, e101, hx101_0, hx101_1, hx101_2, hx101_3, hx101_4, hx101_5, hx101_6, hx101_7, hx101_8, hx101_9, hx101_10, hx101_11⟩ := at_T34 HR0.out x5_1 p101 q101
      cases e101
      replace p101 := eq_true p101
      replace q101 := eq_true q101
      have p102 : 0 ≤ (x5_1 : Int) := of_decide_eq_true (by first | (with_reducible assumption) | assumption)
      have q102 : x5_1 < (l1.length : Int) := of_decide_eq_true (by first | (with_reducible assumption) | assumption)
      obtain ⟨ad102, e102, hx102_0, hx102_1, hx102_2, hx102_3, hx102_4, hx102_5, hx102_6, hx102_7, hx102_8, hx102_9, hx102_10, hx102_11⟩ := at_T34 HR1.out x5_1 p102 q102
      cases e102
      replace p102 := eq_true p102
      replace q102 := eq_true q102
      go_wp2
      repeat (go_quiet (fail); try go_wp2)
      go_ret
      exact ⟨by first | rfl | (simp; done) | (simp [*]; done), by repeat (first | exact Drawn0.refl _ | apply Drawn0.step)⟩
     rw [if_neg c7] at H
     have c7b0 : (!(((rd_T34 l0 x5_1).f0) == ((rd_T34 l1 x5_1).f0)) || (!(((rd_T34 l0 x5_1).f1) == ((rd_T34 l1 x5_1).f1)) || ((!(((rd_T34 l0 x5_1).f2.f0) == ((rd_T34 l1 x5_1).f2.f0)) || (!(((rd_T34 l0 x5_1).f2.f1) == ((rd_T34 l1 x5_1).f2.f1)) || (!(((rd_T34 l0 x5_1).f2.f2) == ((rd_T34 l1 x5_1).f2.f2)) || (!(((rd_T34 l0 x5_1).f2.f3) == ((rd_T34 l1 x5_1).f2.f3)) || (!(((rd_T34 l0 x5_1).f2.f4) == ((rd_T34 l1 x5_1).f2.f4)) || (!(((rd_T34 l0 x5_1).f2.f5) == ((rd_T34 l1 x5_1).f2.f5)))))))) || ((!(((rd_T34 l0 x5_1).f3.f0) == ((rd_T34 l1 x5_1).f3.f0)) || (!(((rd_T34 l0 x5_1).f3.f1) == ((rd_T34 l1 x5_1).f3.f1)) || (!(((rd_T34 l0 x5_1).f3.f2) == ((rd_T34 l1 x5_1).f3.f2))))) || (!(((rd_T34 l0 x5_1).f4) == ((rd_T34 l1 x5_1).f4))))))) = false := by simpa using c7
     clear c7
     have H' := YA H
     clear H
     have p101 : 0 ≤ (x5_1 : Int) := of_decide_eq_true (by first | (with_reducible assumption) | assumption)
     have q101 : x5_1 < (l0.length : Int) := of_decide_eq_true (by first | (with_reducible assumption) | assumption)
     obtain ⟨ad101, e101, hx101_0, hx101_1, hx101_2, hx101_3, hx101_4, hx101_5, hx101_6, hx101_7, hx101_8, hx101_9, hx101_10, hx101_11⟩ := at_T34 HR0.out x5_1 p101 q101
     cases e101
     replace p101 := eq_true p101
     replace q101 := eq_true q101
     have p102 : 0 ≤ (x5_1 : Int) := of_decide_eq_true (by first | (with_reducible assumption) | assumption)
     have q102 : x5_1 < (l1.length : Int) := of_decide_eq_true (by first | (with_reducible assumption) | assumption)
     obtain ⟨ad102, e102, hx102_0, hx102_1, hx102_2, hx102_3, hx102_4, hx102_5, hx102_6, hx102_7, hx102_8, hx102_9, hx102_10, hx102_11⟩ := at_T34 HR1.out x5_1 p102 q102
     cases e102
     replace p102 := eq_true p102
     replace q102 := eq_true q102
     go_wp2
     repeat (go_quiet (fail); try go_wp2)
     go_roundg k1
     case measure => have := HK1.out; omega
     case rel => exact ⟨(wrap64 (x5_1 + 1)), (by first | rfl | (simp; done) | (simp [*]; done)), H', ⟨by have := HK1.out; omega⟩, by repeat (first | exact Drawn0.refl _ | apply Drawn0.step)⟩
    rw [if_neg c4] at H
    have c4b0 : decide (x5_1 < (l0.length : Int)) = false := decide_eq_false c4
    clear c4
    obtain rfl := Option.some.inj H
    go_wp2
    repeat (go_quiet (fail); try go_wp2)
    go_ret
    exact ⟨by first | rfl | (simp; done) | (simp [*]; done), by repeat (first | exact Drawn0.refl _ | apply Drawn0.step)⟩
 rw [if_neg c3] at H
 have c3b0 : ((l0.length : Int) == (l1.length : Int)) = false := beq_eq_false_iff_ne.mpr c3
 have c3b1 : ((l0.length : Int) != (l1.length : Int)) = true := bne_iff_ne.mpr c3
 have c3b2 : (l0.length == l1.length) = false := by first | simpa using c3 | (simp at c3 ⊢; omega)
 obtain rfl := Option.some.inj H
 go_enter Try.func22, Try.ntmps22
 go_wp2
 repeat (go_quiet (fail); try go_wp2)
 go_ret
 exact ⟨by first | rfl | (simp; done) | (simp [*]; done), by repeat (first | exact Drawn0.refl _ | apply Drawn0.step)⟩
end Go.Proofs.Ytclbempnhelmoaa.P
namespace Go.Proofs.Ytclbempnhelmoaa.P
open Go.RowKit YtclbempnhelmoaaW.PrintWords YtclbempnhelmoaaW.PrintLast YtclbempnhelmoaaW.PrintMore
open YtclbempnhelmoaaW.PrintWords renaming below_alloc → YA, pw_below_drewN → YB, below_drew1 → YC
open YtclbempnhelmoaaW.PrintWords.Aside0 renaming mk → YD
attribute [local go_sem] max2_int min2_int max_two min_two max_three min_three max_four min_four
def thalwegref05_size.l0 : Nat → List (S34) → Int → Int → Option (Int)
 | 0, _, _, _ => none
 | k + 1, x0, x3, x4 => if x4 < (x0.length : Int) then (if 0 ≤ x4 then ((thalwegref04_Bytes.f k ((rd_T34 x0 x4).f0) ((rd_T34 x0 x4).f1) ((rd_T34 x0 x4).f2.f0) ((rd_T34 x0 x4).f2.f1) ((rd_T34 x0 x4).f2.f2) ((rd_T34 x0 x4).f2.f3) ((rd_T34 x0 x4).f2.f4) ((rd_T34 x0 x4).f2.f5) ((rd_T34 x0 x4).f3.f0) ((rd_T34 x0 x4).f3.f1) ((rd_T34 x0 x4).f3.f2) ((rd_T34 x0 x4).f4)).bind fun bt346 => (if bt346.2 = 0 then (thalwegref05_size.l0 k x0 (wrap64 (x3 + (bt346.1.length : Int))) (wrap64 (x4 + 1))) else (some (-1)))) else (none)) else (some x3)
def thalwegref05_size.f (k : Nat) (l0 : List (S34)) : Option (Int) := thalwegref05_size.l0 k l0 3 0
theorem thalwegref05_size.mono_l : ∀ k, (∀ y0 y1 y2, LeO (thalwegref05_size.l0 k y0 y1 y2) (thalwegref05_size.l0 (k + 1) y0 y1 y2))
 | 0 => fun _ _ _ r h => by simp [thalwegref05_size.l0] at h
 | k + 1 => by
  have ih0 := thalwegref05_size.mono_l k
  ·intro y0 y1 y2
   unfold thalwegref05_size.l0
   repeat' first
   | (with_reducible exact ih0 _ _ _)
   | (with_reducible exact thalwegref04_Bytes.mono _ _ _ _ _ _ _ _ _ _ _ _ _)
   | (with_reducible exact LeO.refl _)
   | (with_reducible exact LeO.none _)
   | (with_reducible refine LeO.ite ?_ ?_)
   | (with_reducible refine LeO.bind ?_ (fun _ => ?_))
   | exact ih0 _ _ _
   | exact thalwegref04_Bytes.mono _ _ _ _ _ _ _ _ _ _ _ _ _
   | exact LeO.none _
   | refine LeO.ite ?_ ?_
   | refine LeO.bind ?_ (fun _ => ?_)
theorem thalwegref05_size.mono : ∀ a0 k, LeO (thalwegref05_size.f k a0) (thalwegref05_size.f (k + 1) a0) := by
 intro a0 k
 have ih0 := thalwegref05_size.mono_l k
 unfold thalwegref05_size.f
 repeat' first
   | (with_reducible exact ih0 _ _ _)
   | (with_reducible exact thalwegref04_Bytes.mono _ _ _ _ _ _ _ _ _ _ _ _ _)
   | (with_reducible exact LeO.refl _)
   | (with_reducible exact LeO.none _)
   | (with_reducible refine LeO.ite ?_ ?_)
   | (with_reducible refine LeO.bind ?_ (fun _ => ?_))
   | exact ih0 _ _ _
   | exact thalwegref04_Bytes.mono _ _ _ _ _ _ _ _ _ _ _ _ _
   | exact LeO.none _
   | refine LeO.ite ?_ ?_
   | refine LeO.bind ?_ (fun _ => ?_)
theorem thalwegref05_size.calls (k : Nat) (A0 : Option Addr) (c0 : Nat) (l0 : List (S34)) (r : Int) (w : World) (hr0 : Kd.C k34 w A0 l0.length l0) (hc0 : l0.length ≤ c0) (h : thalwegref05_size.f k l0 = some r) :
  Calls Try.prog 61 #[.slice A0 l0.length c0] w fun e w' => e = .returned (.int .i64 r) ∧ Below w.heap.size w w' := by
 have hu34 := Try.underlying34
 have HR0 := YD hr0; have HC0 := YD hc0; clear hr0 hc0
 have HB := YD (Below.refl w.heap.size w)
 have H : (thalwegref05_size.l0 k l0 3 0) = some r := h
 clear h
 have H' := YD H
 clear H
 go_enter Try.func61, Try.ntmps61
 go_wp2
 go_loopg [3, 4] k (fun kq v3 v4 w' => ∃ (x3_1 : Int) (x4_1 : Int), v3 = .int .i64 x3_1 ∧ v4 = .int .i64 x4_1 ∧ Aside0 (thalwegref05_size.l0 kq l0 x3_1 x4_1 = some r) ∧ Aside0 (kq ≤ k) ∧ Aside0 (Below w.heap.size w w'))
 case atStart => exact ⟨(3), (0), (by first | rfl | (simp; done) | (simp [*]; done)), (by first | rfl | (simp; done) | (simp [*]; done)), H', ⟨Nat.le_refl _⟩, ⟨by repeat (first | (with_reducible first | exact HB.out | apply YA | apply YB | apply YC) | exact HB.out)⟩⟩
 case round =>
  clear H'
  obtain ⟨x3_1, x4_1, rfl, rfl, HA, HK1, HB⟩ := hrel
  cases gk with
  | zero => exact absurd HA.out (by simp [thalwegref05_size.l0])
  | succ k1 =>
   have H := HA.out
   clear HA
   simp only [thalwegref05_size.l0] at H
   by_cases c2 : x4_1 < (l0.length : Int)
   ·rw [if_pos c2] at H
    have c2b0 : decide (x4_1 < (l0.length : Int)) = true := decide_eq_true c2
    clear c2
    by_cases c3 : 0 ≤ x4_1
    rotate_left
    ·rw [if_neg c3] at H
     exact absurd H (by simp)
    rw [if_pos c3] at H; have c3b0 : decide (0 ≤ x4_1) = true := decide_eq_true c3; clear c3; replace H := Option.bind_eq_some_iff.mp H
    obtain ⟨⟨t346, t349⟩, A40, H⟩ := H
    replace H : (if t349 = 0 then (thalwegref05_size.l0 k1 l0 (wrap64 (x3_1 + (t346.length : Int))) (wrap64 (x4_1 + 1))) else (some (-1))) = some r := H
    have A4 := YD A40; clear A40
    by_cases c5 : t349 = 0
    ·rw [if_pos c5] at H
     have c5b0 : (t349 == 0) = true := beq_iff_eq.mpr c5
     have c5b1 : (t349 != 0) = false := bne_eq_false_iff_eq.mpr c5
     clear c5
     have H' := YD H
     clear H
     have p345 : 0 ≤ (x4_1 : Int) := of_decide_eq_true (by first | (with_reducible assumption) | assumption)
     have q345 : x4_1 < (l0.length : Int) := of_decide_eq_true (by first | (with_reducible assumption) | assumption)
     obtain ⟨ad345, e345, hx345_0, hx345_1, hx345_2, hx345_3, hx345_4, hx345_5, hx345_6, hx345_7, hx345_8, hx345_9, hx345_10, hx345_11⟩ := at_T34 HR0.out x4_1 p345 q345
     cases e345
     replace hx345_0 := (HB.out.cell (World.block_lt_of_cell? w _ hx345_0)).trans hx345_0
     replace hx345_1 := (HB.out.cell (World.block_lt_of_cell? w _ hx345_1)).trans hx345_1
     replace hx345_2 := (HB.out.cell (World.block_lt_of_cell? w _ hx345_2)).trans hx345_2
     replace hx345_3 := (HB.out.cell (World.block_lt_of_cell? w _ hx345_3)).trans hx345_3
     replace hx345_4 := (HB.out.cell (World.block_lt_of_cell? w _ hx345_4)).trans hx345_4
     replace hx345_5 := (HB.out.cell (World.block_lt_of_cell? w _ hx345_5)).trans hx345_5
     replace hx345_6 := (HB.out.cell (World.block_lt_of_cell? w _ hx345_6)).trans hx345_6
     replace hx345_7 := (HB.out.cell (World.block_lt_of_cell? w _ hx345_7)).trans hx345_7
     replace hx345_8 := (HB.out.cell (World.block_lt_of_cell? w _ hx345_8)).trans hx345_8
     replace hx345_9 := (HB.out.cell (World.block_lt_of_cell? w _ hx345_9)).trans hx345_9
     replace hx345_10 := (HB.out.cell (World.block_lt_of_cell? w _ hx345_10)).trans hx345_10
     replace hx345_11 := (HB.out.cell (World.block_lt_of_cell? w _ hx345_11)).trans hx345_11
     replace p345 := eq_true p345
     replace q345 := eq_true q345
     go_wp2_with (first | ((with_reducible refine gate_callee (f := 68) rfl ?_); refine goesA (some 18) Try.func68 #[.agg #[.int .i64 ((rd_T34 l0 x4_1).f0), .int .i64 ((rd_T34 l0 x4_1).f1), .bool ((rd_T34 l0 x4_1).f2.f0), .int .i64 ((rd_T34 l0 x4_1).f2.f1), .int .i64 ((rd_T34 l0 x4_1).f2.f2), .int .i64 ((rd_T34 l0 x4_1).f2.f3), .int .i64 ((rd_T34 l0 x4_1).f2.f4), .int .i64 ((rd_T34 l0 x4_1).f2.f5), .int .i64 ((rd_T34 l0 x4_1).f3.f0), .int .i64 ((rd_T34 l0 x4_1).f3.f1), .int .i64 ((rd_T34 l0 x4_1).f3.f2), .int .i64 ((rd_T34 l0 x4_1).f4)]] ?_; (with_reducible refine (thalwegref04_Bytes.calls k1 ((rd_T34 l0 x4_1).f0) ((rd_T34 l0 x4_1).f1) ((rd_T34 l0 x4_1).f2.f0) ((rd_T34 l0 x4_1).f2.f1) ((rd_T34 l0 x4_1).f2.f2) ((rd_T34 l0 x4_1).f2.f3) ((rd_T34 l0 x4_1).f2.f4) ((rd_T34 l0 x4_1).f2.f5) ((rd_T34 l0 x4_1).f3.f0) ((rd_T34 l0 x4_1).f3.f1) ((rd_T34 l0 x4_1).f3.f2) ((rd_T34 l0 x4_1).f4) t346 t349 _ A4.out).mono ?_); rintro e w6 ⟨v347, rfl, ho0, hb⟩; refine ⟨_, rfl, ?_⟩; have n0_ := YD (Kd.R_lower ho0 (below_size (upB HB))); have n1_ := YD (below_step (upB HB) hb); clear HB; have HO348 := n0_; have HB := n1_; clear n0_ n1_; (try clear hb); (try clear hb2); (try clear hk); (try clear hi); (try clear ho0); obtain ⟨Ao7, co7, eo7⟩ := Kd.R_slice HO348.out; subst eo7))
     go_roundg k1
     case measure => have := HK1.out; omega
     case rel => exact ⟨(wrap64 (x3_1 + (t346.length : Int))), (wrap64 (x4_1 + 1)), (by first | rfl | (simp; done) | (simp [*]; done)), (by first | rfl | (simp; done) | (simp [*]; done)), H', ⟨by have := HK1.out; omega⟩, ⟨by repeat (first | (with_reducible first | exact HB.out | apply YA | apply YB | apply YC) | exact HB.out)⟩⟩
    rw [if_neg c5] at H
    have c5b0 : (t349 == 0) = false := beq_eq_false_iff_ne.mpr c5
    have c5b1 : (t349 != 0) = true := bne_iff_ne.mpr c5
    obtain rfl := Option.some.inj H
    have p345 : 0 ≤ (x4_1 : Int) := of_decide_eq_true (by first | (with_reducible assumption) | assumption)
    have q345 : x4_1 < (l0.length : Int) := of_decide_eq_true (by first | (with_reducible assumption) | assumption)
    obtain ⟨ad345, e345, hx345_0, hx345_1, hx345_2, hx345_3, hx345_4, hx345_5, hx345_6, hx345_7, hx345_8, hx345_9, hx345_10, hx345_11⟩ := at_T34 HR0.out x4_1 p345 q345
    cases e345
    replace hx345_0 := (HB.out.cell (World.block_lt_of_cell? w _ hx345_0)).trans hx345_0
    replace hx345_1 := (HB.out.cell (World.block_lt_of_cell? w _ hx345_1)).trans hx345_1
    replace hx345_2 := (HB.out.cell (World.block_lt_of_cell? w _ hx345_2)).trans hx345_2
    replace hx345_3 := (HB.out.cell (World.block_lt_of_cell? w _ hx345_3)).trans hx345_3
    replace hx345_4 := (HB.out.cell (World.block_lt_of_cell? w _ hx345_4)).trans hx345_4
    replace hx345_5 := (HB.out.cell (World.block_lt_of_cell? w _ hx345_5)).trans hx345_5
    replace hx345_6 := (HB.out.cell (World.block_lt_of_cell? w _ hx345_6)).trans hx345_6
    replace hx345_7 := (HB.out.cell (World.block_lt_of_cell? w _ hx345_7)).trans hx345_7
    replace hx345_8 := (HB.out.cell (World.block_lt_of_cell? w _ hx345_8)).trans hx345_8
    replace hx345_9 := (HB.out.cell (World.block_lt_of_cell? w _ hx345_9)).trans hx345_9
    replace hx345_10 := (HB.out.cell (World.block_lt_of_cell? w _ hx345_10)).trans hx345_10
    replace hx345_11 := (HB.out.cell (World.block_lt_of_cell? w _ hx345_11)).trans hx345_11
    replace p345 := eq_true p345
    replace q345 := eq_true q345
    go_wp2_with (first | ((with_reducible refine gate_callee (f := 68) rfl ?_); refine goesA (some 18) Try.func68 #[.agg #[.int .i64 ((rd_T34 l0 x4_1).f0), .int .i64 ((rd_T34 l0 x4_1).f1), .bool ((rd_T34 l0 x4_1).f2.f0), .int .i64 ((rd_T34 l0 x4_1).f2.f1), .int .i64 ((rd_T34 l0 x4_1).f2.f2), .int .i64 ((rd_T34 l0 x4_1).f2.f3), .int .i64 ((rd_T34 l0 x4_1).f2.f4), .int .i64 ((rd_T34 l0 x4_1).f2.f5), .int .i64 ((rd_T34 l0 x4_1).f3.f0), .int .i64 ((rd_T34 l0 x4_1).f3.f1), .int .i64 ((rd_T34 l0 x4_1).f3.f2), .int .i64 ((rd_T34 l0 x4_1).f4)]] ?_; (with_reducible refine (thalwegref04_Bytes.calls k1 ((rd_T34 l0 x4_1).f0) ((rd_T34 l0 x4_1).f1) ((rd_T34 l0 x4_1).f2.f0) ((rd_T34 l0 x4_1).f2.f1) ((rd_T34 l0 x4_1).f2.f2) ((rd_T34 l0 x4_1).f2.f3) ((rd_T34 l0 x4_1).f2.f4) ((rd_T34 l0 x4_1).f2.f5) ((rd_T34 l0 x4_1).f3.f0) ((rd_T34 l0 x4_1).f3.f1) ((rd_T34 l0 x4_1).f3.f2) ((rd_T34 l0 x4_1).f4) t346 t349 _ A4.out).mono ?_); rintro e w8 ⟨v347, rfl, ho0, hb⟩; refine ⟨_, rfl, ?_⟩; have n0_ := YD (Kd.R_lower ho0 (below_size (upB HB))); have n1_ := YD (below_step (upB HB) hb); clear HB; have HO348 := n0_; have HB := n1_; clear n0_ n1_; (try clear hb); (try clear hb2); (try clear hk); (try clear hi); (try clear ho0)))
    go_ret
    exact ⟨by first | rfl | (simp [errW_none, errW_some] <;> rfl) | (simp [*, errW_none, errW_some] <;> rfl), by repeat (first | (with_reducible first | exact HB.out | apply YA | apply YB | apply YC) | exact HB.out)⟩
   rw [if_neg c2] at H
   have c2b0 : decide (x4_1 < (l0.length : Int)) = false := decide_eq_false c2
   clear c2
   obtain rfl := Option.some.inj H
   go_wp2
   go_ret
   exact ⟨by first | rfl | (simp [errW_none, errW_some] <;> rfl) | (simp [*, errW_none, errW_some] <;> rfl), by repeat (first | (with_reducible first | exact HB.out | apply YA | apply YB | apply YC) | exact HB.out)⟩
end Go.Proofs.Ytclbempnhelmoaa.P
namespace Go.Proofs.Ytclbempnhelmoaa.P
open Go.RowKit YtclbempnhelmoaaW.PrintWords YtclbempnhelmoaaW.PrintLast YtclbempnhelmoaaW.PrintMore
open Classical
def OR (o : S34) : Prop := RO o.f0 o.f1 o.f2.f0 o.f2.f1 o.f2.f2 o.f2.f3 o.f2.f4 o.f2.f5 o.f3.f0 o.f3.f1 o.f3.f2 o.f4
def OB (o : S34) : List Int := oB o.f0 o.f1 o.f2.f0 o.f2.f1 o.f2.f2 o.f2.f3 o.f2.f4 o.f2.f5 o.f3.f0 o.f3.f1 o.f3.f2 o.f4
noncomputable def sz (o : S34) : Int := if OR o then ((OB o).length : Int) else 0
theorem sz_yes {o : S34} (h : OR o) : sz o = ((OB o).length : Int) := if_pos h
theorem sz_no {o : S34} (h : ¬ OR o) : sz o = 0 := if_neg h
theorem OB_length (o : S34) : 2 ≤ (OB o).length ∧ (OB o).length ≤ 24 := by
 unfold OB oB
 rw [List.length_append]
 have h := hB_length o.f2.f0 o.f2.f1 o.f2.f2 o.f2.f3 o.f2.f4 o.f2.f5
 have h2 : (hB o.f2.f0 o.f2.f1 o.f2.f2 o.f2.f3 o.f2.f4 o.f2.f5).length ≤ 20 := by rw [h]; split <;> omega
 simp only [List.length_cons, List.length_nil]
 split
 ·simp
 split
 ·simp [intSpec_length]
 split
 ·simp only [List.length_append, List.length_cons, List.length_nil]; omega
 ·omega
theorem sz_range (o : S34) : 0 ≤ sz o ∧ sz o ≤ 24 := by
 have := OB_length o
 by_cases h : OR o
 ·rw [sz_yes h]; omega
 ·rw [sz_no h]; omega
noncomputable def sums (l : List S34) : Int := (l.map sz).sum
theorem sums_nil : sums [] = 0 := rfl
theorem sums_cons (o : S34) (l : List S34) : sums (o :: l) = sz o + sums l := by simp [sums]
theorem sums_append (l m : List S34) : sums (l ++ m) = sums l + sums m := by simp [sums]
theorem sums_range (l : List S34) : 0 ≤ sums l ∧ sums l ≤ 24 * l.length := by
 induction l with
 | nil => simp [sums]
 | cons o l ih => have := sz_range o; rw [sums_cons, List.length_cons]; omega
def Rights (l : List S34) : Prop := ∀ o ∈ l, OR o
theorem obs_get (l : List S34) (i : Int) (h0 : 0 ≤ i) (h1 : i < l.length) : l.drop i.toNat = rd_T34 l i :: l.drop (i + 1).toNat := by
 have hi : i.toNat < l.length := by omega
 rw [List.drop_eq_getElem_cons hi, show (i + 1).toNat = i.toNat + 1 by omega]
 congr 1
 unfold rd_T34
 rw [List.getD_eq_getElem?_getD, List.getElem?_eq_getElem hi]
 rfl
theorem size_ev (o : S34) : Ev (fun k => object_Size.f k o.f0 o.f1 o.f2.f0 o.f2.f1 o.f2.f2 o.f2.f3 o.f2.f4 o.f2.f5 o.f3.f0 o.f3.f1 o.f3.f2 o.f4) (sz o) := by
 by_cases h : OR o
 ·rw [sz_yes h]
  exact os_ev _ _ _ _ _ _ _ _ _ _ _ _ _ (obx _ _ _ _ _ _ _ _ _ _ _ _ h)
 ·rw [sz_no h]
  exact os_ev _ _ _ _ _ _ _ _ _ _ _ _ _ (obn _ _ _ _ _ _ _ _ _ _ _ _ h)
theorem wrong_ev (o : S34) : Ev (fun k => batch_wrong.f k o.f0 o.f1 o.f2.f0 o.f2.f1 o.f2.f2 o.f2.f3 o.f2.f4 o.f2.f5 o.f3.f0 o.f3.f1 o.f3.f2 o.f4) (decide (¬ OR o)) := by
 unfold batch_wrong.f
 by_cases h : OR o
 ·have hc := oc_eq o.f0 o.f1 o.f2.f0 o.f2.f1 o.f2.f2 o.f2.f3 o.f2.f4 o.f2.f5 o.f3.f0 o.f3.f1 o.f3.f2 o.f4
  rw [if_pos (show RO _ _ _ _ _ _ _ _ _ _ _ _ from h)] at hc
  refine Ev.bind hc (ev_eq (Ev.now _) ?_)
  rw [decide_eq_false (fun g => g h)]
  rfl
 ·have hc := oc_eq o.f0 o.f1 o.f2.f0 o.f2.f1 o.f2.f2 o.f2.f3 o.f2.f4 o.f2.f5 o.f3.f0 o.f3.f1 o.f3.f2 o.f4
  rw [if_neg (show ¬ RO _ _ _ _ _ _ _ _ _ _ _ _ from h)] at hc
  refine Ev.bind hc (ev_eq (Ev.now _) ?_)
  rw [decide_eq_true h]
  rfl
theorem index_l0 (l : List S34) (hn : l.length ≤ 100000) : ∀ (d : Nat) (i : Int), 0 ≤ i → (l.length : Int) - i = d → ∃ r : Int, Ev (fun k => api_Object_66.l0 k l (l.length : Int) i) r ∧ (r ≥ 0 ↔ ¬ Rights (l.drop i.toNat)) := by
 intro d
 induction d with
 | zero =>
  intro i h0 hd
  refine ⟨-1, Ev.from 1 fun k => ?_, ?_⟩
  ·simp only [api_Object_66.l0]
   rw [if_neg (by omega)]
  ·rw [List.drop_eq_nil_of_le (by omega)]
   constructor
   ·intro h; omega
   ·intro h; exact absurd (fun o ho => by cases ho) h
 | succ d ih =>
  intro i h0 hd
  have h1 : i < (l.length : Int) := by omega
  rw [obs_get l i h0 h1]
  by_cases h : OR (rd_T34 l i)
  ·obtain ⟨r, hr, hi⟩ := ih (i + 1) (by omega) (by omega)
   refine ⟨r, ?_, ?_⟩
   ·refine Ev.step (f := fun k => _) (fun k => by simp only [api_Object_66.l0]; rfl) ?_
    simp only [if_pos h1, if_pos h0]
    refine Ev.bind (wrong_ev (rd_T34 l i)) ?_
    simp only [decide_eq_false (fun g : ¬ OR (rd_T34 l i) => g h), Bool.false_eq_true, if_false, w64 (x := i + 1) (by omega) (by omega)]
    exact hr
   ·rw [hi]
    constructor
    ·intro g g2; exact g fun o ho => g2 o (List.mem_cons_of_mem _ ho)
    ·intro g g2
     refine g fun o ho => ?_
     rcases List.mem_cons.1 ho with rfl | ho
     ·exact h
     ·exact g2 o ho
  ·refine ⟨i, ?_, ?_⟩
   ·refine Ev.step (f := fun k => _) (fun k => by simp only [api_Object_66.l0]; rfl) ?_
    simp only [if_pos h1, if_pos h0]
    refine Ev.bind (wrong_ev (rd_T34 l i)) ?_
    simp only [decide_eq_true h, if_true]
    exact Ev.now _
   ·exact ⟨fun _ g => h (g _ List.mem_cons_self), fun _ => h0⟩
theorem contains_ev (l : List S34) (hn : l.length ≤ 100000) : Ev (fun k => api_Object_50.f k l) (decide (¬ Rights l)) := by
 obtain ⟨r, hr, hi⟩ := index_l0 l hn l.length 0 (by omega) (by omega)
 unfold api_Object_50.f
 refine Ev.bind (show Ev (fun k => api_Object_66.f k l) r from hr) (ev_eq (Ev.now _) ?_)
 exact bool_same0 hi
def RB (a : Int) (l : List S34) : Prop := (0 ≤ a ∧ a ≤ 65535) ∧ (1 ≤ l.length ∧ l.length ≤ 32) ∧ Rights l ∧ 3 + sums l ≤ 512
end Go.Proofs.Ytclbempnhelmoaa.P
namespace Go.Proofs.Ytclbempnhelmoaa.P
open Classical
open Go.RowKit YtclbempnhelmoaaW.PrintWords YtclbempnhelmoaaW.PrintLast YtclbempnhelmoaaW.PrintMore
def nx (n : Int) : Int := (n + 1) % 65536
theorem next_eq (n : Int) (h : -9223372036854775808 ≤ n ∧ n ≤ 9223372036854775807) : serial_Next.f n = some (nx n) := by
 unfold serial_Next.f nx
 have hu : ∀ x : Int, IntKind.u16.wrap x = x % 65536 := fun x => by simp [IntKind.wrap, IntKind.bits, IntKind.signed]
 rw [hu, hu, w64 (by omega) (by omega)]
 congr 1
 omega
def fit (most : Int) (cur : List S34) (o : S34) : Prop := 3 + sums cur + sz o ≤ most ∧ cur.length < 32
noncomputable def packGo (most : Int) : List S34 → Int → List S34 → List S48
 | [], n, cur => if cur = [] then [] else [⟨n, cur⟩]
 | o :: l, n, cur => if fit most cur o then packGo most l n (cur ++ [o]) else ⟨n, cur⟩ :: packGo most l (nx n) [o]
theorem pack_nil (most n : Int) (cur : List S34) (h : cur ≠ []) : packGo most [] n cur = [⟨n, cur⟩] := by unfold packGo; rw [if_neg h]
theorem pack_nil0 (most n : Int) : packGo most [] n [] = [] := by unfold packGo; rw [if_pos rfl]
theorem pack_fit {most n : Int} {o : S34} {l cur : List S34} (h : fit most cur o) : packGo most (o :: l) n cur = packGo most l n (cur ++ [o]) := by rw [packGo, if_pos h]
theorem pack_new {most n : Int} {o : S34} {l cur : List S34} (h : ¬ fit most cur o) : packGo most (o :: l) n cur = ⟨n, cur⟩ :: packGo most l (nx n) [o] := by rw [packGo, if_neg h]
theorem fit_nil {most : Int} (h : 40 ≤ most) (o : S34) : fit most [] o := by
 have := sz_range o
 exact ⟨by rw [sums_nil]; omega, by simp⟩
theorem and16 (n : Int) (_h : -9223372036854775808 ≤ n ∧ n ≤ 9223372036854775807) : Go.bits .and .i64 n 65535 = n % 65536 := by
 show IntKind.i64.wrap ((BitVec.ofInt 64 n &&& BitVec.ofInt 64 65535).toNat : Int) = _
 rw [BitVec.toNat_and, BitVec.toNat_ofInt, show (BitVec.ofInt 64 65535).toNat = 2 ^ 16 - 1 from rfl, Nat.and_two_pow_sub_one_eq_mod, IntKind.wrap_i64]
 omega
theorem pack_l0 (l : List S34) (hn : l.length ≤ 2000) (most : Int) (hm : 40 ≤ most ∧ most ≤ 512) : ∀ (d : Nat) (i : Int) (out : List S48) (n : Int) (cur : List S34), 0 ≤ i → (l.length : Int) - i = d → (out.length : Int) ≤ i → cur.length ≤ 32 → 0 ≤ n → n ≤ 65535 → (cur = [] → i = 0) →
  Ev (fun k => batch_Pack.l0 k l most out (most - 3 - sums cur) l (l.length : Int) i n cur) (out ++ packGo most (l.drop i.toNat) n cur, 0) := by
 intro d
 induction d with
 | zero =>
  intro i out n cur h0 hd ho hc n0 n1 hz
  refine Ev.from 1 fun k => ?_
  simp only [batch_Pack.l0]
  rw [if_neg (by omega), List.drop_eq_nil_of_le (by omega)]
  by_cases h : cur = []
  ·subst h
   rw [pack_nil0]
   simp
  ·rw [pack_nil _ _ _ h, if_pos (by have := List.length_pos_iff.2 h; omega), if_pos (by omega)]
 | succ d ih =>
  intro i out n cur h0 hd ho hc n0 n1 hz
  have h1 : i < (l.length : Int) := by omega
  have hs := sz_range (rd_T34 l i)
  have hr := sums_range cur
  have hnx : 0 ≤ nx n ∧ nx n ≤ 65535 := by unfold nx; omega
  refine Ev.step (f := fun k => _) (fun k => by simp only [batch_Pack.l0]; rfl) ?_
  rw [obs_get l i h0 h1]
  simp only [if_pos h1, if_pos h0]
  refine Ev.bind (size_ev (rd_T34 l i)) ?_
  have hnew : ¬ fit most cur (rd_T34 l i) → Ev (fun k => (serial_Next.f n).bind fun t => batch_Pack.l0 k l most (out ++ [⟨n, cur⟩]) (wrap64 ((wrap64 (most - 3)) - sz (rd_T34 l i))) l (l.length : Int) (wrap64 (i + 1)) t [rd_T34 l i]) (out ++ packGo most (rd_T34 l i :: l.drop (i + 1).toNat) n cur, 0) := by
   intro hf
   rw [pack_new hf, show out ++ (⟨n, cur⟩ : S48) :: packGo most (l.drop (i + 1).toNat) (nx n) [rd_T34 l i] = (out ++ [⟨n, cur⟩]) ++ packGo most (l.drop (i + 1).toNat) (nx n) [rd_T34 l i] by simp]
   simp only [next_eq n (by omega), Option.bind_some, w64 (x := most - 3) (by omega) (by omega), w64 (x := most - 3 - sz (rd_T34 l i)) (by omega) (by omega), w64 (x := i + 1) (by omega) (by omega)]
   have := ih (i + 1) (out ++ [⟨n, cur⟩]) (nx n) [rd_T34 l i] (by omega) (by omega) (by simp; omega) (by simp) hnx.1 hnx.2 (by simp)
   rw [sums_cons, sums_nil, Int.add_zero] at this
   exact this
  have hout : out.length < 4398046511104 := by omega
  by_cases c1 : sz (rd_T34 l i) ≤ most - 3 - sums cur
  ·simp only [if_pos c1]
   by_cases c2 : (cur.length : Int) < 32
   ·have hf : fit most cur (rd_T34 l i) := ⟨by omega, by omega⟩
    rw [pack_fit hf]
    simp only [if_pos c2, if_pos (show cur.length < 1466015503701 by omega), w64 (x := most - 3 - sums cur - sz (rd_T34 l i)) (by omega) (by omega), w64 (x := i + 1) (by omega) (by omega)]
    have := ih (i + 1) out n (cur ++ [rd_T34 l i]) (by omega) (by omega) (by omega) (by simp; omega) n0 n1 (by simp)
    rw [sums_append, sums_cons, sums_nil, Int.add_zero, ← Int.sub_sub] at this
    exact this
   ·simp only [if_neg c2, if_pos hout]
    exact hnew fun g => c2 (by have := g.2; omega)
  ·simp only [if_neg c1, if_pos hout]
   exact hnew fun g => c1 (by have := g.1; omega)
def PK (most : Int) (l : List S34) : Prop := (40 ≤ most ∧ most ≤ 512) ∧ Rights l
theorem pack_yes (l : List S34) (hn : l.length ≤ 1024) (first most : Int) (hf : -9223372036854775808 ≤ first ∧ first ≤ 9223372036854775807) (h : PK most l) : Ev (fun k => batch_Pack.f k l first most) (packGo most l (first % 65536) [], 0) := by
 obtain ⟨hm, hr⟩ := h
 unfold batch_Pack.f
 simp only [if_neg (show ¬ most < 40 by omega), if_neg (show ¬ most > 512 by omega)]
 refine Ev.bind (contains_ev l (by omega)) ?_
 rw [decide_eq_false (fun g : ¬ Rights l => g hr)]
 refine Ev.step (f := fun k => _) (fun k => by simp only [batch_Pack.j0]; rfl) ?_
 simp only [Bool.false_eq_true, if_false, if_neg (show ¬ (l.length : Int) > 1024 by omega), w64 (x := most - 3) (by omega) (by omega), and16 first hf]
 have := pack_l0 l (by omega) most hm l.length 0 [] (first % 65536) [] (by omega) (by omega) (by simp) (by simp) (by omega) (by omega) (fun _ => rfl)
 rw [sums_nil, Int.sub_zero] at this
 exact this
theorem pack_right (most : Int) (hm : 40 ≤ most ∧ most ≤ 512) : ∀ (l : List S34) (n : Int) (cur : List S34), Rights (cur ++ l) → cur.length ≤ 32 → (cur ≠ [] → 3 + sums cur ≤ most) → 0 ≤ n → n ≤ 65535 → ∀ b ∈ packGo most l n cur, RB b.f0 b.f1 ∧ 3 + sums b.f1 ≤ most := by
 intro l
 have one : ∀ (n : Int) (cur : List S34), cur ≠ [] → Rights cur → cur.length ≤ 32 → 3 + sums cur ≤ most → 0 ≤ n → n ≤ 65535 → RB n cur ∧ 3 + sums cur ≤ most := fun n cur h hr hl hs h0 h1 => ⟨⟨⟨h0, h1⟩, ⟨List.length_pos_iff.2 h, hl⟩, hr, by omega⟩, hs⟩
 induction l with
 | nil =>
  intro n cur hr hl hs h0 h1 b hb
  by_cases h : cur = []
  ·subst h; rw [pack_nil0] at hb; cases hb
  ·rw [pack_nil _ _ _ h] at hb
   rw [List.mem_singleton.1 hb]
   exact one n cur h (by simpa using hr) hl (hs h) h0 h1
 | cons o l ih =>
  intro n cur hr hl hs h0 h1 b hb
  have hnx : 0 ≤ nx n ∧ nx n ≤ 65535 := by unfold nx; omega
  by_cases hf : fit most cur o
  ·rw [pack_fit hf] at hb
   refine ih n (cur ++ [o]) (by rw [List.append_assoc]; exact hr) (by have := hf.2; simp; omega) (fun _ => ?_) h0 h1 b hb
   have := hf.1
   rw [sums_append, sums_cons, sums_nil]
   omega
  ·rw [pack_new hf] at hb
   rcases List.mem_cons.1 hb with rfl | hb
   ·have h : cur ≠ [] := fun g => hf (by rw [g]; exact fit_nil hm.1 o)
    exact one n cur h (fun x hx => hr x (List.mem_append_left _ hx)) hl (hs h) h0 h1
   ·have hz := sz_range o
    refine ih (nx n) [o] (fun x hx => hr x (List.mem_append_right _ (by simpa using hx))) (by simp) (fun _ => ?_) hnx.1 hnx.2 b hb
    rw [sums_cons, sums_nil]
    omega
theorem pack_flat (most : Int) : ∀ (l : List S34) (n : Int) (cur : List S34), (packGo most l n cur).flatMap (fun b => b.f1) = cur ++ l := by
 intro l
 induction l with
 | nil =>
  intro n cur
  by_cases h : cur = []
  ·subst h; rw [pack_nil0]; rfl
  ·rw [pack_nil _ _ _ h]; simp
 | cons o l ih =>
  intro n cur
  by_cases hf : fit most cur o
  ·rw [pack_fit hf, ih]; simp
  ·rw [pack_new hf, List.flatMap_cons, ih]; simp
end Go.Proofs.Ytclbempnhelmoaa.P
namespace Go.Proofs.Ytclbempnhelmoaa.P
open Go.RowKit YtclbempnhelmoaaW.PrintWords YtclbempnhelmoaaW.PrintLast YtclbempnhelmoaaW.PrintMore
open Classical
structure AS where
 W : List S34
 D : List (S48 × Int)
 nx : Int
def fstA (s : AS) : Int := match s.D with | [] => s.nx | d :: _ => d.1.f0
noncomputable def packA (s : AS) : List S48 := packGo 512 s.W (s.nx % 65536) []
noncomputable def XA (wn : Int) (s : AS) : List S48 := (packA s).takeWhile (fun b => decide (far (fstA s) b.f0 < wn))
noncomputable def sendA (wn : Int) (s : AS) : AS := ⟨s.W.drop (goneL (XA wn s)), s.D ++ (XA wn s).map (fun b => (b, 1)), nextL s.nx (XA wn s)⟩
noncomputable def pushE (o : S34) (s : AS) : Int := if OR o then (if s.W.length < 1024 then 0 else 8) else 1
noncomputable def pushA (o : S34) (s : AS) : AS := if OR o ∧ s.W.length < 1024 then ⟨s.W ++ [o], s.D, s.nx⟩ else s
def fullA (tr : Int) (s : AS) : Prop := ∃ d ∈ s.D, d.2 ≥ tr
noncomputable def againA (tr : Int) (s : AS) : AS := if fullA tr s then s else ⟨s.W, s.D.map (fun d => (d.1, d.2 + 1)), s.nx⟩
noncomputable def againL (tr : Int) (s : AS) : List S48 := if fullA tr s then [] else s.D.map Prod.fst
def hasA' (a : S36) (d : S48 × Int) : Bool := hasA a d.1.f0
def takesA (a : S36) (s : AS) : Prop := SA a ∧ ¬ far (fstA s) a.f2 > far (fstA s) s.nx
noncomputable def gotA (a : S36) (s : AS) : AS := if takesA a s then ⟨s.W, s.D.filter (fun d => !hasA' a d), s.nx⟩ else s
def OkA (tr : Int) (n : Nat) (s : AS) : Prop := Rights s.W ∧ s.W.length ≤ 1024 ∧ s.D.length ≤ n ∧ (∀ d ∈ s.D, 0 ≤ d.2 ∧ d.2 ≤ tr) ∧ (0 ≤ s.nx ∧ s.nx ≤ 65535)
def Hr {α : Type} (d : Kd α) (e : Nat) (w0 w : World) (F R : Nat → Prop) (v : Value) (xs : List α) : Prop := d.R e w w0.heap.size (fun k => ¬ R k) v xs ∧ ∀ k, v.ownBlock = some k → ¬ F k
theorem Hr.step {α : Type} {d : Kd α} {e : Nat} {w0 w w' : World} {F R F' R' : Nat → Prop} {v : Value} {xs : List α} (h : Hr d e w0 w F R v xs) (hs : SX w F R w' F' R') : Hr d e w0 w' F' R' v xs := by
 refine ⟨?_, fun k hk hF => ?_⟩
 ·refine Kd.R_mono (Kd.R_step (Kd.R_mono (Kd.R_bound h.1) (ok' := fun k => ¬ R k ∧ k < w.heap.size) (fun k hk => ⟨hk.1, hk.2.2.1⟩)) (fun k hk hl => hs.fr k hl hk.1)) (fun k hk hR => ?_)
  rcases hs.wr k hR with e1 | e1
  ·exact hk.1 e1
  ·have := hk.2; omega
 ·have hl := Kd.R_lt h.1 k hk
  rcases hs.fp k hF with e1 | e1
  ·exact h.2 k hk e1
  ·omega
theorem Hr.below {α : Type} {d : Kd α} {e : Nat} {w0 w w' : World} {F R : Nat → Prop} {v : Value} {xs : List α} (h : Hr d e w0 w F R v xs) (hb : Below w.heap.size w w') : Hr d e w0 w' F R v xs := ⟨Kd.R_below h.1 hb, h.2⟩
theorem Hr.nil {α : Type} (d : Kd α) (e : Nat) (w0 w : World) (F R : Nat → Prop) : Hr d e w0 w F R (.slice none 0 0) [] := ⟨Kd.R_nil _ _ _ _ _, fun k hk => by simp [Value.ownBlock] at hk⟩
theorem fstA_dat (O : List (It × Int)) (W : List S34) (nx : Int) : firstL O nx = fstA ⟨W, dat O, nx⟩ := by cases O <;> rfl
theorem dat_b (O : List (It × Int)) : (O.map Prod.fst).map It.b = (dat O).map Prod.fst := by unfold dat; rw [List.map_map, List.map_map]; rfl
theorem dat_bump (O : List (It × Int)) : dat (bumpA O) = (dat O).map (fun d => (d.1, d.2 + 1)) := by unfold dat bumpA; rw [List.map_map, List.map_map]; rfl
theorem dat_filter (O : List (It × Int)) (q : Int → Bool) : dat (O.filter (fun o => !goQ q o)) = (dat O).filter (fun d => !q d.1.f0) := by unfold dat; rw [List.filter_map]; rfl
theorem dat_len (O : List (It × Int)) : (dat O).length = O.length := List.length_map ..
theorem dat_mem {O : List (It × Int)} {Q : Int → Prop} (h : ∀ d ∈ dat O, Q d.2) : ∀ o ∈ O, Q o.2 := fun o ho => h _ (List.mem_map_of_mem ho)
structure Sn (w0 w : World) (F R : Nat → Prop) (g : Nat) (wn tr : Int) (s : AS) : Prop where
 ex : ∃ O vw vo, Sd w0 w F g wn tr s.W O s.nx vw vo ∧ dat O = s.D ∧ R = Wr g vw vo O
theorem Sn.below {w0 w w' : World} {F R : Nat → Prop} {g : Nat} {wn tr : Int} {s : AS} (h : Sn w0 w F R g wn tr s) (hb : Below w.heap.size w w') : Sn w0 w' F R g wn tr s := by
 obtain ⟨O, vw, vo, h1, h2, h3⟩ := h
 exact ⟨O, vw, vo, h1.below hb, h2, h3⟩
theorem Sn.grown {w0 w w' : World} {F R : Nat → Prop} {g : Nat} {wn tr : Int} {s : AS} (h : Sn w0 w F R g wn tr s) {row : Option Nat} (hg : w.grownBy w' row) (hr : ∀ k, row = some k → w0.heap.size ≤ k ∧ ¬ F k) : Sn w0 w' F R g wn tr s := by
 obtain ⟨O, vw, vo, h1, h2, h3⟩ := h
 exact ⟨O, vw, vo, h1.grown hg hr, h2, h3⟩
theorem Sn.bl {w0 w : World} {F R : Nat → Prop} {g : Nat} {wn tr : Int} {s : AS} (h : Sn w0 w F R g wn tr s) : Below w0.heap.size w0 w := by
 obtain ⟨O, vw, vo, h1, h2, h3⟩ := h
 exact h1.bl
theorem Sn.lt {w0 w : World} {F R : Nat → Prop} {g : Nat} {wn tr : Int} {s : AS} (h : Sn w0 w F R g wn tr s) : ∀ k, F k → k < w.heap.size := by
 obtain ⟨O, vw, vo, h1, h2, h3⟩ := h
 exact h1.lt
theorem Ev.all {α β : Type} {g : α → Nat → Option β} {r : α → β} : ∀ (l : List α), (∀ x ∈ l, Ev (g x) (r x)) → ∃ K0, ∀ K, K0 ≤ K → ∀ x ∈ l, g x K = some (r x) := by
 intro l
 induction l with
 | nil => intro _; exact ⟨0, fun K _ x hx => by cases hx⟩
 | cons a l ih =>
  intro h
  obtain ⟨K1, h1⟩ := h a List.mem_cons_self
  obtain ⟨K2, h2⟩ := ih (fun x hx => h x (List.mem_cons_of_mem _ hx))
  refine ⟨max K1 K2, fun K hK x hx => ?_⟩
  rcases List.mem_cons.1 hx with rfl | hx
  ·exact h1 K (by omega)
  ·exact h2 K (by omega) x hx
abbrev objV (o : S34) : Value := .agg #[.int .i64 o.f0, .int .i64 o.f1, .bool o.f2.f0, .int .i64 o.f2.f1, .int .i64 o.f2.f2, .int .i64 o.f2.f3, .int .i64 o.f2.f4, .int .i64 o.f2.f5, .int .i64 o.f3.f0, .int .i64 o.f3.f1, .int .i64 o.f3.f2, .int .i64 o.f4]
abbrev ackV (a : S36) : Value := .agg #[.int .i64 a.f0, .int .i64 a.f1, .int .i64 a.f2, .int .i64 a.f3]
section
variable {w0 w : World} {F R : Nat → Prop} {g : Nat} {wn tr : Int} {s : AS} {n : Nat}
theorem new_a {w0 w : World} (hb : Below w0.heap.size w0 w) (wn tr : Int) (h1 : 1 ≤ wn) (h2 : wn ≤ 16) (h3 : 1 ≤ tr) (h4 : tr ≤ 100) :
  Calls Try.prog 9 #[.int .i64 wn, .int .i64 tr] w fun e w' => ∃ g F R, e = .returned (.tuple #[.pointer (some ⟨g, 0, none⟩), .int .i64 0]) ∧ Sn w0 w' F R g wn tr ⟨[], [], 0⟩ ∧ Below w.heap.size w w' ∧ ∀ k, F k → w.heap.size ≤ k := by
 refine (snew_ok hb wn tr (decide_eq_false (by omega)) (decide_eq_false (by omega)) (decide_eq_false (by omega)) (decide_eq_false (by omega))).mono ?_
 rintro e w' ⟨g, F, rfl, hs, hf, hb2⟩
 exact ⟨g, F, _, rfl, ⟨[], _, _, hs, rfl, rfl⟩, hb2, hf⟩
theorem push_a (h : Sn w0 w F R g wn tr s) (o : S34) :
  Calls Try.prog 11 #[.pointer (some ⟨g, 0, none⟩), objV o] w fun e w' => ∃ F' R', e = .returned (.int .i64 (pushE o s)) ∧ Sn w0 w' F' R' g wn tr (pushA o s) ∧ SX w F R w' F' R' := by
 obtain ⟨O, vw, vo, hd, h2, rfl⟩ := h
 obtain ⟨K, hK⟩ := oc_eq o.f0 o.f1 o.f2.f0 o.f2.f1 o.f2.f2 o.f2.f3 o.f2.f4 o.f2.f5 o.f3.f0 o.f3.f1 o.f3.f2 o.f4
 have hk := hK K (Nat.le_refl _)
 unfold pushE pushA
 by_cases ho : OR o
 ·rw [if_pos (show RO o.f0 o.f1 o.f2.f0 o.f2.f1 o.f2.f2 o.f2.f3 o.f2.f4 o.f2.f5 o.f3.f0 o.f3.f1 o.f3.f2 o.f4 from ho)] at hk
  rw [if_pos ho]
  by_cases hl : s.W.length < 1024
  ·rw [if_pos hl, if_pos ⟨ho, hl⟩]
   refine (spush_ok hd hl K _ _ _ _ _ _ _ _ _ _ _ _ hk).mono ?_
   rintro e w' ⟨rfl, F', v2, hs, hx⟩
   exact ⟨F', _, rfl, ⟨O, v2, vo, hs, h2, rfl⟩, hx⟩
  ·rw [if_neg hl, if_neg (fun e => hl e.2)]
   refine (spush_full hd hl K _ _ _ _ _ _ _ _ _ _ _ _ hk).mono ?_
   rintro e w' ⟨rfl, hs, hb⟩
   exact ⟨F, _, rfl, ⟨O, vw, vo, hs, h2, rfl⟩, SX.of_below _ _ hb⟩
 ·rw [if_neg (show ¬ RO o.f0 o.f1 o.f2.f0 o.f2.f1 o.f2.f2 o.f2.f3 o.f2.f4 o.f2.f5 o.f3.f0 o.f3.f1 o.f3.f2 o.f4 from ho)] at hk
  rw [if_neg ho, if_neg (fun e => ho e.1)]
  refine (spush_bad hd K _ _ _ _ _ _ _ _ _ _ _ _ 1 (by decide) hk).mono ?_
  rintro e w' ⟨rfl, hs, hb⟩
  exact ⟨F, _, rfl, ⟨O, vw, vo, hs, h2, rfl⟩, SX.of_below _ _ hb⟩
theorem flat_sum (B : List S48) : goneL B = (B.flatMap (fun b => b.f1)).length := by
 unfold goneL
 induction B with
 | nil => rfl
 | cons b B ih => rw [List.map_cons, List.sum_cons, List.flatMap_cons, List.length_append, ih]
theorem packA_gone (s : AS) : goneL (packA s) = s.W.length := by
 rw [flat_sum, packA, pack_flat]
 rfl
theorem send_a (h : Sn w0 w F R g wn tr s) (hk : OkA tr n s) (hn : n ≤ 900000) :
  Calls Try.prog 12 #[.pointer (some ⟨g, 0, none⟩)] w fun e w' => ∃ v F' R', e = .returned v ∧ Sn w0 w' F' R' g wn tr (sendA wn s) ∧ SX w F R w' F' R' ∧ Hr k48 48 w0 w' F' R' v (XA wn s) ∧ ∀ k, v.ownBlock = some k → w.heap.size ≤ k := by
 obtain ⟨O, vw, vo, hd, h2, rfl⟩ := h
 obtain ⟨k1, k2, k3, k4, k5⟩ := hk
 obtain ⟨K1, hp⟩ := pack_yes s.W k2 s.nx 512 (by omega) ⟨by omega, k1⟩
 have hf : firstL O s.nx = fstA s := by rw [fstA_dat O s.W, h2]
 have hlen : (packA s).length ≤ 1024 := by
  have h1 := packA_gone s
  have h3 : (packA s).length ≤ goneL (packA s) := by
   have hr : ∀ b ∈ packA s, 1 ≤ b.f1.length := fun b hb => (pack_right 512 (by omega) s.W (s.nx % 65536) [] (by simpa using k1) (by simp) (fun e => absurd rfl e) (by omega) (by omega) b hb).1.2.1.1
   generalize packA s = B at hr ⊢
   unfold goneL
   induction B with
   | nil => simp
   | cons b B ih =>
    have := hr b List.mem_cons_self
    have := ih (fun x hx => hr x (List.mem_cons_of_mem _ hx))
    rw [List.map_cons, List.sum_cons, List.length_cons]
    omega
  omega
 have hp1 := hp (K1 + 3) (by omega)
 refine (ssend_s hd k2 (by have := dat_len O; rw [h2] at this; omega) (K1 + 3) (packA s) 0 hp1 hlen (fun b => decide (far (fstA s) b.f0 < wn)) (fun b hb => ?_) (by rw [packA_gone]; exact Nat.le_refl _)).mono ?_
 ·rw [hf]
  unfold serial_Within.f
  rw [serial_Far_eq]
  rfl
 ·rintro e w' ⟨v, F', vw', vo', O', rfl, hs, hx, hr, ho, hda⟩
  refine ⟨v, F', _, rfl, ⟨O', vw', vo', hs, ?_, rfl⟩, hx, ⟨Kd.R_mono hr (fun k hk => hk.2), fun k hk => (ho k hk).2⟩, fun k hk => (ho k hk).1⟩
  rw [hda, h2]
  rfl
theorem again_a (h : Sn w0 w F R g wn tr s) (hk : OkA tr n s) (hn : n ≤ 900000) (ht : tr ≤ 100) :
  Calls Try.prog 13 #[.pointer (some ⟨g, 0, none⟩)] w fun e w' => ∃ v R', e = .returned (.tuple #[v, .bool (decide (¬ fullA tr s))]) ∧ Sn w0 w' F R' g wn tr (againA tr s) ∧ SX w F R w' F R' ∧ Hr k48 48 w0 w' F R' v (againL tr s) ∧ ∀ k, v.ownBlock = some k → w.heap.size ≤ k := by
 obtain ⟨O, vw, vo, hd, h2, rfl⟩ := h
 obtain ⟨k1, k2, k3, k4, k5⟩ := hk
 have hol : O.length ≤ 1000000 := by have := dat_len O; rw [h2] at this; omega
 have hob : ∀ o ∈ O, 0 ≤ o.2 ∧ o.2 ≤ 1000000 := fun o ho => by
  have := dat_mem (O := O) (Q := fun x => 0 ≤ x ∧ x ≤ tr) (by rw [h2]; exact k4) o ho
  omega
 unfold againA againL
 by_cases hq : fullA tr s
 ·rw [if_pos hq, if_pos hq, decide_eq_false (fun e => e hq)]
  obtain ⟨d, hd1, hd2⟩ := hq
  rw [← h2] at hd1
  obtain ⟨o, ho, rfl⟩ := List.mem_map.1 hd1
  refine (sagain_bad hd hol hob ⟨o, ho, hd2⟩).mono ?_
  rintro e w' ⟨rfl, hb⟩
  exact ⟨_, _, rfl, ⟨O, vw, vo, hd.below hb, h2, rfl⟩, SX.of_below _ _ hb, Hr.nil _ _ _ _ _ _, fun k hk => by simp [Value.ownBlock] at hk⟩
 ·rw [if_neg hq, if_neg hq, decide_eq_true hq]
  refine (sagain_ok hd hol hob (fun o ho e => hq ⟨_, by rw [← h2]; exact List.mem_map_of_mem ho, e⟩)).mono ?_
  rintro e w' ⟨v, rfl, hs, hx, hr, ho⟩
  refine ⟨v, _, rfl, ⟨bumpA O, vw, vo, hs, by rw [dat_bump, h2], rfl⟩, hx, ⟨?_, fun k hk => (ho k hk).2⟩, fun k hk => (ho k hk).1⟩
  rw [dat_b, h2] at hr
  refine Kd.R_mono hr (fun k hk hR => ?_)
  have hR2 : Wr g vw vo O k := Wr.bump (O2 := bumpA O) (by unfold bumpA; rw [List.map_map]; rfl) k hR
  rcases hk with e | e
  ·have := hd.lt k (hd.wr k hR2); omega
  ·exact e.2 hR2
theorem got_a (h : Sn w0 w F R g wn tr s) (hk : OkA tr n s) (hn : n ≤ 900000) (a : S36) :
  Calls Try.prog 14 #[.pointer (some ⟨g, 0, none⟩), ackV a] w fun e w' => ∃ R', e = .returned (.int .i64 ((s.D.length : Int) - ((gotA a s).D.length : Int))) ∧ Sn w0 w' F R' g wn tr (gotA a s) ∧ SX w F R w' F R' := by
 obtain ⟨O, vw, vo, hd, h2, rfl⟩ := h
 obtain ⟨k1, k2, k3, k4, k5⟩ := hk
 have hol : O.length ≤ 1000000 := by have := dat_len O; rw [h2] at this; omega
 have hf : firstL O s.nx = fstA s := by rw [fstA_dat O s.W, h2]
 obtain ⟨K1, hc⟩ := check1_ev a
 unfold gotA
 by_cases ht : takesA a s
 ·rw [if_pos ht]
  obtain ⟨t1, t2⟩ := ht
  obtain ⟨K2, hh⟩ := Ev.all (g := fun (o : It × Int) k => ack_Has.f k a.f0 a.f1 a.f2 a.f3 o.1.b.f0) (r := fun o => hasA a o.1.b.f0) O (fun o _ => has_ev a o.1.b.f0)
  have hc1 := hc (K1 + K2 + 3) (by omega)
  rw [if_pos t1] at hc1
  refine (sgot_ok hd hol (K1 + K2 + 3) a.f0 a.f1 a.f2 a.f3 hc1 (far (fstA s) a.f2) (far (fstA s) s.nx) (by rw [hf, serial_Far_eq]) (by rw [hf, serial_Far_eq]) t2 (hasA a) (fun o ho => hh _ (by omega) o ho)).mono ?_
  rintro e w' ⟨vo', rfl, hs, hx⟩
  have hdf := dat_filter O (hasA a)
  rw [h2] at hdf
  refine ⟨_, ?_, ⟨_, vw, vo', hs, hdf, rfl⟩, hx⟩
  rw [← dat_len, ← dat_len, hdf, h2]
  rfl
 ·rw [if_neg ht, Int.sub_self]
  by_cases t1 : SA a
  ·have t2 : far (fstA s) a.f2 > far (fstA s) s.nx := by
    rcases Classical.em (far (fstA s) a.f2 > far (fstA s) s.nx) with e | e
    ·exact e
    ·exact absurd ⟨t1, e⟩ ht
   have hc1 := hc (K1 + 3) (by omega)
   rw [if_pos t1] at hc1
   refine (sgot_far hd (K1 + 3) a.f0 a.f1 a.f2 a.f3 hc1 _ _ (by rw [hf, serial_Far_eq]) (by rw [hf, serial_Far_eq]) t2).mono ?_
   rintro e w' ⟨rfl, hb⟩
   exact ⟨_, rfl, ⟨O, vw, vo, hd.below hb, h2, rfl⟩, SX.of_below _ _ hb⟩
  ·have hc1 := hc K1 (by omega)
   rw [if_neg t1] at hc1
   refine (sgot_bad hd K1 a.f0 a.f1 a.f2 a.f3 1 hc1 (by decide)).mono ?_
   rintro e w' ⟨rfl, hb⟩
   exact ⟨_, rfl, ⟨O, vw, vo, hd.below hb, h2, rfl⟩, SX.of_below _ _ hb⟩
end
theorem nextN_eq (a : Int) (h : -9223372036854775808 ≤ a ∧ a ≤ 9223372036854775807) : nextN a = nx a := Option.some.inj ((nxt_eq a).symm.trans (next_eq a h))
section
variable {tr : Int} {n : Nat} {s : AS}
theorem OkA.nil (tr : Int) (n : Nat) : OkA tr n ⟨[], [], 0⟩ := ⟨(fun o ho => by cases ho), by decide, Nat.zero_le _, (fun d hd => by cases hd), by decide⟩
theorem OkA.more (h : OkA tr n s) {m : Nat} (hm : n ≤ m) : OkA tr m s := ⟨h.1, h.2.1, Nat.le_trans h.2.2.1 hm, h.2.2.2⟩
theorem OkA.push (h : OkA tr n s) (o : S34) : OkA tr n (pushA o s) := by
 unfold pushA
 split
 ·rename_i hc
  refine ⟨fun x hx => ?_, ?_, h.2.2.1, h.2.2.2⟩
  ·rcases List.mem_append.1 hx with hx | hx
   ·exact h.1 x hx
   ·rw [List.mem_singleton.1 hx]; exact hc.1
  ·show (s.W ++ [o]).length ≤ 1024
   rw [List.length_append]
   have := hc.2
   simp
   omega
 ·exact h
end
theorem pack_one (o : S34) (D : List (S48 × Int)) (n : Int) : packA ⟨[o], D, n⟩ = [⟨n % 65536, [o]⟩] := by
 unfold packA
 rw [pack_fit (fit_nil (by decide) o), pack_nil _ _ _ (by simp)]
 rfl
theorem XA_one (o : S34) (wn : Int) (h : 1 ≤ wn) : XA wn ⟨[o], [], 0⟩ = [⟨0, [o]⟩] := by
 unfold XA
 rw [pack_one]
 have : far 0 0 < wn := by unfold far; omega
 simp [fstA, this]
theorem send_one (o : S34) (wn : Int) (h : 1 ≤ wn) : sendA wn ⟨[o], [], 0⟩ = ⟨[], [(⟨0, [o]⟩, 1)], 1⟩ := by
 unfold sendA
 rw [XA_one o wn h]
 have h1 : nextL 0 [(⟨0, [o]⟩ : S48)] = 1 := (nextN_eq 0 (by decide)).trans (by decide)
 have h2 : goneL [(⟨0, [o]⟩ : S48)] = 1 := rfl
 simp only [h1, h2, List.drop_succ_cons, List.drop_zero, List.nil_append, List.map_cons, List.map_nil]
theorem again_one (b : S48) (tr c n : Int) (h : c < tr) : againA tr ⟨[], [(b, c)], n⟩ = ⟨[], [(b, c + 1)], n⟩ ∧ againL tr ⟨[], [(b, c)], n⟩ = [b] ∧ ¬ fullA tr ⟨[], [(b, c)], n⟩ := by
 have hf : ¬ fullA tr ⟨[], [(b, c)], n⟩ := by
  rintro ⟨d, hd, h2⟩
  rw [List.mem_singleton.1 hd] at h2
  have : c ≥ tr := h2
  omega
 unfold againA againL
 rw [if_neg hf, if_neg hf]
 exact ⟨rfl, rfl, hf⟩
theorem again_full (b : S48) (tr c n : Int) (h : tr ≤ c) : againA tr ⟨[], [(b, c)], n⟩ = ⟨[], [(b, c)], n⟩ ∧ againL tr ⟨[], [(b, c)], n⟩ = [] ∧ fullA tr ⟨[], [(b, c)], n⟩ := by
 have hf : fullA tr ⟨[], [(b, c)], n⟩ := ⟨_, List.mem_singleton.2 rfl, h⟩
 unfold againA againL
 rw [if_pos hf, if_pos hf]
 exact ⟨rfl, rfl, hf⟩
theorem again_none (tr n : Int) : againA tr ⟨[], [], n⟩ = ⟨[], [], n⟩ ∧ againL tr ⟨[], [], n⟩ = [] ∧ ¬ fullA tr ⟨[], [], n⟩ := by
 have hf : ¬ fullA tr ⟨[], [], n⟩ := by rintro ⟨d, hd, _⟩; cases hd
 unfold againA againL
 rw [if_neg hf, if_neg hf]
 exact ⟨rfl, rfl, hf⟩
theorem got_one (o : S34) (c : Int) : gotA ⟨0, 0, 1, 0⟩ ⟨[], [(⟨0, [o]⟩, c)], 1⟩ = ⟨[], [], 1⟩ := by
 unfold gotA
 rw [if_pos ⟨by decide, by show ¬ far 0 1 > far 0 1; omega⟩]
 have : hasA ⟨0, 0, 1, 0⟩ 0 = true := by decide
 simp [hasA', this]
abbrev oEx : S34 := (⟨1, 5, ⟨false, 0, 0, 0, 0, 0⟩, ⟨0, 0, 0⟩, 0⟩ : S34)
theorem oEx_right : OR oEx := by
 show RO 1 5 false 0 0 0 0 0 0 0 0 0
 decide
section
variable {w0 w : World} {F R : Nat → Prop} {g : Nat}
theorem aw_push (h : Sn w0 w F R g 1 2 ⟨[], [], 0⟩) : Calls Try.prog 11 #[.pointer (some ⟨g, 0, none⟩), .agg #[.int .i64 1, .int .i64 5, .bool false, .int .i64 0, .int .i64 0, .int .i64 0, .int .i64 0, .int .i64 0, .int .i64 0, .int .i64 0, .int .i64 0, .int .i64 0]] w fun e w' => ∃ F' R', e = .returned (.int .i64 0) ∧ Sn w0 w' F' R' g 1 2 ⟨[oEx], [], 0⟩ := by
 refine (push_a h oEx).mono ?_
 rintro e w' ⟨F', R', rfl, hn, _⟩
 have e1 : pushE oEx ⟨[], [], 0⟩ = 0 := by unfold pushE; rw [if_pos oEx_right, if_pos (by decide)]
 have e2 : pushA oEx ⟨[], [], 0⟩ = ⟨[oEx], [], 0⟩ := by unfold pushA; rw [if_pos ⟨oEx_right, by decide⟩]; rfl
 rw [e1]
 rw [e2] at hn
 exact ⟨F', R', rfl, hn⟩
theorem ok_one (o : S34) (ho : OR o) (tr : Int) : OkA tr 1 ⟨[o], [], 0⟩ := ⟨fun x hx => by rw [List.mem_singleton.1 hx]; exact ho, by show 1 ≤ 1024; decide, Nat.zero_le _, (fun d hd => by cases hd), by show (0 : Int) ≤ 0 ∧ (0 : Int) ≤ 65535; decide⟩
theorem ok_out (b : S48) (tr c n : Int) (h : 0 ≤ c ∧ c ≤ tr) (hn : 0 ≤ n ∧ n ≤ 65535) : OkA tr 1 ⟨[], [(b, c)], n⟩ := ⟨(fun x hx => by cases hx), Nat.zero_le _, Nat.le_refl _, fun d hd => by rw [List.mem_singleton.1 hd]; exact h, hn⟩
theorem ok_none (tr n : Int) (hn : 0 ≤ n ∧ n ≤ 65535) : OkA tr 1 ⟨[], [], n⟩ := ⟨(fun x hx => by cases hx), Nat.zero_le _, Nat.zero_le _, (fun d hd => by cases hd), hn⟩
theorem one_send {wn tr : Int} {o : S34} (ho : OR o) (hw : 1 ≤ wn) (h : Sn w0 w F R g wn tr ⟨[o], [], 0⟩) : Calls Try.prog 12 #[.pointer (some ⟨g, 0, none⟩)] w fun e w' => ∃ A c F' R', e = .returned (.slice A 1 c) ∧ Sn w0 w' F' R' g wn tr ⟨[], [(⟨0, [o]⟩, 1)], 1⟩ ∧ Hr k48 48 w0 w' F' R' (.slice A 1 c) [⟨0, [o]⟩] := by
 refine (send_a h (ok_one o ho tr) (by decide)).mono ?_
 rintro e w' ⟨v, F', R', rfl, hn, _, hr, _⟩
 rw [send_one o wn hw] at hn
 rw [XA_one o wn hw] at hr
 obtain ⟨A, c, rfl⟩ := Kd.R_slice hr.1
 exact ⟨A, c, F', R', rfl, hn, hr⟩
theorem one_again {wn tr c : Int} {b : S48} (hc : 0 ≤ c ∧ c < tr) (ht : tr ≤ 100) (h : Sn w0 w F R g wn tr ⟨[], [(b, c)], 1⟩) : Calls Try.prog 13 #[.pointer (some ⟨g, 0, none⟩)] w fun e w' => ∃ A k R', e = .returned (.tuple #[.slice A 1 k, .bool true]) ∧ Sn w0 w' F R' g wn tr ⟨[], [(b, c + 1)], 1⟩ ∧ SX w F R w' F R' ∧ Hr k48 48 w0 w' F R' (.slice A 1 k) [b] := by
 obtain ⟨e1, e2, e3⟩ := again_one b tr c 1 hc.2
 refine (again_a h (ok_out b tr c 1 (by omega) (by decide)) (by decide) ht).mono ?_
 rintro e w' ⟨v, R', rfl, hn, hx, hr, _⟩
 rw [decide_eq_true e3]
 rw [e1] at hn
 rw [e2] at hr
 obtain ⟨A, k, rfl⟩ := Kd.R_slice hr.1
 exact ⟨A, k, R', rfl, hn, hx, hr⟩
theorem one_full {wn tr c : Int} {b : S48} (hc : 0 ≤ c ∧ c = tr) (ht : tr ≤ 100) (h : Sn w0 w F R g wn tr ⟨[], [(b, c)], 1⟩) : Calls Try.prog 13 #[.pointer (some ⟨g, 0, none⟩)] w fun e w' => ∃ A k R', e = .returned (.tuple #[.slice A 0 k, .bool false]) ∧ Sn w0 w' F R' g wn tr ⟨[], [(b, c)], 1⟩ ∧ SX w F R w' F R' := by
 obtain ⟨e1, e2, e3⟩ := again_full b tr c 1 (by omega)
 refine (again_a h (ok_out b tr c 1 (by omega) (by decide)) (by decide) ht).mono ?_
 rintro e w' ⟨v, R', rfl, hn, hx, hr, _⟩
 rw [decide_eq_false (fun h => h e3)]
 rw [e1] at hn
 rw [e2] at hr
 obtain ⟨A, k, rfl⟩ := Kd.R_slice hr.1
 exact ⟨A, k, R', rfl, hn, hx⟩
theorem one_none {wn tr : Int} (ht : tr ≤ 100) (h : Sn w0 w F R g wn tr ⟨[], [], 1⟩) : Calls Try.prog 13 #[.pointer (some ⟨g, 0, none⟩)] w fun e w' => ∃ A k R', e = .returned (.tuple #[.slice A 0 k, .bool true]) ∧ Sn w0 w' F R' g wn tr ⟨[], [], 1⟩ ∧ SX w F R w' F R' := by
 obtain ⟨e1, e2, e3⟩ := again_none tr 1
 refine (again_a h (ok_none tr 1 (by decide)) (by decide) ht).mono ?_
 rintro e w' ⟨v, R', rfl, hn, hx, hr, _⟩
 rw [decide_eq_true e3]
 rw [e1] at hn
 rw [e2] at hr
 obtain ⟨A, k, rfl⟩ := Kd.R_slice hr.1
 exact ⟨A, k, R', rfl, hn, hx⟩
theorem one_got {wn tr c : Int} {o : S34} (hc : 0 ≤ c ∧ c ≤ tr) (h : Sn w0 w F R g wn tr ⟨[], [(⟨0, [o]⟩, c)], 1⟩) : Calls Try.prog 14 #[.pointer (some ⟨g, 0, none⟩), .agg #[.int .i64 0, .int .i64 0, .int .i64 1, .int .i64 0]] w fun e w' => ∃ R', e = .returned (.int .i64 1) ∧ Sn w0 w' F R' g wn tr ⟨[], [], 1⟩ ∧ SX w F R w' F R' := by
 refine (got_a h (ok_out _ tr c 1 (by omega) (by decide)) (by decide) ⟨0, 0, 1, 0⟩).mono ?_
 rintro e w' ⟨R', rfl, hn, hx⟩
 rw [got_one o c] at hn ⊢
 exact ⟨R', rfl, hn, hx⟩
theorem aw_send (h : Sn w0 w F R g 1 2 ⟨[oEx], [], 0⟩) : Calls Try.prog 12 #[.pointer (some ⟨g, 0, none⟩)] w fun e w' => ∃ A c F' R', e = .returned (.slice A 1 c) ∧ Sn w0 w' F' R' g 1 2 ⟨[], [(⟨0, [oEx]⟩, 1)], 1⟩ ∧ Hr k48 48 w0 w' F' R' (.slice A 1 c) [⟨0, [oEx]⟩] := one_send oEx_right (by decide) h
theorem aw_again1 (h : Sn w0 w F R g 1 2 ⟨[], [(⟨0, [oEx]⟩, 1)], 1⟩) : Calls Try.prog 13 #[.pointer (some ⟨g, 0, none⟩)] w fun e w' => ∃ A k R', e = .returned (.tuple #[.slice A 1 k, .bool true]) ∧ Sn w0 w' F R' g 1 2 ⟨[], [(⟨0, [oEx]⟩, 2)], 1⟩ ∧ SX w F R w' F R' :=
 (one_again (by decide) (by decide) h).mono (fun _ _ ⟨A, k, R', e, h1, h2, _⟩ => ⟨A, k, R', e, h1, h2⟩)
theorem aw_again2 (h : Sn w0 w F R g 1 2 ⟨[], [(⟨0, [oEx]⟩, 2)], 1⟩) : Calls Try.prog 13 #[.pointer (some ⟨g, 0, none⟩)] w fun e w' => ∃ A k R', e = .returned (.tuple #[.slice A 0 k, .bool false]) ∧ Sn w0 w' F R' g 1 2 ⟨[], [(⟨0, [oEx]⟩, 2)], 1⟩ ∧ SX w F R w' F R' := one_full (by decide) (by decide) h
theorem aw_got (h : Sn w0 w F R g 1 2 ⟨[], [(⟨0, [oEx]⟩, 2)], 1⟩) : Calls Try.prog 14 #[.pointer (some ⟨g, 0, none⟩), .agg #[.int .i64 0, .int .i64 0, .int .i64 1, .int .i64 0]] w fun e w' => ∃ R', e = .returned (.int .i64 1) ∧ Sn w0 w' F R' g 1 2 ⟨[], [], 1⟩ ∧ SX w F R w' F R' := one_got (by decide) h
theorem aw_again3 (h : Sn w0 w F R g 1 2 ⟨[], [], 1⟩) : Calls Try.prog 13 #[.pointer (some ⟨g, 0, none⟩)] w fun e w' => ∃ A k R', e = .returned (.tuple #[.slice A 0 k, .bool true]) ∧ Sn w0 w' F R' g 1 2 ⟨[], [], 1⟩ ∧ SX w F R w' F R' := one_none (by decide) h
end
theorem awake_a (w : World) : Calls Try.prog 10 #[] w fun e w' => e = .returned (.bool true) ∧ Below w.heap.size w w' := by
 go_enter Try.func10, Try.ntmps10
 go_wp2_with (first
  | (go_at_call 9; (with_reducible refine (new_a (Below.refl _ _) 1 2 (by decide) (by decide) (by decide) (by decide)).mono ?_); rintro x_ w1 ⟨g, F1, R1, rfl, hn, hb, _⟩; have M1 := Aside0.mk hn; have B1 := Aside0.mk hb; clear hn hb)
  | (go_at_call 11; (with_reducible refine (aw_push M1.out).mono ?_); rintro x_ w2 ⟨F2, R2, rfl, hn⟩; have M2 := Aside0.mk hn; clear hn)
  | (go_at_call 12; (with_reducible refine (aw_send M2.out).mono ?_); rintro x_ w3 ⟨A3, c3, F3, R3, rfl, hn, hr⟩; have M3 := Aside0.mk hn; have HR3 := Aside0.mk hr; clear hn hr)
  | (go_at_call 13; (with_reducible refine (aw_again1 M3.out).mono ?_); rintro x_ w4 ⟨A4, c4, R4, rfl, hn, hx⟩; have M4 := Aside0.mk hn; have HR4 := Aside0.mk (HR3.out.step hx); clear hn hx)
  | (go_at_call 13; (with_reducible refine (aw_again2 M4.out).mono ?_); rintro x_ w5 ⟨A5, c5, R5, rfl, hn, hx⟩; have M5 := Aside0.mk hn; have HR5 := Aside0.mk (HR4.out.step hx); clear hn hx)
  | (go_at_call 14; (with_reducible refine (aw_got M5.out).mono ?_); rintro x_ w6 ⟨R6, rfl, hn, hx⟩; have M6 := Aside0.mk hn; have HR6 := Aside0.mk (HR5.out.step hx); clear hn hx)
  | (go_at_call 13; (with_reducible refine (aw_again3 M6.out).mono ?_); rintro x_ w7 ⟨A7, c7, R7, rfl, hn, hx⟩; have M7 := Aside0.mk hn; have HR7 := Aside0.mk (HR6.out.step hx); clear hn hx; obtain ⟨ad, A8, c8, e_, z0, _, _, _⟩ := at_T48 (Kd.R_reads' HR7.out.1).2.2 0 (Int.le_refl _) (by decide); cases e_; have e0 : ad.add ((0 : Int).toNat * 2) = ad := (by show ad.add 0 = ad; cases ad; simp [Addr.add]); rw [e0] at z0; replace z0 : w7.cell? ad = some (.int .i64 0) := z0; clear e0))
 go_ret
 exact ⟨rfl, M7.out.bl⟩
end Go.Proofs.Ytclbempnhelmoaa.P
namespace Go.Proofs.Ytclbempnhelmoaa.P
open Go.RowKit YtclbempnhelmoaaW.PrintWords YtclbempnhelmoaaW.PrintLast YtclbempnhelmoaaW.PrintMore
def thalweglaw14_SenderNil.f (a0_0 : Int) (a0_1 : Int) (a0_2 : Bool) (a0_3 : Int) (a0_4 : Int) (a0_5 : Int) (a0_6 : Int) (a0_7 : Int) (a0_8 : Int) (a0_9 : Int) (a0_10 : Int) (a0_11 : Int) (a1_0 : Int) (a1_1 : Int) (a1_2 : Int) (a1_3 : Int) : Option Bool := some true
theorem thalweglaw14_SenderNil.calls (a0_0 : Int) (a0_1 : Int) (a0_2 : Bool) (a0_3 : Int) (a0_4 : Int) (a0_5 : Int) (a0_6 : Int) (a0_7 : Int) (a0_8 : Int) (a0_9 : Int) (a0_10 : Int) (a0_11 : Int) (a1_0 : Int) (a1_1 : Int) (a1_2 : Int) (a1_3 : Int) (r : Bool) (w : World) (h : thalweglaw14_SenderNil.f a0_0 a0_1 a0_2 a0_3 a0_4 a0_5 a0_6 a0_7 a0_8 a0_9 a0_10 a0_11 a1_0 a1_1 a1_2 a1_3 = some r) :
  Calls Try.prog 7 #[.agg #[.int .i64 a0_0, .int .i64 a0_1, .bool a0_2, .int .i64 a0_3, .int .i64 a0_4, .int .i64 a0_5, .int .i64 a0_6, .int .i64 a0_7, .int .i64 a0_8, .int .i64 a0_9, .int .i64 a0_10, .int .i64 a0_11], .agg #[.int .i64 a1_0, .int .i64 a1_1, .int .i64 a1_2, .int .i64 a1_3]] w fun e w' => e = .returned (.bool r) ∧ Below w.heap.size w w' := by
 have hr : true = r := Option.some.inj h
 subst hr
 clear h
 go_enter Try.func7, Try.ntmps7
 go_wp2_with (first
  | ((with_reducible refine gate_dst (N := 2) rfl ?_); refine box_event ?hg (N := 2) ?hd (cs := #[.int .i64 a0_0, .int .i64 a0_1, .bool a0_2, .int .i64 a0_3, .int .i64 a0_4, .int .i64 a0_5, .int .i64 a0_6, .int .i64 a0_7, .int .i64 a0_8, .int .i64 a0_9, .int .i64 a0_10, .int .i64 a0_11]) (t := 34) ?hr ?_; (case hd => rfl); (case hg => rfl); (case hr => first | (go_simp; done) | (go_simp; rfl) | rfl | kernel_rfl); intro gO hg w1 hbox hb; have BO1 := Aside0.mk hbox; have B1 := Aside0.mk hb; clear hb hbox hg)
  | ((with_reducible refine gate_dst (N := 3) rfl ?_); refine box_event ?hg (N := 3) ?hd (cs := #[.int .i64 a1_0, .int .i64 a1_1, .int .i64 a1_2, .int .i64 a1_3]) (t := 36) ?hr ?_; (case hd => rfl); (case hg => rfl); (case hr => first | (go_simp; done) | (go_simp; rfl) | rfl | kernel_rfl); intro gA hg w2 hbox hb; have BA2 := Aside0.mk hbox; have B2 := Aside0.mk (below_step B1.out hb); have BO2 := Aside0.mk (blk_below BO1.out hb); clear hb hbox hg)
  | (go_at_call 13; (with_reducible refine (sagain_nil _).mono ?_); rintro x_ w3 ⟨rfl, hb⟩; have B3 := Aside0.mk (below_step B2.out hb); have BO3 := Aside0.mk (blk_below BO2.out hb); have BA3 := Aside0.mk (blk_below BA2.out hb); clear hb)
  | (go_at_call 10; (with_reducible refine (awake_a _).mono ?_); rintro x_ w4 ⟨rfl, hb⟩; have B4 := Aside0.mk (below_step B3.out hb); have BO4 := Aside0.mk (blk_below BO3.out hb); have BA4 := Aside0.mk (blk_below BA3.out hb); have p0 := (blk_cell BO4.out 0).trans rfl; have p1 := (blk_cell BO4.out 1).trans rfl; have p2 := (blk_cell BO4.out 2).trans rfl; have p3 := (blk_cell BO4.out 3).trans rfl; have p4 := (blk_cell BO4.out 4).trans rfl; have p5 := (blk_cell BO4.out 5).trans rfl; have p6 := (blk_cell BO4.out 6).trans rfl; have p7 := (blk_cell BO4.out 7).trans rfl; have p8 := (blk_cell BO4.out 8).trans rfl; have p9 := (blk_cell BO4.out 9).trans rfl; have p10 := (blk_cell BO4.out 10).trans rfl; have p11 := (blk_cell BO4.out 11).trans rfl; clear hb)
  | (go_at_call 11; (with_reducible refine (spush_nil _ a0_0 a0_1 a0_2 a0_3 a0_4 a0_5 a0_6 a0_7 a0_8 a0_9 a0_10 a0_11).mono ?_); rintro x_ w5 ⟨rfl, hb⟩; have B5 := Aside0.mk (below_step B4.out hb); have BA5 := Aside0.mk (blk_below BA4.out hb); have q0 := (blk_cell BA5.out 0).trans rfl; have q1 := (blk_cell BA5.out 1).trans rfl; have q2 := (blk_cell BA5.out 2).trans rfl; have q3 := (blk_cell BA5.out 3).trans rfl; clear hb)
  | (go_at_call 12; (with_reducible refine (ssend_nil _).mono ?_); rintro x_ w_ ⟨rfl, rfl⟩)
  | (go_at_call 23; (with_reducible refine (swait_nil _).mono ?_); rintro x_ w_ ⟨rfl, rfl⟩)
  | (go_at_call 15; (with_reducible refine (sout_nil _).mono ?_); rintro x_ w_ ⟨rfl, rfl⟩)
  | (go_at_call 14; (with_reducible refine (sgot_nil _ a1_0 a1_1 a1_2 a1_3).mono ?_); rintro x_ w6 ⟨rfl, hb⟩; have B6 := Aside0.mk (below_step B5.out hb); clear hb))
 go_ret
 exact ⟨rfl, B6.out⟩
end Go.Proofs.Ytclbempnhelmoaa.P
namespace Go.Proofs.Ytclbempnhelmoaa.P
open Go.RowKit YtclbempnhelmoaaW.PrintWords
def thalweglaw14_SenderNil.Pure : Prop := ∀ (x0 : S34) (x1 : S36), ((Lit.int .i64 x0.f0).wf = true ∧ (Lit.int .i64 x0.f1).wf = true ∧ (True ∧ (Lit.int .i64 x0.f2.f1).wf = true ∧ (Lit.int .i64 x0.f2.f2).wf = true ∧ (Lit.int .i64 x0.f2.f3).wf = true ∧ (Lit.int .i64 x0.f2.f4).wf = true ∧ (Lit.int .i64 x0.f2.f5).wf = true) ∧ ((Lit.int .i64 x0.f3.f0).wf = true ∧ (Lit.int .i64 x0.f3.f1).wf = true ∧ (Lit.int .i64 x0.f3.f2).wf = true) ∧ (Lit.int .i64 x0.f4).wf = true) → ((Lit.int .i64 x1.f0).wf = true ∧ (Lit.int .i64 x1.f1).wf = true ∧ (Lit.int .i64 x1.f2).wf = true ∧ (Lit.int .i64 x1.f3).wf = true) → thalweglaw14_SenderNil.f x0.f0 x0.f1 x0.f2.f0 x0.f2.f1 x0.f2.f2 x0.f2.f3 x0.f2.f4 x0.f2.f5 x0.f3.f0 x0.f3.f1 x0.f3.f2 x0.f4 x1.f0 x1.f1 x1.f2 x1.f3 = some true
end Go.Proofs.Ytclbempnhelmoaa.P
namespace Go.Proofs.Ytclbempnhelmoaa.Pure
open Go.RowKit Go.Proofs.Ytclbempnhelmoaa.P
theorem SenderNil : thalweglaw14_SenderNil.Pure := fun _ _ _ _ => rfl
end Go.Proofs.Ytclbempnhelmoaa.Pure
namespace Go.Proofs.YtclbempnhelmoaaW.Opn
open Go.RowKit YtclbempnhelmoaaW.PrintWords Go.ChangeShapes Go.WideShapes Go.Deep
def Opens (P : Program) (t : TypeId) {α : Type} (d : Kd α) (wf : α → Prop) : Prop :=
 ∀ {H : Type} (enc : TypeId × Value → H) (w : World) (base : Nat) (spare : Nat → Bool) (held : Bool) (fuel : Nat) (cs : List Value) (y : DataW H × List MemPlace),
  DataW.trod enc P w base spare held fuel t cs = some y → ∃ x : α, d.K w x cs ∧ wf x
theorem opens_int {P : Program} {t : TypeId} {k : IntKind} (ht : P.underlying t = some (.int k)) : Opens P t (Kd.int k) (fun x => (Lit.int k x).wf = true) := by
 intro H enc w base spare held fuel cs y h
 obtain ⟨n, rfl, _, hw⟩ := DataW.trod_int ht h
 exact ⟨n, rfl, hw⟩
theorem opens_bool {P : Program} {t : TypeId} (ht : P.underlying t = some .bool) : Opens P t Kd.bool (fun _ => True) := by
 intro H enc w base spare held fuel cs y h
 obtain ⟨n, rfl, _⟩ := DataW.trod_bool ht h
 exact ⟨n, rfl, trivial⟩
theorem opens_iso {P : Program} {t : TypeId} {α β : Type} {d : Kd α} {wf : α → Prop} (f : β → α) (g : α → β) (hg : ∀ a, f (g a) = a) (h : Opens P t d wf) : Opens P t (Kd.iso d f) (fun b => wf (f b)) := by
 intro H enc w base spare held fuel cs y hy
 obtain ⟨x, hx, hw⟩ := h enc w base spare held fuel cs y hy
 exact ⟨g x, by show d.K w (f (g x)) cs; rw [hg]; exact hx, by show wf (f (g x)); rw [hg]; exact hw⟩
def OpensL (P : Program) : (ts : List TypeId) → {α : Type} → (d : Kd α) → (wf : α → Prop) → Prop := fun ts {α} d wf =>
 ∀ {H : Type} (enc : TypeId × Value → H) (w : World) (base : Nat) (spare : Nat → Bool) (held : Bool) (n : Nat) (cs : List Value) (xs : List (DataW H × List MemPlace)) (off : Nat),
  (∀ (i : Nat) (t : TypeId), ts[i]? = some t → ∃ y, DataW.trod enc P w base spare held n t ((cs.drop (off + ((ts.take i).map P.cellsOf).sum)).take (P.cellsOf t)) = some y) →
  ∃ x : α, d.K w x ((cs.drop off).take ((ts.map P.cellsOf).sum)) ∧ wf x
theorem opensL_one {P : Program} {t : TypeId} {α : Type} {d : Kd α} {wf : α → Prop} (h : Opens P t d wf) : OpensL P [t] d wf := by
 intro H enc w base spare held n cs xs off hx
 obtain ⟨y, hy⟩ := hx 0 t rfl
 simpa using h enc w base spare held n _ y (by simpa using hy)
theorem opensL_cons {P : Program} {t : TypeId} {ts : List TypeId} {α β : Type} {d : Kd α} {d' : Kd β} {wf : α → Prop} {wf' : β → Prop} (h : Opens P t d wf) (h' : OpensL P ts d' wf') :
  OpensL P (t :: ts) (Kd.pair d d') (fun x => wf x.1 ∧ wf' x.2) := by
 intro H enc w base spare held n cs xs off hx
 obtain ⟨y, hy⟩ := hx 0 t rfl
 obtain ⟨x, hk, hw⟩ := h enc w base spare held n _ y (by simpa using hy)
 obtain ⟨x', hk', hw'⟩ := h' enc w base spare held n cs xs (off + P.cellsOf t) (fun i u hu => by
  have := hx (i + 1) u hu
  simpa [Nat.add_assoc] using this)
 refine ⟨(x, x'), ⟨(cs.drop off).take (P.cellsOf t), (cs.drop (off + P.cellsOf t)).take ((ts.map P.cellsOf).sum), ?_, hk, hk'⟩, hw, hw'⟩
 simp only [List.map_cons, List.sum_cons]
 rw [List.take_add, List.drop_drop]
def lineB (P : Program) : List Field → Nat → Bool
 | [], _ => true
 | f :: fs, off => (f.offset == off) && lineB P fs (off + P.cellsOf f.type)
theorem line_at {P : Program} : ∀ (fs : List Field) (off : Nat), lineB P fs off = true → ∀ (i : Nat) (f : Field), fs[i]? = some f → f.offset = off + (((fs.map (·.type)).take i).map P.cellsOf).sum := by
 intro fs
 induction fs with
 | nil => intro off _ i f h; simp at h
 | cons g gs ih =>
  intro off hb i f h
  unfold lineB at hb
  rw [Bool.and_eq_true, beq_iff_eq] at hb
  cases i with
  | zero =>
   simp at h
   subst h
   simpa using hb.1
  | succ i =>
   have := ih _ hb.2 i f (by simpa using h)
   simp only [List.map_cons, List.take_succ_cons, List.sum_cons]
   omega
theorem opens_struct {P : Program} {t : TypeId} {fs : Array Field} {α : Type} {d : Kd α} {wf : α → Prop} (ht : P.underlying t = some (.struct fs)) (hl : lineB P fs.toList 0 = true) (hc : P.cellsOf t = ((fs.toList.map (·.type)).map P.cellsOf).sum)
  (h : OpensL P (fs.toList.map (·.type)) d wf) : Opens P t d wf := by
 intro H enc w base spare held fuel cs y hy
 obtain ⟨xs, n, _, _, hlen, hxl, hf⟩ := DataW.trod_struct ht hy
 obtain ⟨x, hk, hw⟩ := h enc w base spare held n cs xs 0 (fun i u hu => by
  rw [List.getElem?_map, Option.map_eq_some_iff] at hu
  obtain ⟨f, hf0, rfl⟩ := hu
  have hi : i < fs.size := by
   have := (List.getElem?_eq_some_iff.1 hf0).1
   simpa using this
  have h1 := hf i f (by rw [← Array.getElem?_toList]; exact hf0)
  rw [line_at _ 0 hl i f hf0] at h1
  exact ⟨_, h1.trans (List.getElem?_eq_getElem (by omega))⟩)
 rw [← hc, List.drop_zero, ← hlen, List.take_length] at hk
 exact ⟨x, hk, hw⟩
end Go.Proofs.YtclbempnhelmoaaW.Opn
namespace Go.Proofs.Ytclbempnhelmoaa.senderNil
open Go.ChangeShapes Go.WideShapes Go.ChangeAt Go.RowKit Go.Proofs.YtclbempnhelmoaaW YtclbempnhelmoaaW.PrintWords Go.Proofs.Ytclbempnhelmoaa.P
open Go.ChangeMaps (open_string shut_string)
theorem own : ownKnob Try.prog.godebug = none := by kernel_rfl
theorem laidOut : laidOutB Try.prog = true := by kernel_rfl
theorem opn30 : Opn.Opens Try.prog 30 k30 (fun x => (True ∧ (Lit.int .i64 x.f1).wf = true ∧ (Lit.int .i64 x.f2).wf = true ∧ (Lit.int .i64 x.f3).wf = true ∧ (Lit.int .i64 x.f4).wf = true ∧ (Lit.int .i64 x.f5).wf = true)) :=
 Opn.opens_iso (fun x : S30 => (x.f0, x.f1, x.f2, x.f3, x.f4, x.f5)) (fun a => ⟨a.1, a.2.1, a.2.2.1, a.2.2.2.1, a.2.2.2.2.1, a.2.2.2.2.2⟩) (fun _ => rfl) (Opn.opens_struct Try.underlying30 (by kernel_rfl) (by kernel_rfl) (Opn.opensL_cons (Opn.opens_bool Try.underlying4) (Opn.opensL_cons (Opn.opens_int Try.underlying3) (Opn.opensL_cons (Opn.opens_int Try.underlying3) (Opn.opensL_cons (Opn.opens_int Try.underlying3) (Opn.opensL_cons (Opn.opens_int Try.underlying3) (Opn.opensL_one (Opn.opens_int Try.underlying3))))))))
theorem opn32 : Opn.Opens Try.prog 32 k32 (fun x => ((Lit.int .i64 x.f0).wf = true ∧ (Lit.int .i64 x.f1).wf = true ∧ (Lit.int .i64 x.f2).wf = true)) :=
 Opn.opens_iso (fun x : S32 => (x.f0, x.f1, x.f2)) (fun a => ⟨a.1, a.2.1, a.2.2⟩) (fun _ => rfl) (Opn.opens_struct Try.underlying32 (by kernel_rfl) (by kernel_rfl) (Opn.opensL_cons (Opn.opens_int Try.underlying3) (Opn.opensL_cons (Opn.opens_int Try.underlying3) (Opn.opensL_one (Opn.opens_int Try.underlying3)))))
theorem opn34 : Opn.Opens Try.prog 34 k34 (fun x => ((Lit.int .i64 x.f0).wf = true ∧ (Lit.int .i64 x.f1).wf = true ∧ (True ∧ (Lit.int .i64 x.f2.f1).wf = true ∧ (Lit.int .i64 x.f2.f2).wf = true ∧ (Lit.int .i64 x.f2.f3).wf = true ∧ (Lit.int .i64 x.f2.f4).wf = true ∧ (Lit.int .i64 x.f2.f5).wf = true) ∧ ((Lit.int .i64 x.f3.f0).wf = true ∧ (Lit.int .i64 x.f3.f1).wf = true ∧ (Lit.int .i64 x.f3.f2).wf = true) ∧ (Lit.int .i64 x.f4).wf = true)) :=
 Opn.opens_iso (fun x : S34 => (x.f0, x.f1, x.f2, x.f3, x.f4)) (fun a => ⟨a.1, a.2.1, a.2.2.1, a.2.2.2.1, a.2.2.2.2⟩) (fun _ => rfl) (Opn.opens_struct Try.underlying34 (by kernel_rfl) (by kernel_rfl) (Opn.opensL_cons (Opn.opens_int Try.underlying3) (Opn.opensL_cons (Opn.opens_int Try.underlying3) (Opn.opensL_cons opn30 (Opn.opensL_cons opn32 (Opn.opensL_one (Opn.opens_int Try.underlying3)))))))
theorem opn36 : Opn.Opens Try.prog 36 k36 (fun x => ((Lit.int .i64 x.f0).wf = true ∧ (Lit.int .i64 x.f1).wf = true ∧ (Lit.int .i64 x.f2).wf = true ∧ (Lit.int .i64 x.f3).wf = true)) :=
 Opn.opens_iso (fun x : S36 => (x.f0, x.f1, x.f2, x.f3)) (fun a => ⟨a.1, a.2.1, a.2.2.1, a.2.2.2⟩) (fun _ => rfl) (Opn.opens_struct Try.underlying36 (by kernel_rfl) (by kernel_rfl) (Opn.opensL_cons (Opn.opens_int Try.underlying3) (Opn.opensL_cons (Opn.opens_int Try.underlying3) (Opn.opensL_cons (Opn.opens_int Try.underlying3) (Opn.opensL_one (Opn.opens_int Try.underlying3))))))
theorem lifted (os : Os) (started : os.Started) (H : Type) (enc : TypeId × Value → H) :
  ReturnsInHanded {} Try.checked os 7 .any (Rows.senderNilSpec.pre6 enc Try.prog Try.f7 Rows.senderNilRow.domain false) (Rows.senderNilSpec.post enc Try.prog Try.f7 false true false false) := by
 refine returnsInHanded_of_change_sized (C := Try.checked) own started (by kernel_rfl) Try.func7
  (ChangeSpec.witness6 (enc := enc) (C := Try.checked) false ⟨#[], #[.agg #[(.int .i64 0), (.int .i64 0), (.bool false), (.int .i64 0), (.int .i64 0), (.int .i64 0), (.int .i64 0), (.int .i64 0), (.int .i64 0), (.int .i64 0), (.int .i64 0), (.int .i64 0)], .agg #[(.int .i64 0), (.int .i64 0), (.int .i64 0), (.int .i64 0)]], []⟩ 8 (by kernel_rfl) (by kernel_rfl) (by kernel_rfl) (by kernel_rfl)) ?_
 intro W base args ds gs before hval0 hW hcnd hsz0 _
 have hval : ∀ (j : Nat) t v, Try.f7.params[j]? = some t → args[j]? = some v → Value.okWide Try.prog W .any base t v := hval0
 have hW' := hW
 obtain ⟨p, q, hA0, hV, rfl, hfz, hnd⟩ := hW
 have hA : DataW.TrodAll enc Try.prog W 0 (fun _ => true) true Try.f7.params.toList args.toList ds p := hA0
 rw [Try.params7] at hA hval
 obtain ⟨v0, vs0, d0, ds0, p0, q0, hargs, rfl, rfl, h0, r0⟩ := trodAll_cons hA
 obtain ⟨v1, vs1, d1, ds1, p1, q1, rfl, rfl, rfl, h1, r1⟩ := trodAll_cons r0
 obtain ⟨rfl, rfl, rfl⟩ := trodAll_nil r1
 obtain rfl : args = #[v0, v1] := by cases args; simp_all
 obtain ⟨rfl, rfl⟩ := trodVars_none hV
 have k0 := h0
 have lt0 : ∀ x ∈ p0, x.block < W.heap.size := by obtain ⟨m, hm⟩ := k0; exact DataW.trod_lt m _ _ _ hm
 obtain ⟨cs0, hv0, _⟩ := okWide_struct Try.underlying34 (hval 0 34 v0 rfl rfl)
 subst hv0
 obtain ⟨x0, K0, W0⟩ : ∃ x : S34, k34.K W x cs0.toList ∧ ((Lit.int .i64 x.f0).wf = true ∧ (Lit.int .i64 x.f1).wf = true ∧ (True ∧ (Lit.int .i64 x.f2.f1).wf = true ∧ (Lit.int .i64 x.f2.f2).wf = true ∧ (Lit.int .i64 x.f2.f3).wf = true ∧ (Lit.int .i64 x.f2.f4).wf = true ∧ (Lit.int .i64 x.f2.f5).wf = true) ∧ ((Lit.int .i64 x.f3.f0).wf = true ∧ (Lit.int .i64 x.f3.f1).wf = true ∧ (Lit.int .i64 x.f3.f2).wf = true) ∧ (Lit.int .i64 x.f4).wf = true) := by
  obtain ⟨fuel, hf⟩ := h0
  exact opn34 enc W 0 (fun _ => true) true fuel _ _ hf
 have E0 := k34_open K0
 obtain ⟨cl0⟩ := cs0
 have E0' : cl0 = _ := E0
 subst E0'
 have k1 := h1
 have lt1 : ∀ x ∈ p1, x.block < W.heap.size := by obtain ⟨m, hm⟩ := k1; exact DataW.trod_lt m _ _ _ hm
 obtain ⟨cs1, hv1, _⟩ := okWide_struct Try.underlying36 (hval 1 36 v1 rfl rfl)
 subst hv1
 obtain ⟨x1, K1, W1⟩ : ∃ x : S36, k36.K W x cs1.toList ∧ ((Lit.int .i64 x.f0).wf = true ∧ (Lit.int .i64 x.f1).wf = true ∧ (Lit.int .i64 x.f2).wf = true ∧ (Lit.int .i64 x.f3).wf = true) := by
  obtain ⟨fuel, hf⟩ := h1
  exact opn36 enc W 0 (fun _ => true) true fuel _ _ hf
 have E1 := k36_open K1
 obtain ⟨cl1⟩ := cs1
 have E1' : cl1 = _ := E1
 subst E1'
 have hk := Pure.SenderNil x0 x1 W0 W1
 clear hA0 hval0 hsz0
 refine (thalweglaw14_SenderNil.calls (a0_0 := x0.f0) (a0_1 := x0.f1) (a0_2 := x0.f2.f0) (a0_3 := x0.f2.f1) (a0_4 := x0.f2.f2) (a0_5 := x0.f2.f3) (a0_6 := x0.f2.f4) (a0_7 := x0.f2.f5) (a0_8 := x0.f3.f0) (a0_9 := x0.f3.f1) (a0_10 := x0.f3.f2) (a0_11 := x0.f4) (a1_0 := x1.f0) (a1_1 := x1.f1) (a1_2 := x1.f2) (a1_3 := x1.f3) (r := true) (w := W) (h := hk)).mono fun e W' ⟨he, bel⟩ => ?_
 subst he
 exact ⟨_, rfl, _, _, _, [], _, [], hW', trodAll_mk1 (shut_bool Try.underlying4 _), (trodAll_cons_mk (Below.trod laidOut (by kernel_rfl) (of_decide_eq_true (by kernel_rfl)) k0 bel lt0) (trodAll_cons_mk (Below.trod laidOut (by kernel_rfl) (of_decide_eq_true (by kernel_rfl)) k1 bel lt1) trodAll_mk0)), rfl, bel.frame _, fun h => by cases h⟩
theorem over : Rows.senderNilRow.holds Try.pinned (OpenSpec.ofChange Rows.senderNilSpec) :=
 OpenClaim.holds_of_wide 7 Try.f7 rfl rfl rfl rfl rfl rfl rfl ⟨rfl, rfl, rfl, rfl, rfl⟩ rfl rfl rfl rfl rfl (by kernel_rfl) Try.func7 (by kernel_rfl)
  (of_decide_eq_true (by kernel_rfl)) (by unfold Func.isWrapper; first | (rw [if_pos (by decide +kernel)]; kernel_rfl) | (rw [if_neg (by decide +kernel)]; exact ⟨rfl, rfl⟩))
  (fun os started H enc _ => lifted os started H enc)
theorem proved : Rows.SenderNilSaid := over
end Go.Proofs.Ytclbempnhelmoaa.senderNil
namespace Go.Proofs.Ytclbempnhelmoaa
theorem senderNil_holds : Rows.SenderNilSaid := senderNil.proved
end Go.Proofs.Ytclbempnhelmoaa
