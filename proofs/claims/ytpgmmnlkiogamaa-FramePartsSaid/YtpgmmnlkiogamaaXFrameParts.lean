/- The statement FrameParts, proved of the given program; it has no conditions. (Of many texts laid together) -/
import Derived.WalkArith
import Derived.Test.YtpgmmnlkiogamaaXFramePartsWWords
import Derived.Test.YtpgmmnlkiogamaaXFramePartsWMore
import Derived.ProofKit
import Derived.OpenShut
import Derived.ChangeSame
import Derived.ChangeOld
import Derived.Deep.Slices
import Derived.Deep.Fields
import Derived.Test.YtpgmmnlkiogamaaRows
import Derived.WalkKit
import Derived.ShutString
import Derived.Below
import Derived.SizedLaws
import Derived.Test.YtpgmmnlkiogamaaXFramePartsa
import Derived.Test.YtpgmmnlkiogamaaXFramePartsb
import Derived.Test.YtpgmmnlkiogamaaXFramePartsc
import Derived.Test.YtpgmmnlkiogamaaXFramePartsd
set_option linter.unusedVariables false
set_option linter.unusedSimpArgs false
set_option maxHeartbeats 8000000
set_option maxRecDepth 100000
namespace Go.Proofs.Ytpgmmnlkiogamaa.P
open Go.RowKit YtpgmmnlkiogamaaW.PrintWords YtpgmmnlkiogamaaW.PrintLast YtpgmmnlkiogamaaW.PrintMore
attribute [local go_sem] max2_int min2_int max_two min_two max_three min_three max_four min_four
def thalweglaw09_awake.f (k : Nat)  : Option (Bool) := (some (([(⟨2, (⟨0, ([] : List (S101))⟩ : S42), (⟨0, (([(⟨1, 5, (⟨false, 0, 0, 0, 0, 0⟩ : S58), (⟨0, 0, 0⟩ : S60), 0⟩ : S62)] : List (S62)))⟩ : S45), ([] : List (S106)), (⟨0, 0, 0, 0, (⟨#[]⟩ : ByteArray)⟩ : S48)⟩ : S50)] : List (S50)) : List (S50))).bind fun y506 => ((frame_Bytes.f k 1 0 255 0 y506).bind fun bt510 => ((frame_Parse.f k bt510.1).bind fun bt514 => (if bt510.2 = 0 then (if (bt510.1.length : Int) = 25 then (if 23 ≤ (bt510.1.length : Int) then (if (strOfNums (bt510.1.take 23)).toList = ([84, 1, 1, 255, 0, 0, 0, 0, 0, 0, 0, 0, 0, 25, 1, 2, 0, 5, 0, 0, 1, 1, 5] : List UInt8) then (if bt514.2.2.2.2.2 = bt510.2 then ((thalwegref09_Same.f k 1 0 255 0 y506 bt514.1 bt514.2.1 bt514.2.2.1 bt514.2.2.2.1 bt514.2.2.2.2.1).bind fun t528 => (if t528 = true then ((frame_For.f k 1 0 255 0 y506 2).bind fun t529 => (if t529 = true then ((frame_For.f k 1 0 255 0 y506 1).bind fun t530 => (some (!t530))) else (none))) else (none))) else (none)) else (none)) else (none)) else (none)) else (none))))
theorem thalweglaw09_awake.mono : ∀ k, LeO (thalweglaw09_awake.f k ) (thalweglaw09_awake.f (k + 1) ) := by
 intro  k
 unfold thalweglaw09_awake.f
 repeat' first
   | (with_reducible exact frame_Bytes.mono _ _ _ _ _ _)
   | (with_reducible exact frame_For.mono _ _ _ _ _ _ _)
   | (with_reducible exact frame_Parse.mono _ _)
   | (with_reducible exact thalwegref09_Same.mono _ _ _ _ _ _ _ _ _ _ _)
   | (with_reducible exact LeO.refl _)
   | (with_reducible exact LeO.none _)
   | (with_reducible refine LeO.ite ?_ ?_)
   | (with_reducible refine LeO.bind ?_ (fun _ => ?_))
   | exact frame_Bytes.mono _ _ _ _ _ _
   | exact frame_For.mono _ _ _ _ _ _ _
   | exact frame_Parse.mono _ _
   | exact thalwegref09_Same.mono _ _ _ _ _ _ _ _ _ _ _
   | exact LeO.none _
   | refine LeO.ite ?_ ?_
   | refine LeO.bind ?_ (fun _ => ?_)
theorem thalweglaw09_awake.calls (k : Nat)  (r : Bool) (w : World) (h : thalweglaw09_awake.f k  = some r) :
  Calls Try.prog 11 #[] w fun e w' => e = .returned (.bool r) ∧ Below w.heap.size w w' := by
 have hu62 := Try.underlying62; have hu45 := Try.underlying45; have hu50 := Try.underlying50; have hu24 := Try.underlying24; have HB := Aside0.mk (Below.refl w.heap.size w)
 have H : ((some (([(⟨2, (⟨0, ([] : List (S101))⟩ : S42), (⟨0, (([(⟨1, 5, (⟨false, 0, 0, 0, 0, 0⟩ : S58), (⟨0, 0, 0⟩ : S60), 0⟩ : S62)] : List (S62)))⟩ : S45), ([] : List (S106)), (⟨0, 0, 0, 0, (⟨#[]⟩ : ByteArray)⟩ : S48)⟩ : S50)] : List (S50)) : List (S50))).bind fun y506 => ((frame_Bytes.f k 1 0 255 0 y506).bind fun bt510 => ((frame_Parse.f k bt510.1).bind fun bt514 => (if bt510.2 = 0 then (if (bt510.1.length : Int) = 25 then (if 23 ≤ (bt510.1.length : Int) then (if (strOfNums (bt510.1.take 23)).toList = ([84, 1, 1, 255, 0, 0, 0, 0, 0, 0, 0, 0, 0, 25, 1, 2, 0, 5, 0, 0, 1, 1, 5] : List UInt8) then (if bt514.2.2.2.2.2 = bt510.2 then ((thalwegref09_Same.f k 1 0 255 0 y506 bt514.1 bt514.2.1 bt514.2.2.1 bt514.2.2.2.1 bt514.2.2.2.2.1).bind fun t528 => (if t528 = true then ((frame_For.f k 1 0 255 0 y506 2).bind fun t529 => (if t529 = true then ((frame_For.f k 1 0 255 0 y506 1).bind fun t530 => (some (!t530))) else (none))) else (none))) else (none)) else (none)) else (none)) else (none)) else (none))))) = some r := h
 clear h
 obtain ⟨y503, hy503⟩ : ∃ y_ : List (S62), y_ = (([(⟨1, 5, (⟨false, 0, 0, 0, 0, 0⟩ : S58), (⟨0, 0, 0⟩ : S60), 0⟩ : S62)] : List (S62))) := ⟨_, rfl⟩
 replace H : ((some (([(⟨2, (⟨0, ([] : List (S101))⟩ : S42), (⟨0, y503⟩ : S45), ([] : List (S106)), (⟨0, 0, 0, 0, (⟨#[]⟩ : ByteArray)⟩ : S48)⟩ : S50)] : List (S50)) : List (S50))).bind fun y506 => ((frame_Bytes.f k 1 0 255 0 y506).bind fun bt510 => ((frame_Parse.f k bt510.1).bind fun bt514 => (if bt510.2 = 0 then (if (bt510.1.length : Int) = 25 then (if 23 ≤ (bt510.1.length : Int) then (if (strOfNums (bt510.1.take 23)).toList = ([84, 1, 1, 255, 0, 0, 0, 0, 0, 0, 0, 0, 0, 25, 1, 2, 0, 5, 0, 0, 1, 1, 5] : List UInt8) then (if bt514.2.2.2.2.2 = bt510.2 then ((thalwegref09_Same.f k 1 0 255 0 y506 bt514.1 bt514.2.1 bt514.2.2.1 bt514.2.2.2.1 bt514.2.2.2.2.1).bind fun t528 => (if t528 = true then ((frame_For.f k 1 0 255 0 y506 2).bind fun t529 => (if t529 = true then ((frame_For.f k 1 0 255 0 y506 1).bind fun t530 => (some (!t530))) else (none))) else (none))) else (none)) else (none)) else (none)) else (none)) else (none))))) = some r := by first | (rw [hy503]; with_reducible exact H) | (have H2_ := (Option.bind_some _ _).symm.trans H; rw [hy503]; with_reducible exact H2_) | (have H2_ := (Option.bind_some _ _).symm.trans H; with_reducible exact H2_) | with_reducible exact H | (rw [hy503]; exact H) | exact H
 have Ny503 := Aside0.mk hy503; clear hy503
 obtain ⟨y506, hy506⟩ : ∃ y_ : List (S50), y_ = (([(⟨2, (⟨0, ([] : List (S101))⟩ : S42), (⟨0, y503⟩ : S45), ([] : List (S106)), (⟨0, 0, 0, 0, (⟨#[]⟩ : ByteArray)⟩ : S48)⟩ : S50)] : List (S50))) := ⟨_, rfl⟩
 replace H : ((frame_Bytes.f k 1 0 255 0 y506).bind fun bt510 => ((frame_Parse.f k bt510.1).bind fun bt514 => (if bt510.2 = 0 then (if (bt510.1.length : Int) = 25 then (if 23 ≤ (bt510.1.length : Int) then (if (strOfNums (bt510.1.take 23)).toList = ([84, 1, 1, 255, 0, 0, 0, 0, 0, 0, 0, 0, 0, 25, 1, 2, 0, 5, 0, 0, 1, 1, 5] : List UInt8) then (if bt514.2.2.2.2.2 = bt510.2 then ((thalwegref09_Same.f k 1 0 255 0 y506 bt514.1 bt514.2.1 bt514.2.2.1 bt514.2.2.2.1 bt514.2.2.2.2.1).bind fun t528 => (if t528 = true then ((frame_For.f k 1 0 255 0 y506 2).bind fun t529 => (if t529 = true then ((frame_For.f k 1 0 255 0 y506 1).bind fun t530 => (some (!t530))) else (none))) else (none))) else (none)) else (none)) else (none)) else (none)) else (none)))) = some r := by first | (rw [hy506]; with_reducible exact H) | (have H2_ := (Option.bind_some _ _).symm.trans H; rw [hy506]; with_reducible exact H2_) | (have H2_ := (Option.bind_some _ _).symm.trans H; with_reducible exact H2_) | with_reducible exact H | (rw [hy506]; exact H) | exact H
 have Ny506 := Aside0.mk hy506; clear hy506; replace H := Option.bind_eq_some_iff.mp H
 obtain ⟨⟨t510, t513⟩, A10, H⟩ := H
 replace H : ((frame_Parse.f k t510).bind fun bt514 => (if t513 = 0 then (if (t510.length : Int) = 25 then (if 23 ≤ (t510.length : Int) then (if (strOfNums (t510.take 23)).toList = ([84, 1, 1, 255, 0, 0, 0, 0, 0, 0, 0, 0, 0, 25, 1, 2, 0, 5, 0, 0, 1, 1, 5] : List UInt8) then (if bt514.2.2.2.2.2 = t513 then ((thalwegref09_Same.f k 1 0 255 0 y506 bt514.1 bt514.2.1 bt514.2.2.1 bt514.2.2.2.1 bt514.2.2.2.2.1).bind fun t528 => (if t528 = true then ((frame_For.f k 1 0 255 0 y506 2).bind fun t529 => (if t529 = true then ((frame_For.f k 1 0 255 0 y506 1).bind fun t530 => (some (!t530))) else (none))) else (none))) else (none)) else (none)) else (none)) else (none)) else (none))) = some r := H
 have A1 := Aside0.mk A10; clear A10; replace H := Option.bind_eq_some_iff.mp H
 obtain ⟨⟨t514, t515, t516, t517, t518, t521⟩, A20, H⟩ := H
 replace H : (if t513 = 0 then (if (t510.length : Int) = 25 then (if 23 ≤ (t510.length : Int) then (if (strOfNums (t510.take 23)).toList = ([84, 1, 1, 255, 0, 0, 0, 0, 0, 0, 0, 0, 0, 25, 1, 2, 0, 5, 0, 0, 1, 1, 5] : List UInt8) then (if t521 = t513 then ((thalwegref09_Same.f k 1 0 255 0 y506 t514 t515 t516 t517 t518).bind fun t528 => (if t528 = true then ((frame_For.f k 1 0 255 0 y506 2).bind fun t529 => (if t529 = true then ((frame_For.f k 1 0 255 0 y506 1).bind fun t530 => (some (!t530))) else (none))) else (none))) else (none)) else (none)) else (none)) else (none)) else (none)) = some r := H
 have A2 := Aside0.mk A20; clear A20
 by_cases c3 : t513 = 0
 rotate_left
 ·rw [if_neg c3] at H
  exact absurd H (by simp)
 rw [if_pos c3] at H
 have c3b0 : (t513 == 0) = true := beq_iff_eq.mpr c3
 have c3b1 : (t513 != 0) = false := bne_eq_false_iff_eq.mpr c3
 clear c3
 by_cases c4 : (t510.length : Int) = 25
 rotate_left
 ·rw [if_neg c4] at H
  exact absurd H (by simp)
 rw [if_pos c4] at H
 have c4b0 : ((t510.length : Int) == 25) = true := beq_iff_eq.mpr c4
 have c4b1 : ((t510.length : Int) != 25) = false := bne_eq_false_iff_eq.mpr c4
 clear c4
 by_cases c5 : 23 ≤ (t510.length : Int)
 rotate_left
 ·rw [if_neg c5] at H
  exact absurd H (by simp)
 rw [if_pos c5] at H; have c5b0 := eq_true c5; have c5b1 := decide_eq_true c5; clear c5
 obtain ⟨y523, hy523⟩ : ∃ y_ : List Int, y_ = (t510.take 23) := ⟨_, rfl⟩
 replace H : (if (strOfNums y523).toList = ([84, 1, 1, 255, 0, 0, 0, 0, 0, 0, 0, 0, 0, 25, 1, 2, 0, 5, 0, 0, 1, 1, 5] : List UInt8) then (if t521 = t513 then ((thalwegref09_Same.f k 1 0 255 0 y506 t514 t515 t516 t517 t518).bind fun t528 => (if t528 = true then ((frame_For.f k 1 0 255 0 y506 2).bind fun t529 => (if t529 = true then ((frame_For.f k 1 0 255 0 y506 1).bind fun t530 => (some (!t530))) else (none))) else (none))) else (none)) else (none)) = some r := by first | (rw [hy523]; with_reducible exact H) | (have H2_ := (Option.bind_some _ _).symm.trans H; rw [hy523]; with_reducible exact H2_) | (have H2_ := (Option.bind_some _ _).symm.trans H; with_reducible exact H2_) | with_reducible exact H | (rw [hy523]; exact H) | exact H
 have Ny523 := Aside0.mk hy523; clear hy523
 by_cases c6 : (strOfNums y523).toList = ([84, 1, 1, 255, 0, 0, 0, 0, 0, 0, 0, 0, 0, 25, 1, 2, 0, 5, 0, 0, 1, 1, 5] : List UInt8)
 rotate_left
 ·rw [if_neg c6] at H
  exact absurd H (by simp)
 rw [if_pos c6] at H
 have c6b0 : ((strOfNums y523).toList == ([84, 1, 1, 255, 0, 0, 0, 0, 0, 0, 0, 0, 0, 25, 1, 2, 0, 5, 0, 0, 1, 1, 5] : List UInt8)) = true := beq_iff_eq.mpr c6
 have c6b1 : ((strOfNums y523).toList != ([84, 1, 1, 255, 0, 0, 0, 0, 0, 0, 0, 0, 0, 25, 1, 2, 0, 5, 0, 0, 1, 1, 5] : List UInt8)) = false := bne_eq_false_iff_eq.mpr c6
 clear c6
 by_cases c7 : t521 = t513
 rotate_left
 ·rw [if_neg c7] at H
  exact absurd H (by simp)
 rw [if_pos c7] at H
 have c7b0 : (t521 == t513) = true := beq_iff_eq.mpr c7
 have c7b1 : (t521 != t513) = false := bne_eq_false_iff_eq.mpr c7
 clear c7; replace H := Option.bind_eq_some_iff.mp H; obtain ⟨t528, A80, H⟩ := H
 replace H : (if t528 = true then ((frame_For.f k 1 0 255 0 y506 2).bind fun t529 => (if t529 = true then ((frame_For.f k 1 0 255 0 y506 1).bind fun t530 => (some (!t530))) else (none))) else (none)) = some r := H
 have A8 := Aside0.mk A80; clear A80
 by_cases c9 : t528 = true
 ·subst c9
  have H1 : ((frame_For.f k 1 0 255 0 y506 2).bind fun t529 => (if t529 = true then ((frame_For.f k 1 0 255 0 y506 1).bind fun t530 => (some (!t530))) else (none))) = some r := by rw [if_pos rfl] at H; exact H
  clear H; have H := H1; clear H1; replace H := Option.bind_eq_some_iff.mp H; obtain ⟨t529, A100, H⟩ := H
  replace H : (if t529 = true then ((frame_For.f k 1 0 255 0 y506 1).bind fun t530 => (some (!t530))) else (none)) = some r := H
  have A10 := Aside0.mk A100; clear A100
  by_cases c11 : t529 = true
  ·subst c11
   have H1 : ((frame_For.f k 1 0 255 0 y506 1).bind fun t530 => (some (!t530))) = some r := by rw [if_pos rfl] at H; exact H
   clear H; have H := H1; clear H1; replace H := Option.bind_eq_some_iff.mp H; obtain ⟨t530, A120, H⟩ := H
   replace H : (some (!t530)) = some r := H
   have A12 := Aside0.mk A120; clear A120
   obtain rfl := Option.some.inj H
   go_enter Try.func11, Try.ntmps11
   go_wp2_with (first | ((with_reducible refine gate_dst (N := 7) rfl ?_); (try (refine gate_guard (by rfl) ?_; dsimp only)); refine Kd.R_lit k62 _ 62 ?hg (N := 7) ?hd (xs := ([(⟨1, 5, (⟨false, 0, 0, 0, 0, 0⟩ : S58), (⟨0, 0, 0⟩ : S60), 0⟩ : S62)] : List (S62))) (inner := [.int .i64 1, .int .i64 5, .bool false, .int .i64 0, .int .i64 0, .int .i64 0, .int .i64 0, .int .i64 0, .int .i64 0, .int .i64 0, .int .i64 0, .int .i64 0]) (ok := fun _ => True) (okp := fun _ => True) ?hr ?hp (fun _ hk => hk) trivial (Below.refl _ _) (Nat.le_refl _) (by simp) ?_; (case hd => rfl); (case hg => rfl); (case hr => first | (go_simp; done) | (go_simp; rfl)); (case hp => exact (Reps.front (show Kd.M k62 _ _ _ (⟨1, 5, (⟨false, 0, 0, 0, 0, 0⟩ : S58), (⟨0, 0, 0⟩ : S60), 0⟩ : S62) [.int .i64 1, .int .i64 5, .bool false, .int .i64 0, .int .i64 0, .int .i64 0, .int .i64 0, .int .i64 0, .int .i64 0, .int .i64 0, .int .i64 0, .int .i64 0] from (k62_mkM _ _ _ (⟨1, 5, (⟨false, 0, 0, 0, 0, 0⟩ : S58), (⟨0, 0, 0⟩ : S60), 0⟩ : S62) )) rfl (Reps.none _ _) rfl)); intro v504 w13 ho14 hb hg_ hnew_; clear hg_ hnew_; (first | rw [← Ny503.out] at ho14 | (simp only [Int.reduceToNat] at ho14; rw [← Ny503.out] at ho14)); have HO505 := Aside0.mk (Kd.R_lower ho14 (below_size (uB HB))); replace HB := bs HB hb; clear hb ho14; obtain ⟨Ao15, co15, eo15⟩ := Kd.R_slice HO505.out; subst eo15) | ((with_reducible refine gate_dst (N := 10) rfl ?_); (try (refine gate_guard (by rfl) ?_; dsimp only)); refine Kd.N_lit k50 _ 50 ?hg (N' := 10) ?hd (xs := ([(⟨2, (⟨0, ([] : List (S101))⟩ : S42), (⟨0, y503⟩ : S45), ([] : List (S106)), (⟨0, 0, 0, 0, (⟨#[]⟩ : ByteArray)⟩ : S48)⟩ : S50)] : List (S50))) (inner := [.int .i64 2, .int .i64 0, .slice none 0 0, .int .i64 0, .slice Ao15 y503.length co15, .slice none 0 0, .int .i64 0, .int .i64 0, .int .i64 0, .int .i64 0, .string (⟨#[]⟩ : ByteArray)]) (ok := (fun _ => True)) (okp := (fun _ => True)) ?hr ?hp (fun _ hk => hk) ((show ∀ k_, w13.heap.size ≤ k_ → (fun _ => True) k_ from fun k_ hk => trivial) _ (Nat.le_refl _)) (Below.refl _ _) (Nat.le_refl _) (by simp) ?_; (case hd => rfl); (case hg => rfl); (case hr => first | (go_simp; done) | (go_simp; rfl)); (case hp => exact (Reps.front (show Kd.FK k50 _ _ (⟨2, (⟨0, ([] : List (S101))⟩ : S42), (⟨0, y503⟩ : S45), ([] : List (S106)), (⟨0, 0, 0, 0, (⟨#[]⟩ : ByteArray)⟩ : S48)⟩ : S50) [.int .i64 2, .int .i64 0, .slice none 0 0, .int .i64 0, .slice Ao15 y503.length co15, .slice none 0 0, .int .i64 0, .int .i64 0, .int .i64 0, .int .i64 0, .string (⟨#[]⟩ : ByteArray)] from (k50_mkF _ _ (⟨2, (⟨0, ([] : List (S101))⟩ : S42), (⟨0, y503⟩ : S45), ([] : List (S106)), (⟨0, 0, 0, 0, (⟨#[]⟩ : ByteArray)⟩ : S48)⟩ : S50) (Nat.le_refl _) (Kd.F_nil _ _ _) (Kd.R_reads' (Kd.R_mono (ok' := (fun _ => True)) (HO505.out) (fun k_ hk => trivial))).2.1 (Kd.R_F (Kd.R_mono (ok' := (fun _ => True)) (uR HO505) (fun k_ hk => by exact trivial))) (Nat.le_refl _) (Kd.F_nil _ _ _))) rfl (Reps.none _ _) rfl)); intro v507 w16 ho17 hb hg_ hnew_; clear hg_ hnew_; (first | rw [← Ny506.out] at ho17 | (simp only [Int.reduceToNat] at ho17; rw [← Ny506.out] at ho17)); have n0_ := Aside0.mk (Kd.N_lower ho17 (below_size (uB HB))); have n1_ := Aside0.mk (below_step (uB HB) hb); clear HB; clear HO505; have HO508 := n0_; have HB := n1_; clear n0_ n1_; clear hb ho17; obtain ⟨Ao18, co18, eo18⟩ := Kd.N_slice HO508.out; subst eo18) | ((with_reducible refine gate_dst (N := 1) rfl ?_); (try (refine gate_guard (by rfl) ?_; dsimp only)); refine bx #[.int .i64 0, .int .i64 0, .int .i64 0, .int .i64 0, .slice none 0 0] 24 ?_; intro gb509 hg w19 hbox hb; replace HO508 := Aside0.mk (Kd.N_below (Kd.N_elderB (uN HO508) gb509 (Nat.le_of_eq hg.symm)) hb); have BK509 := Aside0.mk hbox; have GW509 := ge HB hg; have GE509 := ge HB hg; replace HB := bs HB hb; clear hb hbox hg; obtain ⟨q20_0, q20_1, q20_2, q20_3, q20_4⟩ := cA5 BK509; obtain ⟨f20_0, f20_1, f20_2, f20_3, f20_4⟩ := fA5 BK509) | ((with_reducible refine gate_callee (f := 9) rfl ?_); refine gL (some 14) Try.func9 #[.agg #[.int .i64 1, .int .i64 0, .int .i64 255, .int .i64 0, .slice Ao18 y506.length co18]] ?_; (with_reducible refine (frame_Bytes.calls k 1 0 255 0 _ _ y506 t510 t513 _ ?side1 ?side2 A1.out).mono ?_); (case side1 => refine (Kd.N_reads' (e := 50) (base := w.heap.size) (ok := fun k_ => (True ∧ k_ ≠ gb509)) (n := y506.length) (c := co18) ?_).2.2; exact (by refine rN ?_; exact (Kd.N_mono (Kd.N_far (p := ⟨gb509, 4, none⟩) (Kd.N_far (p := ⟨gb509, 3, none⟩) (Kd.N_far (p := ⟨gb509, 2, none⟩) (Kd.N_far (p := ⟨gb509, 1, none⟩) (Kd.N_far (p := ⟨gb509, 0, none⟩) (Kd.N_mono HO508.out (fun k_ hk => (⟨hk, hk.2⟩ : _ ∧ k_ ≠ gb509))) (fun _ hk => hk.2) (.int .i64 1)) (fun _ hk => hk.2) (.int .i64 0)) (fun _ hk => hk.2) (.int .i64 255)) (fun _ hk => hk.2) (.int .i64 0)) (fun _ hk => hk.2) (.slice Ao18 y506.length co18)) (fun _ h_ => h_.1)))); (case side2 => exact (Kd.N_reads' HO508.out).2.1); rintro e w21 ⟨v511, rfl, ho0, hb⟩; refine ⟨_, rfl, ?_⟩; replace HO508 := Aside0.mk (Kd.N_elder' (by refine rN ?_; exact (Kd.N_mono (Kd.N_far (p := ⟨gb509, 4, none⟩) (Kd.N_far (p := ⟨gb509, 3, none⟩) (Kd.N_far (p := ⟨gb509, 2, none⟩) (Kd.N_far (p := ⟨gb509, 1, none⟩) (Kd.N_far (p := ⟨gb509, 0, none⟩) (Kd.N_mono HO508.out (fun k_ hk => (⟨hk, hk.2⟩ : _ ∧ k_ ≠ gb509))) (fun _ hk => hk.2) (.int .i64 1)) (fun _ hk => hk.2) (.int .i64 0)) (fun _ hk => hk.2) (.int .i64 255)) (fun _ hk => hk.2) (.int .i64 0)) (fun _ hk => hk.2) (.slice Ao18 y506.length co18)) (fun _ h_ => h_.1))) (Kd.R_base ho0) hb); have HO512 := Aside0.mk (Kd.R_lower ho0 (below_size (uB HB))); replace BK509 := kc BK509 hb; replace HB := bs HB hb; (try clear hb); (try clear hb2); (try clear hk); (try clear hi); (try clear ho0); obtain ⟨Ao22, co22, eo22⟩ := Kd.R_slice HO512.out; subst eo22) | ((with_reducible refine gate_callee (f := 16) rfl ?_); refine gL (some 19) Try.func16 #[.slice Ao22 t510.length co22] ?_; (with_reducible refine (frame_Parse.calls k _ _ t510 t514 t515 t516 t517 t518 t521 _ ?side1 ?side2 A2.out).mono ?_); (case side1 => exact rC (Kd.R_reads' HO512.out).2.2); (case side2 => exact (Kd.R_reads' HO512.out).2.1); rintro e w23 ⟨v519, rfl, ho0, hb⟩; refine ⟨_, rfl, ?_⟩; have HO520 := Aside0.mk (Kd.N_lower (Kd.N_mono (ok' := fun k_ => some k_ ≠ (.slice Ao18 y506.length co18 : Value).ownBlock ∧ some k_ ≠ (.slice Ao22 t510.length co22 : Value).ownBlock ∧ k_ ≠ gb509) (Kd.S_N (Kd.S_bound ho0)) (fun k_ hk_ => ⟨(Kd.fresh' (Kd.N_lt (uN HO508)) k_ hk_.2.1), (Kd.fresh' (Kd.R_lt (uR HO512)) k_ hk_.2.1), (Kd.freshB (g := gb509) (o := .cells #[.int .i64 1, .int .i64 0, .int .i64 255, .int .i64 0, .slice Ao18 y506.length co18] 24 (0, 0)) (uK BK509) k_ hk_.2.1)⟩)) (below_size (uB HB))); replace HO508 := Aside0.mk (Kd.N_elder' (uN HO508) (Kd.S_base ho0) hb); replace HO512 := Aside0.mk (Kd.R_below (uR HO512) hb); replace BK509 := kb BK509 hb; replace HB := bs HB hb; (try clear hb); (try clear hb2); (try clear hk); (try clear hi); (try clear ho0)) | ((with_reducible refine gate_dst (N := 4) rfl ?_); (try (refine gate_guard (by rfl) ?_; dsimp only)); refine bx #[.int .i64 0, .int .i64 0, .int .i64 0, .int .i64 0, .slice none 0 0] 24 ?_; intro gb522 hg w24 hbox hb; replace HO508 := Aside0.mk (Kd.N_below (Kd.N_elderB (uN HO508) gb522 (Nat.le_of_eq hg.symm)) hb); replace HO512 := Aside0.mk (Kd.R_below (uR HO512) hb); replace HO520 := Aside0.mk (Kd.N_below (Kd.N_elderB (uN HO520) gb522 (Nat.le_of_eq hg.symm)) hb); have BK522 := Aside0.mk hbox; have GW522 := ge HB hg; have GE522 := ge HB hg; replace HB := bs HB hb; have NB509_522 := nL BK509 hg; have NB522_509 := nG BK509 hg; replace BK509 := kb BK509 hb; clear hb hbox hg; have hnb25 := NB522_509.out; have hnc25 := NB509_522.out; obtain ⟨q26_0, q26_1, q26_2, q26_3, q26_4⟩ := cA5 BK522; obtain ⟨f26_0, f26_1, f26_2, f26_3, f26_4⟩ := fA5 BK522; obtain ⟨Ao27, co27, eo27⟩ := Kd.N_slice HO520.out; subst eo27) | ((with_reducible refine gate_store (t := 24) (p := 4) rfl ?_); refine store_event (t := 24) (p := 4) (v := ?vo_w28) (w1 := (((((w24.setCell ⟨gb522, 0, none⟩ (.int .i64 t514)).setCell ⟨gb522, 1, none⟩ (.int .i64 t515)).setCell ⟨gb522, 2, none⟩ (.int .i64 t516)).setCell ⟨gb522, 3, none⟩ (.int .i64 t517)).setCell ⟨gb522, 4, none⟩ (.slice Ao27 t518.length co27))) ?hg ?ho ?hn ?hr ?_; (case ho => rfl); (case hg => rfl); (case hn => rfl); (case hr => first | (go_simp; done) | (go_simp; rfl)); intro w28 hw; have n0_ : Aside0 (Kd.N k50 50 w28 w.heap.size (fun k_ => some k_ ≠ (.slice Ao22 t510.length co22 : Value).ownBlock ∧ some k_ ≠ (.slice Ao27 t518.length co27 : Value).ownBlock ∧ k_ ≠ gb509 ∧ k_ ≠ gb522) (.slice Ao18 y506.length co18) y506) := ⟨(by rw [hw]; exact (by refine rN ?_; exact Kd.N_mono (Kd.N_far (p := ⟨gb522, 4, none⟩) (Kd.N_far (p := ⟨gb522, 3, none⟩) (Kd.N_far (p := ⟨gb522, 2, none⟩) (Kd.N_far (p := ⟨gb522, 1, none⟩) (Kd.N_far (p := ⟨gb522, 0, none⟩) (Kd.N_mono HO508.out (fun k_ hk => (⟨hk, hk.2⟩ : _ ∧ k_ ≠ gb522))) (fun _ hk => hk.2) (.int .i64 t514)) (fun _ hk => hk.2) (.int .i64 t515)) (fun _ hk => hk.2) (.int .i64 t516)) (fun _ hk => hk.2) (.int .i64 t517)) (fun _ hk => hk.2) (.slice Ao27 t518.length co27)) (fun _ hk => ⟨hk.1.1.1.2, ⟨hk.1.1.2, ⟨hk.1.1.1.1.2, hk.1.2⟩⟩⟩)))⟩; have n1_ : Aside0 (Kd.R (Kd.int .u8) 5 w28 w.heap.size (fun _ => True) (.slice Ao22 t510.length co22) t510) := ⟨(by rw [hw]; exact (by refine rR ?_; exact Kd.R_mono (Kd.R_far (p := ⟨gb522, 4, none⟩) (Kd.R_far (p := ⟨gb522, 3, none⟩) (Kd.R_far (p := ⟨gb522, 2, none⟩) (Kd.R_far (p := ⟨gb522, 1, none⟩) (Kd.R_far (p := ⟨gb522, 0, none⟩) (Kd.R_types HO512.out BK522.out (by decide)) (fun _ hk => hk.2) (.int .i64 t514)) (fun _ hk => hk.2) (.int .i64 t515)) (fun _ hk => hk.2) (.int .i64 t516)) (fun _ hk => hk.2) (.int .i64 t517)) (fun _ hk => hk.2) (.slice Ao27 t518.length co27)) (fun _ hk => trivial)))⟩; have n2_ : Aside0 (Kd.N k50 50 w28 w.heap.size (fun k_ => some k_ ≠ (.slice Ao18 y506.length co18 : Value).ownBlock ∧ some k_ ≠ (.slice Ao22 t510.length co22 : Value).ownBlock ∧ k_ ≠ gb509 ∧ k_ ≠ gb522) (.slice Ao27 t518.length co27) t518) := ⟨(by rw [hw]; exact (by refine rN ?_; exact Kd.N_mono (Kd.N_far (p := ⟨gb522, 4, none⟩) (Kd.N_far (p := ⟨gb522, 3, none⟩) (Kd.N_far (p := ⟨gb522, 2, none⟩) (Kd.N_far (p := ⟨gb522, 1, none⟩) (Kd.N_far (p := ⟨gb522, 0, none⟩) (Kd.N_mono HO520.out (fun k_ hk => (⟨hk, hk.2⟩ : _ ∧ k_ ≠ gb522))) (fun _ hk => hk.2) (.int .i64 t514)) (fun _ hk => hk.2) (.int .i64 t515)) (fun _ hk => hk.2) (.int .i64 t516)) (fun _ hk => hk.2) (.int .i64 t517)) (fun _ hk => hk.2) (.slice Ao27 t518.length co27)) (fun _ hk => ⟨hk.1.1.1, ⟨hk.1.1.2.1, ⟨hk.1.1.2.2, hk.1.2⟩⟩⟩)))⟩; have n3_ : Aside0 (w28.heap[gb509]? = some (.cells #[.int .i64 1, .int .i64 0, .int .i64 255, .int .i64 0, .slice Ao18 y506.length co18] 24 (0, 0))) := ⟨(by rw [hw]; exact (by refine rK ?_; refine blk_far ?_ NB509_522.out _; refine rK ?_; refine blk_far ?_ NB509_522.out _; refine rK ?_; refine blk_far ?_ NB509_522.out _; refine rK ?_; refine blk_far ?_ NB509_522.out _; refine rK ?_; refine blk_far ?_ NB509_522.out _; refine rK ?_; exact BK509.out))⟩; have n4_ : Aside0 (w28.heap[gb522]? = some (.cells #[.int .i64 t514, .int .i64 t515, .int .i64 t516, .int .i64 t517, .slice Ao27 t518.length co27] 24 (0, 0))) := ⟨(by rw [hw]; exact (by refine rK ?_; refine blk_put (cs := #[.int .i64 t514, .int .i64 t515, .int .i64 t516, .int .i64 t517, .slice none 0 0]) ?_ 4 _ rfl; refine rK ?_; refine blk_put (cs := #[.int .i64 t514, .int .i64 t515, .int .i64 t516, .int .i64 0, .slice none 0 0]) ?_ 3 _ rfl; refine rK ?_; refine blk_put (cs := #[.int .i64 t514, .int .i64 t515, .int .i64 0, .int .i64 0, .slice none 0 0]) ?_ 2 _ rfl; refine rK ?_; refine blk_put (cs := #[.int .i64 t514, .int .i64 0, .int .i64 0, .int .i64 0, .slice none 0 0]) ?_ 1 _ rfl; refine rK ?_; refine blk_put (cs := #[.int .i64 0, .int .i64 0, .int .i64 0, .int .i64 0, .slice none 0 0]) ?_ 0 _ rfl; refine rK ?_; exact BK522.out))⟩; have n5_ : Aside0 (Below w.heap.size w w28) := ⟨(by rw [hw]; exact (uB HB))⟩; clear hw; clear HO508; clear HO512; clear HO520; clear BK509; clear BK522; clear HB; have HO508 := n0_; have HO512 := n1_; have HO520 := n2_; have BK509 := n3_; have BK522 := n4_; have HB := n5_; clear n0_ n1_ n2_ n3_ n4_ n5_; have q29 : (23 : Int) ≤ ((t510.length : Int) : Int) := of_decide_eq_true gA; obtain ⟨i029, hi029, _, hsz29, _⟩ := info_parts info5; have hroom29 : t510.length ≤ co22 := (Kd.R_reads' HO512.out).2.1; have hC29 : Kd.F (Kd.int .u8) _ _ Ao22 t510.length t510 := (Kd.V_at (base := w.heap.size) (Kd.R_V (Kd.R_types (Kd.R_types (Kd.R_apart' (Kd.R_apart' (HO512.out) (Kd.N_typed HO508.out) (by decide)) (Kd.N_typed HO520.out) (by decide)) BK509.out (by decide)) BK522.out (by decide)))).2.2; have hcut29 := cut_to (P := Try.prog) 26 5 .i64 Try.underlying26 hi029 Ao22 t510.length co22 23 (by omega) q29 hroom29; have hr29 := Kd.F_take (m := 23) hC29 (by omega); have hy29 : y523.length = (23 : Int).toNat := (by rw [Ny523.out, List.length_take]; omega); rw [← Ny523.out] at hr29; rw [← hy29] at hcut29; have HO527 := Aside0.mk (show Kd.V (Kd.int .u8) 5 _ w.heap.size _ (.slice Ao22 y523.length co22) y523 from Kd.V_mk (by omega) hr29); have HC527 := Aside0.mk (show y523.length ≤ co22 from by omega); clear hr29 hC29 hroom29 hi029 hsz29; have KY29 := Aside0.mk hy29; clear hy29; replace q29 := eq_true q29; have hcv30 := Kd.C_string (P := Try.prog) (A := Ao22) (c := co22) Try.underlying26 Try.underlying5 Try.underlying9 (Kd.V_reads' HO527.out).2.2; obtain ⟨q31_0, q31_1, q31_2, q31_3, q31_4⟩ := cA5 BK509; obtain ⟨f31_0, f31_1, f31_2, f31_3, f31_4⟩ := fA5 BK509; obtain ⟨q32_0, q32_1, q32_2, q32_3, q32_4⟩ := cA5 BK522; obtain ⟨f32_0, f32_1, f32_2, f32_3, f32_4⟩ := fA5 BK522) | (go_at_call 18; (with_reducible refine (thalwegref09_Same.calls k 1 0 255 0 _ _ y506 t514 t515 t516 t517 _ _ t518 true _ ?side1 ?side2 ?side3 ?side4 A8.out).mono ?_); (case side1 => repeat (first | exact (Kd.N_reads' HO508.out).2.2 | (with_reducible refine Kd.C_alloc ?_ _) | (with_reducible refine Kd.C_drewN ?_ _) | (with_reducible refine Kd.C_drew ?_))); (case side2 => exact (Kd.N_reads' HO508.out).2.1); (case side3 => repeat (first | exact (Kd.N_reads' HO520.out).2.2 | (with_reducible refine Kd.C_alloc ?_ _) | (with_reducible refine Kd.C_drewN ?_ _) | (with_reducible refine Kd.C_drew ?_))); (case side4 => exact (Kd.N_reads' HO520.out).2.1); rintro e w33 ⟨rfl, hb⟩; replace HO508 := Aside0.mk (Kd.N_below (uN HO508) hb); replace HO512 := Aside0.mk (Kd.R_below (uR HO512) hb); replace HO520 := Aside0.mk (Kd.N_below (uN HO520) hb); replace HO527 := Aside0.mk (Kd.V_below (uV HO527) hb); replace BK509 := kb BK509 hb; replace BK522 := kb BK522 hb; replace HB := bs HB hb; (try clear hb); (try clear hb2); (try clear hk); (try clear hi); obtain ⟨q34_0, q34_1, q34_2, q34_3, q34_4⟩ := cA5 BK509; obtain ⟨f34_0, f34_1, f34_2, f34_3, f34_4⟩ := fA5 BK509) | (go_at_call 14; (with_reducible refine (frame_For.calls k 1 0 255 0 _ _ y506 2 true _ ?side1 ?side2 A10.out).mono ?_); (case side1 => repeat (first | exact (Kd.N_reads' HO508.out).2.2 | (with_reducible refine Kd.C_alloc ?_ _) | (with_reducible refine Kd.C_drewN ?_ _) | (with_reducible refine Kd.C_drew ?_))); (case side2 => exact (Kd.N_reads' HO508.out).2.1); rintro e w35 ⟨rfl, hb⟩; replace HO508 := Aside0.mk (Kd.N_below (uN HO508) hb); replace HO512 := Aside0.mk (Kd.R_below (uR HO512) hb); replace HO520 := Aside0.mk (Kd.N_below (uN HO520) hb); replace HO527 := Aside0.mk (Kd.V_below (uV HO527) hb); replace BK509 := kb BK509 hb; replace BK522 := kb BK522 hb; replace HB := bs HB hb; (try clear hb); (try clear hb2); (try clear hk); (try clear hi); obtain ⟨q36_0, q36_1, q36_2, q36_3, q36_4⟩ := cA5 BK509; obtain ⟨f36_0, f36_1, f36_2, f36_3, f36_4⟩ := fA5 BK509) | (go_at_call 14; (with_reducible refine (frame_For.calls k 1 0 255 0 _ _ y506 1 t530 _ ?side1 ?side2 A12.out).mono ?_); (case side1 => repeat (first | exact (Kd.N_reads' HO508.out).2.2 | (with_reducible refine Kd.C_alloc ?_ _) | (with_reducible refine Kd.C_drewN ?_ _) | (with_reducible refine Kd.C_drew ?_))); (case side2 => exact (Kd.N_reads' HO508.out).2.1); rintro e w37 ⟨rfl, hb⟩; replace HO508 := Aside0.mk (Kd.N_below (uN HO508) hb); replace HO512 := Aside0.mk (Kd.R_below (uR HO512) hb); replace HO520 := Aside0.mk (Kd.N_below (uN HO520) hb); replace HO527 := Aside0.mk (Kd.V_below (uV HO527) hb); replace BK509 := kb BK509 hb; replace BK522 := kb BK522 hb; replace HB := bs HB hb; (try clear hb); (try clear hb2); (try clear hk); (try clear hi)))
   go_ret
   exact ⟨gE, uB HB⟩
  replace c11 := Bool.eq_false_iff.mpr c11
  subst c11
  rw [if_neg (show ¬ (false = true) by decide)] at H
  exact absurd H (by simp)
 replace c9 := Bool.eq_false_iff.mpr c9
 subst c9
 rw [if_neg (show ¬ (false = true) by decide)] at H
 exact absurd H (by simp)
def thalweglaw09_FrameParts.j0 : Nat → Int → Bool → Int → Int → Int → Int → List (S50) → Option (Bool)
 | 0, _, _, _, _, _, _, _ => none
 | k + 1, x1, x26, x532000, x532001, x532002, x532003, x532004 => if x26 = true then ((thalweglaw09_awake.f k).bind fun t533 => (some t533)) else (if 0 ≤ x1 then (if x1 ≤ (x532004.length : Int) then ((frame_Bytes.f k x532000 x532001 x532002 x532003 x532004).bind fun bt544 => ((frame_Bytes.f k x532000 x532001 x532002 x532003 (x532004.take (x1 : Int).toNat)).bind fun bt548 => ((frame_Bytes.f k x532000 x532001 x532002 x532003 (x532004.drop (x1 : Int).toNat)).bind fun bt552 => (if bt544.2 = 0 then ((thalweglaw09_awake.f k).bind fun t556 => (if t556 = true then (if bt548.2 = 0 then (if bt552.2 = 0 then (some ((wrap64 ((bt544.1.length : Int) + 17)) == (wrap64 ((bt548.1.length : Int) + (bt552.1.length : Int))))) else (none)) else (none)) else (none))) else ((thalweglaw09_awake.f k).bind fun t557 => (if t557 = true then (some ((bt544.1.length : Int) == 0)) else (none))))))) else (none)) else (none))
def thalweglaw09_FrameParts.f (k : Nat) (a0_0 : Int) (a0_1 : Int) (a0_2 : Int) (a0_3 : Int) (l0_4 : List (S50)) (a1 : Int) : Option (Bool) := (thalwegref09_Few.f k a0_0 a0_1 a0_2 a0_3 l0_4).bind fun t532 => (if t532 = true then (if a1 < 1 then (thalweglaw09_FrameParts.j0 k a1 true a0_0 a0_1 a0_2 a0_3 l0_4) else (thalweglaw09_FrameParts.j0 k a1 (decide (a1 ≥ (l0_4.length : Int))) a0_0 a0_1 a0_2 a0_3 l0_4)) else (thalweglaw09_FrameParts.j0 k a1 true a0_0 a0_1 a0_2 a0_3 l0_4))
theorem thalweglaw09_FrameParts.mono_l : ∀ k, (∀ y0 y1 y2 y3 y4 y5 y6, LeO (thalweglaw09_FrameParts.j0 k y0 y1 y2 y3 y4 y5 y6) (thalweglaw09_FrameParts.j0 (k + 1) y0 y1 y2 y3 y4 y5 y6))
 | 0 => fun _ _ _ _ _ _ _ r h => by simp [thalweglaw09_FrameParts.j0] at h
 | k + 1 => by
  have ih0 := thalweglaw09_FrameParts.mono_l k
  ·intro y0 y1 y2 y3 y4 y5 y6
   unfold thalweglaw09_FrameParts.j0
   repeat' first
   | (with_reducible exact ih0 _ _ _ _ _ _ _)
   | (with_reducible exact frame_Bytes.mono _ _ _ _ _ _)
   | (with_reducible exact thalweglaw09_awake.mono _)
   | (with_reducible exact thalwegref09_Few.mono _ _ _ _ _ _)
   | (with_reducible exact LeO.refl _)
   | (with_reducible exact LeO.none _)
   | (with_reducible refine LeO.ite ?_ ?_)
   | (with_reducible refine LeO.bind ?_ (fun _ => ?_))
   | exact ih0 _ _ _ _ _ _ _
   | exact frame_Bytes.mono _ _ _ _ _ _
   | exact thalweglaw09_awake.mono _
   | exact thalwegref09_Few.mono _ _ _ _ _ _
   | exact LeO.none _
   | refine LeO.ite ?_ ?_
   | refine LeO.bind ?_ (fun _ => ?_)
theorem thalweglaw09_FrameParts.mono : ∀ a0 a1 a2 a3 a4 a5 k, LeO (thalweglaw09_FrameParts.f k a0 a1 a2 a3 a4 a5) (thalweglaw09_FrameParts.f (k + 1) a0 a1 a2 a3 a4 a5) := by
 intro a0 a1 a2 a3 a4 a5 k
 have ih0 := thalweglaw09_FrameParts.mono_l k
 unfold thalweglaw09_FrameParts.f
 repeat' first
   | (with_reducible exact ih0 _ _ _ _ _ _ _)
   | (with_reducible exact frame_Bytes.mono _ _ _ _ _ _)
   | (with_reducible exact thalweglaw09_awake.mono _)
   | (with_reducible exact thalwegref09_Few.mono _ _ _ _ _ _)
   | (with_reducible exact LeO.refl _)
   | (with_reducible exact LeO.none _)
   | (with_reducible refine LeO.ite ?_ ?_)
   | (with_reducible refine LeO.bind ?_ (fun _ => ?_))
   | exact ih0 _ _ _ _ _ _ _
   | exact frame_Bytes.mono _ _ _ _ _ _
   | exact thalweglaw09_awake.mono _
   | exact thalwegref09_Few.mono _ _ _ _ _ _
   | exact LeO.none _
   | refine LeO.ite ?_ ?_
   | refine LeO.bind ?_ (fun _ => ?_)
theorem thalweglaw09_FrameParts.calls (k : Nat) (a0_0 : Int) (a0_1 : Int) (a0_2 : Int) (a0_3 : Int) (A0_4 : Option Addr) (c0_4 : Nat) (l0_4 : List (S50)) (a1 : Int) (r : Bool) (w : World) (hr0_4 : Kd.C k50 w A0_4 l0_4.length l0_4) (hc0_4 : l0_4.length ≤ c0_4) (h : thalweglaw09_FrameParts.f k a0_0 a0_1 a0_2 a0_3 l0_4 a1 = some r) :
  Calls Try.prog 7 #[.agg #[.int .i64 a0_0, .int .i64 a0_1, .int .i64 a0_2, .int .i64 a0_3, .slice A0_4 l0_4.length c0_4], .int .i64 a1] w fun e w' => e = .returned (.bool r) ∧ Below w.heap.size w w' := by
 have hu24 := Try.underlying24; have HR0_4 := Aside0.mk hr0_4; have HC0_4 := Aside0.mk hc0_4; clear hr0_4 hc0_4; have HB := Aside0.mk (Below.refl w.heap.size w)
 have H : ((thalwegref09_Few.f k a0_0 a0_1 a0_2 a0_3 l0_4).bind fun t532 => (if t532 = true then (if a1 < 1 then (thalweglaw09_FrameParts.j0 k a1 true a0_0 a0_1 a0_2 a0_3 l0_4) else (thalweglaw09_FrameParts.j0 k a1 (decide (a1 ≥ (l0_4.length : Int))) a0_0 a0_1 a0_2 a0_3 l0_4)) else (thalweglaw09_FrameParts.j0 k a1 true a0_0 a0_1 a0_2 a0_3 l0_4))) = some r := h
 clear h; have HC3 := Aside0.mk H; clear H
 go_enter Try.func7, Try.ntmps7
 go_upto_region 1 with (first | ((with_reducible refine gate_dst (N := 2) rfl ?_); (try (refine gate_guard (by rfl) ?_; dsimp only)); refine bx #[.int .i64 a0_0, .int .i64 a0_1, .int .i64 a0_2, .int .i64 a0_3, .slice A0_4 l0_4.length c0_4] 24 ?_; intro gb531 hg w4 hbox hb; have BK531 := Aside0.mk hbox; have GW531 := ge HB hg; have GE531 := ge HB hg; replace HB := bs HB hb; clear hb hbox hg))
 (try simp only [Act.put, List.setIfInBounds_toArray, List.set_cons_zero, List.set_cons_succ])
 go_cut [26] (fun v26 wc => ∃ (kq : Nat) (x26_2 : Bool), v26 = .bool x26_2 ∧ Aside0 (thalweglaw09_FrameParts.j0 kq a1 x26_2 a0_0 a0_1 a0_2 a0_3 l0_4 = some r) ∧ Aside0 (kq ≤ k) ∧ Aside0 (wc.heap[gb531]? = some (.cells #[.int .i64 a0_0, .int .i64 a0_1, .int .i64 a0_2, .int .i64 a0_3, (.slice A0_4 l0_4.length c0_4)] 24 (0, 0))) ∧ Aside0 (Below w.heap.size w wc))
 case first =>
  have H := HC3.out
  clear HC3; replace H := Option.bind_eq_some_iff.mp H; obtain ⟨t532, A50, H⟩ := H
  replace H : (if t532 = true then (if a1 < 1 then (thalweglaw09_FrameParts.j0 k a1 true a0_0 a0_1 a0_2 a0_3 l0_4) else (thalweglaw09_FrameParts.j0 k a1 (decide (a1 ≥ (l0_4.length : Int))) a0_0 a0_1 a0_2 a0_3 l0_4)) else (thalweglaw09_FrameParts.j0 k a1 true a0_0 a0_1 a0_2 a0_3 l0_4)) = some r := H
  have A5 := Aside0.mk A50; clear A50
  by_cases c6 : t532 = true
  ·subst c6
   rw [if_pos rfl] at H
   by_cases c7 : a1 < 1
   ·rw [if_pos c7] at H
    have c7b0 := decide_eq_true c7; clear c7
    (first | rw [c7b0] | (simp only [i64_w, i32_w]; rw [c7b0]) | rw [c7b1] | skip)
    have H' := Aside0.mk H
    clear H; obtain ⟨q8_0, q8_1, q8_2, q8_3, q8_4⟩ := cA5 BK531; obtain ⟨f8_0, f8_1, f8_2, f8_3, f8_4⟩ := fA5 BK531
    go_wp2_with (first | ((with_reducible refine gate_callee (f := 8) rfl ?_); refine gL (some 14) Try.func8 #[.agg #[.int .i64 a0_0, .int .i64 a0_1, .int .i64 a0_2, .int .i64 a0_3, .slice A0_4 l0_4.length c0_4]] ?_; (with_reducible refine (thalwegref09_Few.calls k a0_0 a0_1 a0_2 a0_3 _ _ l0_4 true _ ?side1 ?side2 A5.out).mono ?_); (case side1 => repeat (first | exact (Kd.C_below HR0_4.out HB.out) | (with_reducible refine Kd.C_alloc ?_ _) | (with_reducible refine Kd.C_drewN ?_ _) | (with_reducible refine Kd.C_drew ?_))); (case side2 => exact HC0_4.out); rintro e w9 ⟨rfl, hb⟩; refine ⟨_, rfl, ?_⟩; replace BK531 := kb BK531 hb; replace HB := bs HB hb; (try clear hb); (try clear hb2); (try clear hk); (try clear hi)))
    go_meet
    case rel => exact ⟨_, (true), gv, H', ⟨by first | omega | exact Nat.le_refl _⟩, ⟨uK BK531⟩, ⟨uB HB⟩⟩
   rw [if_neg c7] at H; have c7b0 : decide (a1 < 1) = false := decide_eq_false c7; clear c7
   (first | rw [c7b0] | (simp only [i64_w, i32_w]; rw [c7b0]) | rw [c7b1] | skip)
   have H' := Aside0.mk H
   clear H; obtain ⟨q10_0, q10_1, q10_2, q10_3, q10_4⟩ := cA5 BK531; obtain ⟨f10_0, f10_1, f10_2, f10_3, f10_4⟩ := fA5 BK531
   go_wp2_with (first | ((with_reducible refine gate_callee (f := 8) rfl ?_); refine gL (some 14) Try.func8 #[.agg #[.int .i64 a0_0, .int .i64 a0_1, .int .i64 a0_2, .int .i64 a0_3, .slice A0_4 l0_4.length c0_4]] ?_; (with_reducible refine (thalwegref09_Few.calls k a0_0 a0_1 a0_2 a0_3 _ _ l0_4 true _ ?side1 ?side2 A5.out).mono ?_); (case side1 => repeat (first | exact (Kd.C_below HR0_4.out HB.out) | (with_reducible refine Kd.C_alloc ?_ _) | (with_reducible refine Kd.C_drewN ?_ _) | (with_reducible refine Kd.C_drew ?_))); (case side2 => exact HC0_4.out); rintro e w11 ⟨rfl, hb⟩; refine ⟨_, rfl, ?_⟩; replace BK531 := kb BK531 hb; replace HB := bs HB hb; (try clear hb); (try clear hb2); (try clear hk); (try clear hi); obtain ⟨q12_0, q12_1, q12_2, q12_3, q12_4⟩ := cA5 BK531; obtain ⟨f12_0, f12_1, f12_2, f12_3, f12_4⟩ := fA5 BK531))
   go_meet
   case rel => exact ⟨_, (decide (a1 ≥ (l0_4.length : Int))), gv, H', ⟨by first | omega | exact Nat.le_refl _⟩, ⟨uK BK531⟩, ⟨uB HB⟩⟩
  replace c6 := Bool.eq_false_iff.mpr c6
  subst c6
  rw [if_neg (show ¬ (false = true) by decide)] at H
  have H' := Aside0.mk H
  clear H; obtain ⟨q13_0, q13_1, q13_2, q13_3, q13_4⟩ := cA5 BK531; obtain ⟨f13_0, f13_1, f13_2, f13_3, f13_4⟩ := fA5 BK531
  go_wp2_with (first | ((with_reducible refine gate_callee (f := 8) rfl ?_); refine gL (some 14) Try.func8 #[.agg #[.int .i64 a0_0, .int .i64 a0_1, .int .i64 a0_2, .int .i64 a0_3, .slice A0_4 l0_4.length c0_4]] ?_; (with_reducible refine (thalwegref09_Few.calls k a0_0 a0_1 a0_2 a0_3 _ _ l0_4 false _ ?side1 ?side2 A5.out).mono ?_); (case side1 => repeat (first | exact (Kd.C_below HR0_4.out HB.out) | (with_reducible refine Kd.C_alloc ?_ _) | (with_reducible refine Kd.C_drewN ?_ _) | (with_reducible refine Kd.C_drew ?_))); (case side2 => exact HC0_4.out); rintro e w14 ⟨rfl, hb⟩; refine ⟨_, rfl, ?_⟩; replace BK531 := kb BK531 hb; replace HB := bs HB hb; (try clear hb); (try clear hb2); (try clear hk); (try clear hi)))
  go_meet
  case rel => exact ⟨_, (true), gv, H', ⟨by first | omega | exact Nat.le_refl _⟩, ⟨uK BK531⟩, ⟨uB HB⟩⟩
 case rest =>
  clear HC3; (try clear p2); (try clear c6); (try clear c7); (try clear c7b0); (try clear c8); (try clear q10_0); (try clear q10_1); (try clear q10_2); (try clear q10_3); (try clear q10_4); (try clear q12_0); (try clear q12_1); (try clear q12_2); (try clear q12_3); (try clear q12_4); (try clear q13_0); (try clear q13_1); (try clear q13_2); (try clear q13_3); (try clear q13_4); (try clear q8_0); (try clear q8_1); (try clear q8_2); (try clear q8_3); (try clear q8_4); (try clear f10_0); (try clear f10_1); (try clear f10_2); (try clear f10_3); (try clear f10_4); (try clear f12_0); (try clear f12_1); (try clear f12_2); (try clear f12_3); (try clear f12_4); (try clear f13_0); (try clear f13_1); (try clear f13_2); (try clear f13_3); (try clear f13_4); (try clear f8_0); (try clear f8_1); (try clear f8_2); (try clear f8_3); (try clear f8_4); obtain ⟨kq, x26_2, rfl, HA, HJ2, BK531, HB⟩ := hcut
  cases kq with
  | zero => exact absurd HA.out (by simp [thalweglaw09_FrameParts.j0])
  | succ kj2 =>
   have H := HA.out
   clear HA
   simp only [thalweglaw09_FrameParts.j0] at H
   by_cases c15 : x26_2 = true
   ·subst c15
    have H1 : ((thalweglaw09_awake.f kj2).bind fun t533 => (some t533)) = some r := by rw [if_pos rfl] at H; exact H
    clear H; have H := H1; clear H1; replace H := Option.bind_eq_some_iff.mp H; obtain ⟨t533, A160, H⟩ := H
    replace H : (some t533) = some r := H
    have A16 := Aside0.mk A160; clear A160
    obtain rfl := Option.some.inj H
    go_wp2_with (first | ((with_reducible refine gate_callee (f := 11) rfl ?_); refine gL (some 27) Try.func11 #[] ?_; (with_reducible refine (thalweglaw09_awake.calls kj2  t533 _ A16.out).mono ?_); rintro e w17 ⟨rfl, hb⟩; refine ⟨_, rfl, ?_⟩; replace BK531 := kb BK531 hb; replace HB := bs HB hb; (try clear hb); (try clear hb2); (try clear hk); (try clear hi)))
    go_ret
    exact ⟨gE, uB HB⟩
   replace c15 := Bool.eq_false_iff.mpr c15
   subst c15
   have H1 : (if 0 ≤ a1 then (if a1 ≤ (l0_4.length : Int) then ((frame_Bytes.f kj2 a0_0 a0_1 a0_2 a0_3 l0_4).bind fun bt544 => ((frame_Bytes.f kj2 a0_0 a0_1 a0_2 a0_3 (l0_4.take (a1 : Int).toNat)).bind fun bt548 => ((frame_Bytes.f kj2 a0_0 a0_1 a0_2 a0_3 (l0_4.drop (a1 : Int).toNat)).bind fun bt552 => (if bt544.2 = 0 then ((thalweglaw09_awake.f kj2).bind fun t556 => (if t556 = true then (if bt548.2 = 0 then (if bt552.2 = 0 then (some ((wrap64 ((bt544.1.length : Int) + 17)) == (wrap64 ((bt548.1.length : Int) + (bt552.1.length : Int))))) else (none)) else (none)) else (none))) else ((thalweglaw09_awake.f kj2).bind fun t557 => (if t557 = true then (some ((bt544.1.length : Int) == 0)) else (none))))))) else (none)) else (none)) = some r := by rw [if_neg (show ¬ (false = true) by decide)] at H; exact H
   clear H; have H := H1; clear H1
   by_cases c18 : 0 ≤ a1
   rotate_left
   ·rw [if_neg c18] at H
    exact absurd H (by simp)
   rw [if_pos c18] at H; have c18b0 := eq_true c18; have c18b1 := decide_eq_true c18; clear c18
   by_cases c19 : a1 ≤ (l0_4.length : Int)
   rotate_left
   ·rw [if_neg c19] at H
    exact absurd H (by simp)
   rw [if_pos c19] at H; have c19b0 := eq_true c19; have c19b1 := decide_eq_true c19; clear c19
   obtain ⟨y536, hy536⟩ : ∃ y_ : List (S50), y_ = (l0_4.take (a1 : Int).toNat) := ⟨_, rfl⟩
   replace H : ((frame_Bytes.f kj2 a0_0 a0_1 a0_2 a0_3 l0_4).bind fun bt544 => ((frame_Bytes.f kj2 a0_0 a0_1 a0_2 a0_3 y536).bind fun bt548 => ((frame_Bytes.f kj2 a0_0 a0_1 a0_2 a0_3 (l0_4.drop (a1 : Int).toNat)).bind fun bt552 => (if bt544.2 = 0 then ((thalweglaw09_awake.f kj2).bind fun t556 => (if t556 = true then (if bt548.2 = 0 then (if bt552.2 = 0 then (some ((wrap64 ((bt544.1.length : Int) + 17)) == (wrap64 ((bt548.1.length : Int) + (bt552.1.length : Int))))) else (none)) else (none)) else (none))) else ((thalweglaw09_awake.f kj2).bind fun t557 => (if t557 = true then (some ((bt544.1.length : Int) == 0)) else (none))))))) = some r := by first | (rw [hy536]; with_reducible exact H) | (have H2_ := (Option.bind_some _ _).symm.trans H; rw [hy536]; with_reducible exact H2_) | (have H2_ := (Option.bind_some _ _).symm.trans H; with_reducible exact H2_) | with_reducible exact H | (rw [hy536]; exact H) | exact H
   have Ny536 := Aside0.mk hy536; clear hy536; have c20b0 := eq_true (of_decide_eq_true gA : 0 ≤ a1); have c21b0 := eq_true (of_decide_eq_true gA : a1 ≤ (l0_4.length : Int))
   obtain ⟨y540, hy540⟩ : ∃ y_ : List (S50), y_ = (l0_4.drop (a1 : Int).toNat) := ⟨_, rfl⟩
   replace H : ((frame_Bytes.f kj2 a0_0 a0_1 a0_2 a0_3 l0_4).bind fun bt544 => ((frame_Bytes.f kj2 a0_0 a0_1 a0_2 a0_3 y536).bind fun bt548 => ((frame_Bytes.f kj2 a0_0 a0_1 a0_2 a0_3 y540).bind fun bt552 => (if bt544.2 = 0 then ((thalweglaw09_awake.f kj2).bind fun t556 => (if t556 = true then (if bt548.2 = 0 then (if bt552.2 = 0 then (some ((wrap64 ((bt544.1.length : Int) + 17)) == (wrap64 ((bt548.1.length : Int) + (bt552.1.length : Int))))) else (none)) else (none)) else (none))) else ((thalweglaw09_awake.f kj2).bind fun t557 => (if t557 = true then (some ((bt544.1.length : Int) == 0)) else (none))))))) = some r := by first | (rw [hy540]; with_reducible exact H) | (have H2_ := (Option.bind_some _ _).symm.trans H; rw [hy540]; with_reducible exact H2_) | (have H2_ := (Option.bind_some _ _).symm.trans H; with_reducible exact H2_) | with_reducible exact H | (rw [hy540]; exact H) | exact H
   have Ny540 := Aside0.mk hy540; clear hy540; replace H := Option.bind_eq_some_iff.mp H
   obtain ⟨⟨t544, t547⟩, A220, H⟩ := H
   replace H : ((frame_Bytes.f kj2 a0_0 a0_1 a0_2 a0_3 y536).bind fun bt548 => ((frame_Bytes.f kj2 a0_0 a0_1 a0_2 a0_3 y540).bind fun bt552 => (if t547 = 0 then ((thalweglaw09_awake.f kj2).bind fun t556 => (if t556 = true then (if bt548.2 = 0 then (if bt552.2 = 0 then (some ((wrap64 ((t544.length : Int) + 17)) == (wrap64 ((bt548.1.length : Int) + (bt552.1.length : Int))))) else (none)) else (none)) else (none))) else ((thalweglaw09_awake.f kj2).bind fun t557 => (if t557 = true then (some ((t544.length : Int) == 0)) else (none)))))) = some r := H
   have A22 := Aside0.mk A220; clear A220; replace H := Option.bind_eq_some_iff.mp H
   obtain ⟨⟨t548, t551⟩, A230, H⟩ := H
   replace H : ((frame_Bytes.f kj2 a0_0 a0_1 a0_2 a0_3 y540).bind fun bt552 => (if t547 = 0 then ((thalweglaw09_awake.f kj2).bind fun t556 => (if t556 = true then (if t551 = 0 then (if bt552.2 = 0 then (some ((wrap64 ((t544.length : Int) + 17)) == (wrap64 ((t548.length : Int) + (bt552.1.length : Int))))) else (none)) else (none)) else (none))) else ((thalweglaw09_awake.f kj2).bind fun t557 => (if t557 = true then (some ((t544.length : Int) == 0)) else (none))))) = some r := H
   have A23 := Aside0.mk A230; clear A230; replace H := Option.bind_eq_some_iff.mp H
   obtain ⟨⟨t552, t555⟩, A240, H⟩ := H
   replace H : (if t547 = 0 then ((thalweglaw09_awake.f kj2).bind fun t556 => (if t556 = true then (if t551 = 0 then (if t555 = 0 then (some ((wrap64 ((t544.length : Int) + 17)) == (wrap64 ((t548.length : Int) + (t552.length : Int))))) else (none)) else (none)) else (none))) else ((thalweglaw09_awake.f kj2).bind fun t557 => (if t557 = true then (some ((t544.length : Int) == 0)) else (none)))) = some r := H
   have A24 := Aside0.mk A240; clear A240
   by_cases c25 : t547 = 0
   ·rw [if_pos c25] at H
    have c25b0 : (t547 == 0) = true := beq_iff_eq.mpr c25
    have c25b1 : (t547 != 0) = false := bne_eq_false_iff_eq.mpr c25
    clear c25; replace H := Option.bind_eq_some_iff.mp H; obtain ⟨t556, A260, H⟩ := H
    replace H : (if t556 = true then (if t551 = 0 then (if t555 = 0 then (some ((wrap64 ((t544.length : Int) + 17)) == (wrap64 ((t548.length : Int) + (t552.length : Int))))) else (none)) else (none)) else (none)) = some r := H
    have A26 := Aside0.mk A260; clear A260
    by_cases c27 : t556 = true
    ·subst c27
     have H1 : (if t551 = 0 then (if t555 = 0 then (some ((wrap64 ((t544.length : Int) + 17)) == (wrap64 ((t548.length : Int) + (t552.length : Int))))) else (none)) else (none)) = some r := by rw [if_pos rfl] at H; exact H
     clear H; have H := H1; clear H1
     by_cases c28 : t551 = 0
     rotate_left
     ·rw [if_neg c28] at H
      exact absurd H (by simp)
     rw [if_pos c28] at H
     have c28b0 : (t551 == 0) = true := beq_iff_eq.mpr c28
     have c28b1 : (t551 != 0) = false := bne_eq_false_iff_eq.mpr c28
     clear c28
     by_cases c29 : t555 = 0
     rotate_left
     ·rw [if_neg c29] at H
      exact absurd H (by simp)
     rw [if_pos c29] at H
     have c29b0 : (t555 == 0) = true := beq_iff_eq.mpr c29
     have c29b1 : (t555 != 0) = false := bne_eq_false_iff_eq.mpr c29
     clear c29
     obtain rfl := Option.some.inj H
     obtain ⟨q30_0, q30_1, q30_2, q30_3, q30_4⟩ := cA5 BK531; obtain ⟨f30_0, f30_1, f30_2, f30_3, f30_4⟩ := fA5 BK531
     go_wp2_with (first | ((with_reducible refine gate_dst (N := 5) rfl ?_); (try (refine gate_guard (by rfl) ?_; dsimp only)); refine bx #[.int .i64 0, .int .i64 0, .int .i64 0, .int .i64 0, .slice none 0 0] 24 ?_; intro gb534 hg w31 hbox hb; have BK534 := Aside0.mk hbox; have GW534 := ge HB hg; have GE534 := ge HB hg; replace HB := bs HB hb; have NB531_534 := nL BK531 hg; have NB534_531 := nG BK531 hg; replace BK531 := kb BK531 hb; clear hb hbox hg; have hnb32 := NB534_531.out; have hnc32 := NB531_534.out; obtain ⟨q33_0, q33_1, q33_2, q33_3, q33_4⟩ := cA5 BK534; obtain ⟨f33_0, f33_1, f33_2, f33_3, f33_4⟩ := fA5 BK534; obtain ⟨q34_0, q34_1, q34_2, q34_3, q34_4⟩ := cA5 BK531; obtain ⟨f34_0, f34_1, f34_2, f34_3, f34_4⟩ := fA5 BK531) | ((with_reducible refine gate_dst (N := 6) rfl ?_); (try (refine gate_guard (by rfl) ?_; dsimp only)); refine bx #[.int .i64 0, .int .i64 0, .int .i64 0, .int .i64 0, .slice none 0 0] 24 ?_; intro gb535 hg w35 hbox hb; have BK535 := Aside0.mk hbox; have GW535 := ge HB hg; have GE535 := ge HB hg; replace HB := bs HB hb; have NB531_535 := Aside0.mk ((by rw [hg]; exact Nat.ne_of_lt (blk_lt (g := gb531) (o := .cells #[.int .i64 a0_0, .int .i64 a0_1, .int .i64 a0_2, .int .i64 a0_3, .slice A0_4 l0_4.length c0_4] 24 (0, 0)) (by refine rK ?_; refine blk_far ?_ NB531_534.out _; refine rK ?_; refine blk_far ?_ NB531_534.out _; refine rK ?_; refine blk_far ?_ NB531_534.out _; refine rK ?_; refine blk_far ?_ NB531_534.out _; refine rK ?_; refine blk_far ?_ NB531_534.out _; refine rK ?_; exact BK531.out)) : gb531 ≠ gb535)); have NB535_531 := Aside0.mk ((by rw [hg]; exact Nat.ne_of_gt (blk_lt (g := gb531) (o := .cells #[.int .i64 a0_0, .int .i64 a0_1, .int .i64 a0_2, .int .i64 a0_3, .slice A0_4 l0_4.length c0_4] 24 (0, 0)) (by refine rK ?_; refine blk_far ?_ NB531_534.out _; refine rK ?_; refine blk_far ?_ NB531_534.out _; refine rK ?_; refine blk_far ?_ NB531_534.out _; refine rK ?_; refine blk_far ?_ NB531_534.out _; refine rK ?_; refine blk_far ?_ NB531_534.out _; refine rK ?_; exact BK531.out)) : gb535 ≠ gb531)); replace BK531 := kc BK531 hb; have NB534_535 := Aside0.mk ((by rw [hg]; exact Nat.ne_of_lt (blk_lt (g := gb534) (o := .cells #[.int .i64 a0_0, .int .i64 a0_1, .int .i64 a0_2, .int .i64 a0_3, .slice A0_4 l0_4.length c0_4] 24 (0, 0)) (by refine rK ?_; refine blk_put (cs := #[.int .i64 a0_0, .int .i64 a0_1, .int .i64 a0_2, .int .i64 a0_3, .slice none 0 0]) ?_ 4 _ rfl; refine rK ?_; refine blk_put (cs := #[.int .i64 a0_0, .int .i64 a0_1, .int .i64 a0_2, .int .i64 0, .slice none 0 0]) ?_ 3 _ rfl; refine rK ?_; refine blk_put (cs := #[.int .i64 a0_0, .int .i64 a0_1, .int .i64 0, .int .i64 0, .slice none 0 0]) ?_ 2 _ rfl; refine rK ?_; refine blk_put (cs := #[.int .i64 a0_0, .int .i64 0, .int .i64 0, .int .i64 0, .slice none 0 0]) ?_ 1 _ rfl; refine rK ?_; refine blk_put (cs := #[.int .i64 0, .int .i64 0, .int .i64 0, .int .i64 0, .slice none 0 0]) ?_ 0 _ rfl; refine rK ?_; exact BK534.out)) : gb534 ≠ gb535)); have NB535_534 := Aside0.mk ((by rw [hg]; exact Nat.ne_of_gt (blk_lt (g := gb534) (o := .cells #[.int .i64 a0_0, .int .i64 a0_1, .int .i64 a0_2, .int .i64 a0_3, .slice A0_4 l0_4.length c0_4] 24 (0, 0)) (by refine rK ?_; refine blk_put (cs := #[.int .i64 a0_0, .int .i64 a0_1, .int .i64 a0_2, .int .i64 a0_3, .slice none 0 0]) ?_ 4 _ rfl; refine rK ?_; refine blk_put (cs := #[.int .i64 a0_0, .int .i64 a0_1, .int .i64 a0_2, .int .i64 0, .slice none 0 0]) ?_ 3 _ rfl; refine rK ?_; refine blk_put (cs := #[.int .i64 a0_0, .int .i64 a0_1, .int .i64 0, .int .i64 0, .slice none 0 0]) ?_ 2 _ rfl; refine rK ?_; refine blk_put (cs := #[.int .i64 a0_0, .int .i64 0, .int .i64 0, .int .i64 0, .slice none 0 0]) ?_ 1 _ rfl; refine rK ?_; refine blk_put (cs := #[.int .i64 0, .int .i64 0, .int .i64 0, .int .i64 0, .slice none 0 0]) ?_ 0 _ rfl; refine rK ?_; exact BK534.out)) : gb535 ≠ gb534)); replace BK534 := kc BK534 hb; clear hb hbox hg; have hnb36 := NB535_531.out; have hnc36 := NB531_535.out; have hnb37 := NB535_534.out; have hnc37 := NB534_535.out; obtain ⟨q38_0, q38_1, q38_2, q38_3, q38_4⟩ := cA5 BK535; obtain ⟨f38_0, f38_1, f38_2, f38_3, f38_4⟩ := fA5 BK535) | ((with_reducible refine gate_store (t := 24) (p := 6) rfl ?_); refine store_event (t := 24) (p := 6) (v := ?vo_w39) (w1 := (((((w35.setCell ⟨gb535, 0, none⟩ (.int .i64 a0_0)).setCell ⟨gb535, 1, none⟩ (.int .i64 a0_1)).setCell ⟨gb535, 2, none⟩ (.int .i64 a0_2)).setCell ⟨gb535, 3, none⟩ (.int .i64 a0_3)).setCell ⟨gb535, 4, none⟩ (.slice A0_4 l0_4.length c0_4))) ?hg ?ho ?hn ?hr ?_; (case ho => rfl); (case hg => rfl); (case hn => rfl); (case hr => first | (go_simp; done) | (go_simp; rfl)); intro w39 hw; have n0_ : Aside0 (w39.heap[gb531]? = some (.cells #[.int .i64 a0_0, .int .i64 a0_1, .int .i64 a0_2, .int .i64 a0_3, .slice A0_4 l0_4.length c0_4] 24 (0, 0))) := ⟨(by rw [hw]; exact (by refine rK ?_; refine blk_far ?_ NB531_535.out _; refine rK ?_; refine blk_far ?_ NB531_535.out _; refine rK ?_; refine blk_far ?_ NB531_535.out _; refine rK ?_; refine blk_far ?_ NB531_535.out _; refine rK ?_; refine blk_far ?_ NB531_535.out _; refine rK ?_; exact BK531.out))⟩; have n1_ : Aside0 (w39.heap[gb534]? = some (.cells #[.int .i64 a0_0, .int .i64 a0_1, .int .i64 a0_2, .int .i64 a0_3, .slice A0_4 l0_4.length c0_4] 24 (0, 0))) := ⟨(by rw [hw]; exact (by refine rK ?_; refine blk_far ?_ NB534_535.out _; refine rK ?_; refine blk_far ?_ NB534_535.out _; refine rK ?_; refine blk_far ?_ NB534_535.out _; refine rK ?_; refine blk_far ?_ NB534_535.out _; refine rK ?_; refine blk_far ?_ NB534_535.out _; refine rK ?_; exact BK534.out))⟩; have n2_ : Aside0 (w39.heap[gb535]? = some (.cells #[.int .i64 a0_0, .int .i64 a0_1, .int .i64 a0_2, .int .i64 a0_3, .slice A0_4 l0_4.length c0_4] 24 (0, 0))) := ⟨(by rw [hw]; exact (by refine rK ?_; refine blk_put (cs := #[.int .i64 a0_0, .int .i64 a0_1, .int .i64 a0_2, .int .i64 a0_3, .slice none 0 0]) ?_ 4 _ rfl; refine rK ?_; refine blk_put (cs := #[.int .i64 a0_0, .int .i64 a0_1, .int .i64 a0_2, .int .i64 0, .slice none 0 0]) ?_ 3 _ rfl; refine rK ?_; refine blk_put (cs := #[.int .i64 a0_0, .int .i64 a0_1, .int .i64 0, .int .i64 0, .slice none 0 0]) ?_ 2 _ rfl; refine rK ?_; refine blk_put (cs := #[.int .i64 a0_0, .int .i64 0, .int .i64 0, .int .i64 0, .slice none 0 0]) ?_ 1 _ rfl; refine rK ?_; refine blk_put (cs := #[.int .i64 0, .int .i64 0, .int .i64 0, .int .i64 0, .slice none 0 0]) ?_ 0 _ rfl; refine rK ?_; exact BK535.out))⟩; have n3_ : Aside0 (Below w.heap.size w w39) := ⟨(by rw [hw]; exact (uB HB))⟩; clear hw; clear BK531; clear BK534; clear BK535; clear HB; have BK531 := n0_; have BK534 := n1_; have BK535 := n2_; have HB := n3_; clear n0_ n1_ n2_ n3_; obtain ⟨q40_0, q40_1, q40_2, q40_3, q40_4⟩ := cA5 BK531; obtain ⟨f40_0, f40_1, f40_2, f40_3, f40_4⟩ := fA5 BK531; have q41 : (a1 : Int) ≤ ((l0_4.length : Int) : Int) := of_decide_eq_true gA; obtain ⟨i041, hi041, _, hsz41, _⟩ := info_parts info50; have hroom41 : l0_4.length ≤ c0_4 := HC0_4.out; have hC41 : Kd.C k50 _ A0_4 l0_4.length l0_4 := HR0_4.out; have hcut41 := cut_to (P := Try.prog) 22 50 .i64 Try.underlying22 hi041 A0_4 l0_4.length c0_4 a1 (of_decide_eq_true gA) q41 hroom41; have hr41 := Kd.C_take (m := (a1 : Int).toNat) hC41 (by omega); have hy41 : y536.length = (a1 : Int).toNat := (by rw [Ny536.out, List.length_take]; omega); rw [← Ny536.out] at hr41; rw [← hy41] at hcut41; have HR539 := Aside0.mk hr41; have HC539 := Aside0.mk (show y536.length ≤ c0_4 from by omega); clear hr41 hC41 hroom41 hi041 hsz41; have KY41 := Aside0.mk hy41; clear hy41; replace q41 := eq_true q41; obtain ⟨q42_0, q42_1, q42_2, q42_3, q42_4⟩ := cA5 BK534; obtain ⟨f42_0, f42_1, f42_2, f42_3, f42_4⟩ := fA5 BK534) | ((with_reducible refine gate_store (t := 22) (p := 34) rfl ?_); refine store_event (t := 22) (p := 34) (v := ?vo_w43) (w1 := (w39.setCell ⟨gb534, 4, none⟩ (.slice A0_4 y536.length c0_4))) ?hg ?ho ?hn ?hr ?_; (case ho => rfl); (case hg => rfl); (case hn => rfl); (case hr => first | (go_simp; done) | (go_simp; rfl)); intro w43 hw; have n0_ : Aside0 (w43.heap[gb531]? = some (.cells #[.int .i64 a0_0, .int .i64 a0_1, .int .i64 a0_2, .int .i64 a0_3, .slice A0_4 l0_4.length c0_4] 24 (0, 0))) := ⟨(by rw [hw]; exact (by refine rK ?_; refine blk_far ?_ NB531_534.out _; refine rK ?_; exact BK531.out))⟩; have n1_ : Aside0 (w43.heap[gb534]? = some (.cells #[.int .i64 a0_0, .int .i64 a0_1, .int .i64 a0_2, .int .i64 a0_3, .slice A0_4 y536.length c0_4] 24 (0, 0))) := ⟨(by rw [hw]; exact (by refine rK ?_; refine blk_put (cs := #[.int .i64 a0_0, .int .i64 a0_1, .int .i64 a0_2, .int .i64 a0_3, .slice A0_4 l0_4.length c0_4]) ?_ 4 _ rfl; refine rK ?_; exact BK534.out))⟩; have n2_ : Aside0 (w43.heap[gb535]? = some (.cells #[.int .i64 a0_0, .int .i64 a0_1, .int .i64 a0_2, .int .i64 a0_3, .slice A0_4 l0_4.length c0_4] 24 (0, 0))) := ⟨(by rw [hw]; exact (by refine rK ?_; refine blk_far ?_ NB535_534.out _; refine rK ?_; exact BK535.out))⟩; have n3_ : Aside0 (Below w.heap.size w w43) := ⟨(by rw [hw]; exact (uB HB))⟩; clear hw; clear BK531; clear BK534; clear BK535; clear HB; have BK531 := n0_; have BK534 := n1_; have BK535 := n2_; have HB := n3_; clear n0_ n1_ n2_ n3_; obtain ⟨q44_0, q44_1, q44_2, q44_3, q44_4⟩ := cA5 BK531; obtain ⟨f44_0, f44_1, f44_2, f44_3, f44_4⟩ := fA5 BK531; have q45 : (a1 : Int) ≤ ((l0_4.length : Int) : Int) := of_decide_eq_true gA; obtain ⟨i045, hi045, _, hsz45, _⟩ := info_parts info50; have hroom45 : l0_4.length ≤ c0_4 := HC0_4.out; have hC45 : Kd.C k50 _ A0_4 l0_4.length l0_4 := HR0_4.out; have q045 : (0 : Int) ≤ (a1 : Int) := of_decide_eq_true gA; have hcut45 := cut_from (P := Try.prog) 22 50 .i64 Try.underlying22 hi045 11 hsz45 A0_4 l0_4.length c0_4 a1 q045 q45; have hr45 := Kd.C_drop (m := (a1 : Int).toNat) (c := c0_4) hC45 (by omega) hroom45; obtain ⟨A45, hA45⟩ : ∃ A1, A1 = (if c0_4 = (a1 : Int).toNat then A0_4 else (A0_4 : Option Addr).map (·.add ((a1 : Int).toNat * 11))) := ⟨_, rfl⟩; obtain ⟨c45, hc45⟩ : ∃ c1, c1 = c0_4 - (a1 : Int).toNat := ⟨_, rfl⟩; have hy45 : y540.length = l0_4.length - (a1 : Int).toNat := (by rw [Ny540.out, List.length_drop] <;> omega); rw [show (l0_4).drop (a1 : Int).toNat = y540 from Ny540.out.symm] at hr45; replace hr45 : Kd.C k50 _ A45 y540.length y540 := (by rw [hA45]; exact hr45); rw [← hy45, ← hA45, ← hc45] at hcut45; have HR543 := Aside0.mk hr45; have HC543 := Aside0.mk (show y540.length ≤ c45 from by rw [hy45, hc45]; exact Nat.sub_le_sub_right hroom45 _); clear hr45 hC45 hroom45 hi045 hsz45 hc45; have KY45 := Aside0.mk hy45; have KA45 := Aside0.mk hA45; clear hy45 hA45; replace q45 := eq_true q45; obtain ⟨q46_0, q46_1, q46_2, q46_3, q46_4⟩ := cA5 BK535; obtain ⟨f46_0, f46_1, f46_2, f46_3, f46_4⟩ := fA5 BK535) | ((with_reducible refine gate_callee (f := 9) rfl ?_); refine gL (some 42) Try.func9 #[.agg #[.int .i64 a0_0, .int .i64 a0_1, .int .i64 a0_2, .int .i64 a0_3, .slice A0_4 l0_4.length c0_4]] ?_; (with_reducible refine (frame_Bytes.calls kj2 a0_0 a0_1 a0_2 a0_3 _ _ l0_4 t544 t547 _ ?side1 ?side2 A22.out).mono ?_); (case side1 => exact Kd.C_below HR0_4.out (uB HB)); (case side2 => exact HC0_4.out); rintro e w47 ⟨v545, rfl, ho0, hb⟩; refine ⟨_, rfl, ?_⟩; have HO546 := Aside0.mk (Kd.R_lower ho0 (below_size (uB HB))); replace BK531 := kc BK531 hb; replace BK534 := kc BK534 hb; replace BK535 := kc BK535 hb; replace HB := bs HB hb; (try clear hb); (try clear hb2); (try clear hk); (try clear hi); (try clear ho0); obtain ⟨q48_0, q48_1, q48_2, q48_3, q48_4⟩ := cA5 BK534; obtain ⟨f48_0, f48_1, f48_2, f48_3, f48_4⟩ := fA5 BK534) | ((with_reducible refine gate_callee (f := 9) rfl ?_); refine gL (some 47) Try.func9 #[.agg #[.int .i64 a0_0, .int .i64 a0_1, .int .i64 a0_2, .int .i64 a0_3, .slice A0_4 y536.length c0_4]] ?_; (with_reducible refine (frame_Bytes.calls kj2 a0_0 a0_1 a0_2 a0_3 _ _ y536 t548 t551 _ ?side1 ?side2 A23.out).mono ?_); (case side1 => repeat (first | exact (Kd.C_below HR539.out HB.out) | (with_reducible refine Kd.C_alloc ?_ _) | (with_reducible refine Kd.C_drewN ?_ _) | (with_reducible refine Kd.C_drew ?_))); (case side2 => exact HC539.out); rintro e w49 ⟨v549, rfl, ho0, hb⟩; refine ⟨_, rfl, ?_⟩; have HO550 := Aside0.mk (Kd.R_lower (Kd.R_new' ho0 (Kd.R_lt (uR HO546))) (below_size (uB HB))); replace HO546 := Aside0.mk (Kd.R_elder' (uR HO546) (Kd.R_base ho0) hb); replace BK531 := kb BK531 hb; replace BK534 := kb BK534 hb; replace BK535 := kb BK535 hb; replace HB := bs HB hb; (try clear hb); (try clear hb2); (try clear hk); (try clear hi); (try clear ho0); obtain ⟨q50_0, q50_1, q50_2, q50_3, q50_4⟩ := cA5 BK535; obtain ⟨f50_0, f50_1, f50_2, f50_3, f50_4⟩ := fA5 BK535) | ((with_reducible refine gate_callee (f := 9) rfl ?_); refine gL (some 52) Try.func9 #[.agg #[.int .i64 a0_0, .int .i64 a0_1, .int .i64 a0_2, .int .i64 a0_3, .slice A45 y540.length c45]] ?_; (with_reducible refine (frame_Bytes.calls kj2 a0_0 a0_1 a0_2 a0_3 _ _ y540 t552 t555 _ ?side1 ?side2 A24.out).mono ?_); (case side1 => repeat (first | exact (Kd.C_below HR543.out HB.out) | (with_reducible refine Kd.C_alloc ?_ _) | (with_reducible refine Kd.C_drewN ?_ _) | (with_reducible refine Kd.C_drew ?_))); (case side2 => exact HC543.out); rintro e w51 ⟨v553, rfl, ho0, hb⟩; refine ⟨_, rfl, ?_⟩; have HO554 := Aside0.mk (Kd.R_lower (Kd.R_new' (Kd.R_new' ho0 (Kd.R_lt (uR HO546))) (Kd.R_lt (uR HO550))) (below_size (uB HB))); replace HO546 := Aside0.mk (Kd.R_elder' (uR HO546) (Kd.R_base ho0) hb); replace HO550 := Aside0.mk (Kd.R_elder' (uR HO550) (Kd.R_base ho0) hb); replace BK531 := kb BK531 hb; replace BK534 := kb BK534 hb; replace BK535 := kb BK535 hb; replace HB := bs HB hb; (try clear hb); (try clear hb2); (try clear hk); (try clear hi); (try clear ho0)) | ((with_reducible refine gate_callee (f := 11) rfl ?_); refine gL (some 63) Try.func11 #[] ?_; (with_reducible refine (thalweglaw09_awake.calls kj2  true _ A26.out).mono ?_); rintro e w52 ⟨rfl, hb⟩; refine ⟨_, rfl, ?_⟩; replace HO546 := Aside0.mk (Kd.R_below (uR HO546) hb); replace HO550 := Aside0.mk (Kd.R_below (uR HO550) hb); replace HO554 := Aside0.mk (Kd.R_below (uR HO554) hb); replace BK531 := kb BK531 hb; replace BK534 := kb BK534 hb; replace BK535 := kb BK535 hb; replace HB := bs HB hb; (try clear hb); (try clear hb2); (try clear hk); (try clear hi); obtain ⟨Ao53, co53, eo53⟩ := Kd.R_slice HO546.out; subst eo53; obtain ⟨Ao54, co54, eo54⟩ := Kd.R_slice HO550.out; subst eo54; obtain ⟨Ao55, co55, eo55⟩ := Kd.R_slice HO554.out; subst eo55))
     go_ret
     exact ⟨gE, uB HB⟩
    replace c27 := Bool.eq_false_iff.mpr c27
    subst c27
    rw [if_neg (show ¬ (false = true) by decide)] at H
    exact absurd H (by simp)
   rw [if_neg c25] at H
   have c25b0 : (t547 == 0) = false := beq_eq_false_iff_ne.mpr c25
   have c25b1 : (t547 != 0) = true := bne_iff_ne.mpr c25
   replace H := Option.bind_eq_some_iff.mp H; obtain ⟨t557, A560, H⟩ := H
   replace H : (if t557 = true then (some ((t544.length : Int) == 0)) else (none)) = some r := H
   have A56 := Aside0.mk A560; clear A560
   by_cases c57 : t557 = true
   ·subst c57
    have H1 : (some ((t544.length : Int) == 0)) = some r := by rw [if_pos rfl] at H; exact H
    clear H; have H := H1; clear H1
    obtain rfl := Option.some.inj H
    obtain ⟨q58_0, q58_1, q58_2, q58_3, q58_4⟩ := cA5 BK531; obtain ⟨f58_0, f58_1, f58_2, f58_3, f58_4⟩ := fA5 BK531
    go_wp2_with (first | ((with_reducible refine gate_dst (N := 5) rfl ?_); (try (refine gate_guard (by rfl) ?_; dsimp only)); refine bx #[.int .i64 0, .int .i64 0, .int .i64 0, .int .i64 0, .slice none 0 0] 24 ?_; intro gb534 hg w59 hbox hb; have BK534 := Aside0.mk hbox; have GW534 := ge HB hg; have GE534 := ge HB hg; replace HB := bs HB hb; have NB531_534 := nL BK531 hg; have NB534_531 := nG BK531 hg; replace BK531 := kb BK531 hb; clear hb hbox hg; have hnb60 := NB534_531.out; have hnc60 := NB531_534.out; obtain ⟨q61_0, q61_1, q61_2, q61_3, q61_4⟩ := cA5 BK534; obtain ⟨f61_0, f61_1, f61_2, f61_3, f61_4⟩ := fA5 BK534; obtain ⟨q62_0, q62_1, q62_2, q62_3, q62_4⟩ := cA5 BK531; obtain ⟨f62_0, f62_1, f62_2, f62_3, f62_4⟩ := fA5 BK531) | ((with_reducible refine gate_dst (N := 6) rfl ?_); (try (refine gate_guard (by rfl) ?_; dsimp only)); refine bx #[.int .i64 0, .int .i64 0, .int .i64 0, .int .i64 0, .slice none 0 0] 24 ?_; intro gb535 hg w63 hbox hb; have BK535 := Aside0.mk hbox; have GW535 := ge HB hg; have GE535 := ge HB hg; replace HB := bs HB hb; have NB531_535 := Aside0.mk ((by rw [hg]; exact Nat.ne_of_lt (blk_lt (g := gb531) (o := .cells #[.int .i64 a0_0, .int .i64 a0_1, .int .i64 a0_2, .int .i64 a0_3, .slice A0_4 l0_4.length c0_4] 24 (0, 0)) (by refine rK ?_; refine blk_far ?_ NB531_534.out _; refine rK ?_; refine blk_far ?_ NB531_534.out _; refine rK ?_; refine blk_far ?_ NB531_534.out _; refine rK ?_; refine blk_far ?_ NB531_534.out _; refine rK ?_; refine blk_far ?_ NB531_534.out _; refine rK ?_; exact BK531.out)) : gb531 ≠ gb535)); have NB535_531 := Aside0.mk ((by rw [hg]; exact Nat.ne_of_gt (blk_lt (g := gb531) (o := .cells #[.int .i64 a0_0, .int .i64 a0_1, .int .i64 a0_2, .int .i64 a0_3, .slice A0_4 l0_4.length c0_4] 24 (0, 0)) (by refine rK ?_; refine blk_far ?_ NB531_534.out _; refine rK ?_; refine blk_far ?_ NB531_534.out _; refine rK ?_; refine blk_far ?_ NB531_534.out _; refine rK ?_; refine blk_far ?_ NB531_534.out _; refine rK ?_; refine blk_far ?_ NB531_534.out _; refine rK ?_; exact BK531.out)) : gb535 ≠ gb531)); replace BK531 := kc BK531 hb; have NB534_535 := Aside0.mk ((by rw [hg]; exact Nat.ne_of_lt (blk_lt (g := gb534) (o := .cells #[.int .i64 a0_0, .int .i64 a0_1, .int .i64 a0_2, .int .i64 a0_3, .slice A0_4 l0_4.length c0_4] 24 (0, 0)) (by refine rK ?_; refine blk_put (cs := #[.int .i64 a0_0, .int .i64 a0_1, .int .i64 a0_2, .int .i64 a0_3, .slice none 0 0]) ?_ 4 _ rfl; refine rK ?_; refine blk_put (cs := #[.int .i64 a0_0, .int .i64 a0_1, .int .i64 a0_2, .int .i64 0, .slice none 0 0]) ?_ 3 _ rfl; refine rK ?_; refine blk_put (cs := #[.int .i64 a0_0, .int .i64 a0_1, .int .i64 0, .int .i64 0, .slice none 0 0]) ?_ 2 _ rfl; refine rK ?_; refine blk_put (cs := #[.int .i64 a0_0, .int .i64 0, .int .i64 0, .int .i64 0, .slice none 0 0]) ?_ 1 _ rfl; refine rK ?_; refine blk_put (cs := #[.int .i64 0, .int .i64 0, .int .i64 0, .int .i64 0, .slice none 0 0]) ?_ 0 _ rfl; refine rK ?_; exact BK534.out)) : gb534 ≠ gb535)); have NB535_534 := Aside0.mk ((by rw [hg]; exact Nat.ne_of_gt (blk_lt (g := gb534) (o := .cells #[.int .i64 a0_0, .int .i64 a0_1, .int .i64 a0_2, .int .i64 a0_3, .slice A0_4 l0_4.length c0_4] 24 (0, 0)) (by refine rK ?_; refine blk_put (cs := #[.int .i64 a0_0, .int .i64 a0_1, .int .i64 a0_2, .int .i64 a0_3, .slice none 0 0]) ?_ 4 _ rfl; refine rK ?_; refine blk_put (cs := #[.int .i64 a0_0, .int .i64 a0_1, .int .i64 a0_2, .int .i64 0, .slice none 0 0]) ?_ 3 _ rfl; refine rK ?_; refine blk_put (cs := #[.int .i64 a0_0, .int .i64 a0_1, .int .i64 0, .int .i64 0, .slice none 0 0]) ?_ 2 _ rfl; refine rK ?_; refine blk_put (cs := #[.int .i64 a0_0, .int .i64 0, .int .i64 0, .int .i64 0, .slice none 0 0]) ?_ 1 _ rfl; refine rK ?_; refine blk_put (cs := #[.int .i64 0, .int .i64 0, .int .i64 0, .int .i64 0, .slice none 0 0]) ?_ 0 _ rfl; refine rK ?_; exact BK534.out)) : gb535 ≠ gb534)); replace BK534 := kc BK534 hb; clear hb hbox hg; have hnb64 := NB535_531.out; have hnc64 := NB531_535.out; have hnb65 := NB535_534.out; have hnc65 := NB534_535.out; obtain ⟨q66_0, q66_1, q66_2, q66_3, q66_4⟩ := cA5 BK535; obtain ⟨f66_0, f66_1, f66_2, f66_3, f66_4⟩ := fA5 BK535) | ((with_reducible refine gate_store (t := 24) (p := 6) rfl ?_); refine store_event (t := 24) (p := 6) (v := ?vo_w67) (w1 := (((((w63.setCell ⟨gb535, 0, none⟩ (.int .i64 a0_0)).setCell ⟨gb535, 1, none⟩ (.int .i64 a0_1)).setCell ⟨gb535, 2, none⟩ (.int .i64 a0_2)).setCell ⟨gb535, 3, none⟩ (.int .i64 a0_3)).setCell ⟨gb535, 4, none⟩ (.slice A0_4 l0_4.length c0_4))) ?hg ?ho ?hn ?hr ?_; (case ho => rfl); (case hg => rfl); (case hn => rfl); (case hr => first | (go_simp; done) | (go_simp; rfl)); intro w67 hw; have n0_ : Aside0 (w67.heap[gb531]? = some (.cells #[.int .i64 a0_0, .int .i64 a0_1, .int .i64 a0_2, .int .i64 a0_3, .slice A0_4 l0_4.length c0_4] 24 (0, 0))) := ⟨(by rw [hw]; exact (by refine rK ?_; refine blk_far ?_ NB531_535.out _; refine rK ?_; refine blk_far ?_ NB531_535.out _; refine rK ?_; refine blk_far ?_ NB531_535.out _; refine rK ?_; refine blk_far ?_ NB531_535.out _; refine rK ?_; refine blk_far ?_ NB531_535.out _; refine rK ?_; exact BK531.out))⟩; have n1_ : Aside0 (w67.heap[gb534]? = some (.cells #[.int .i64 a0_0, .int .i64 a0_1, .int .i64 a0_2, .int .i64 a0_3, .slice A0_4 l0_4.length c0_4] 24 (0, 0))) := ⟨(by rw [hw]; exact (by refine rK ?_; refine blk_far ?_ NB534_535.out _; refine rK ?_; refine blk_far ?_ NB534_535.out _; refine rK ?_; refine blk_far ?_ NB534_535.out _; refine rK ?_; refine blk_far ?_ NB534_535.out _; refine rK ?_; refine blk_far ?_ NB534_535.out _; refine rK ?_; exact BK534.out))⟩; have n2_ : Aside0 (w67.heap[gb535]? = some (.cells #[.int .i64 a0_0, .int .i64 a0_1, .int .i64 a0_2, .int .i64 a0_3, .slice A0_4 l0_4.length c0_4] 24 (0, 0))) := ⟨(by rw [hw]; exact (by refine rK ?_; refine blk_put (cs := #[.int .i64 a0_0, .int .i64 a0_1, .int .i64 a0_2, .int .i64 a0_3, .slice none 0 0]) ?_ 4 _ rfl; refine rK ?_; refine blk_put (cs := #[.int .i64 a0_0, .int .i64 a0_1, .int .i64 a0_2, .int .i64 0, .slice none 0 0]) ?_ 3 _ rfl; refine rK ?_; refine blk_put (cs := #[.int .i64 a0_0, .int .i64 a0_1, .int .i64 0, .int .i64 0, .slice none 0 0]) ?_ 2 _ rfl; refine rK ?_; refine blk_put (cs := #[.int .i64 a0_0, .int .i64 0, .int .i64 0, .int .i64 0, .slice none 0 0]) ?_ 1 _ rfl; refine rK ?_; refine blk_put (cs := #[.int .i64 0, .int .i64 0, .int .i64 0, .int .i64 0, .slice none 0 0]) ?_ 0 _ rfl; refine rK ?_; exact BK535.out))⟩; have n3_ : Aside0 (Below w.heap.size w w67) := ⟨(by rw [hw]; exact (uB HB))⟩; clear hw; clear BK531; clear BK534; clear BK535; clear HB; have BK531 := n0_; have BK534 := n1_; have BK535 := n2_; have HB := n3_; clear n0_ n1_ n2_ n3_; obtain ⟨q68_0, q68_1, q68_2, q68_3, q68_4⟩ := cA5 BK531; obtain ⟨f68_0, f68_1, f68_2, f68_3, f68_4⟩ := fA5 BK531; have q69 : (a1 : Int) ≤ ((l0_4.length : Int) : Int) := of_decide_eq_true gA; obtain ⟨i069, hi069, _, hsz69, _⟩ := info_parts info50; have hroom69 : l0_4.length ≤ c0_4 := HC0_4.out; have hC69 : Kd.C k50 _ A0_4 l0_4.length l0_4 := HR0_4.out; have hcut69 := cut_to (P := Try.prog) 22 50 .i64 Try.underlying22 hi069 A0_4 l0_4.length c0_4 a1 (of_decide_eq_true gA) q69 hroom69; have hr69 := Kd.C_take (m := (a1 : Int).toNat) hC69 (by omega); have hy69 : y536.length = (a1 : Int).toNat := (by rw [Ny536.out, List.length_take]; omega); rw [← Ny536.out] at hr69; rw [← hy69] at hcut69; have HR539 := Aside0.mk hr69; have HC539 := Aside0.mk (show y536.length ≤ c0_4 from by omega); clear hr69 hC69 hroom69 hi069 hsz69; have KY69 := Aside0.mk hy69; clear hy69; replace q69 := eq_true q69; obtain ⟨q70_0, q70_1, q70_2, q70_3, q70_4⟩ := cA5 BK534; obtain ⟨f70_0, f70_1, f70_2, f70_3, f70_4⟩ := fA5 BK534) | ((with_reducible refine gate_store (t := 22) (p := 34) rfl ?_); refine store_event (t := 22) (p := 34) (v := ?vo_w71) (w1 := (w67.setCell ⟨gb534, 4, none⟩ (.slice A0_4 y536.length c0_4))) ?hg ?ho ?hn ?hr ?_; (case ho => rfl); (case hg => rfl); (case hn => rfl); (case hr => first | (go_simp; done) | (go_simp; rfl)); intro w71 hw; have n0_ : Aside0 (w71.heap[gb531]? = some (.cells #[.int .i64 a0_0, .int .i64 a0_1, .int .i64 a0_2, .int .i64 a0_3, .slice A0_4 l0_4.length c0_4] 24 (0, 0))) := ⟨(by rw [hw]; exact (by refine rK ?_; refine blk_far ?_ NB531_534.out _; refine rK ?_; exact BK531.out))⟩; have n1_ : Aside0 (w71.heap[gb534]? = some (.cells #[.int .i64 a0_0, .int .i64 a0_1, .int .i64 a0_2, .int .i64 a0_3, .slice A0_4 y536.length c0_4] 24 (0, 0))) := ⟨(by rw [hw]; exact (by refine rK ?_; refine blk_put (cs := #[.int .i64 a0_0, .int .i64 a0_1, .int .i64 a0_2, .int .i64 a0_3, .slice A0_4 l0_4.length c0_4]) ?_ 4 _ rfl; refine rK ?_; exact BK534.out))⟩; have n2_ : Aside0 (w71.heap[gb535]? = some (.cells #[.int .i64 a0_0, .int .i64 a0_1, .int .i64 a0_2, .int .i64 a0_3, .slice A0_4 l0_4.length c0_4] 24 (0, 0))) := ⟨(by rw [hw]; exact (by refine rK ?_; refine blk_far ?_ NB535_534.out _; refine rK ?_; exact BK535.out))⟩; have n3_ : Aside0 (Below w.heap.size w w71) := ⟨(by rw [hw]; exact (uB HB))⟩; clear hw; clear BK531; clear BK534; clear BK535; clear HB; have BK531 := n0_; have BK534 := n1_; have BK535 := n2_; have HB := n3_; clear n0_ n1_ n2_ n3_; obtain ⟨q72_0, q72_1, q72_2, q72_3, q72_4⟩ := cA5 BK531; obtain ⟨f72_0, f72_1, f72_2, f72_3, f72_4⟩ := fA5 BK531; have q73 : (a1 : Int) ≤ ((l0_4.length : Int) : Int) := of_decide_eq_true gA; obtain ⟨i073, hi073, _, hsz73, _⟩ := info_parts info50; have hroom73 : l0_4.length ≤ c0_4 := HC0_4.out; have hC73 : Kd.C k50 _ A0_4 l0_4.length l0_4 := HR0_4.out; have q073 : (0 : Int) ≤ (a1 : Int) := of_decide_eq_true gA; have hcut73 := cut_from (P := Try.prog) 22 50 .i64 Try.underlying22 hi073 11 hsz73 A0_4 l0_4.length c0_4 a1 q073 q73; have hr73 := Kd.C_drop (m := (a1 : Int).toNat) (c := c0_4) hC73 (by omega) hroom73; obtain ⟨A73, hA73⟩ : ∃ A1, A1 = (if c0_4 = (a1 : Int).toNat then A0_4 else (A0_4 : Option Addr).map (·.add ((a1 : Int).toNat * 11))) := ⟨_, rfl⟩; obtain ⟨c73, hc73⟩ : ∃ c1, c1 = c0_4 - (a1 : Int).toNat := ⟨_, rfl⟩; have hy73 : y540.length = l0_4.length - (a1 : Int).toNat := (by rw [Ny540.out, List.length_drop] <;> omega); rw [show (l0_4).drop (a1 : Int).toNat = y540 from Ny540.out.symm] at hr73; replace hr73 : Kd.C k50 _ A73 y540.length y540 := (by rw [hA73]; exact hr73); rw [← hy73, ← hA73, ← hc73] at hcut73; have HR543 := Aside0.mk hr73; have HC543 := Aside0.mk (show y540.length ≤ c73 from by rw [hy73, hc73]; exact Nat.sub_le_sub_right hroom73 _); clear hr73 hC73 hroom73 hi073 hsz73 hc73; have KY73 := Aside0.mk hy73; have KA73 := Aside0.mk hA73; clear hy73 hA73; replace q73 := eq_true q73; obtain ⟨q74_0, q74_1, q74_2, q74_3, q74_4⟩ := cA5 BK535; obtain ⟨f74_0, f74_1, f74_2, f74_3, f74_4⟩ := fA5 BK535) | ((with_reducible refine gate_callee (f := 9) rfl ?_); refine gL (some 42) Try.func9 #[.agg #[.int .i64 a0_0, .int .i64 a0_1, .int .i64 a0_2, .int .i64 a0_3, .slice A0_4 l0_4.length c0_4]] ?_; (with_reducible refine (frame_Bytes.calls kj2 a0_0 a0_1 a0_2 a0_3 _ _ l0_4 t544 t547 _ ?side1 ?side2 A22.out).mono ?_); (case side1 => exact Kd.C_below HR0_4.out (uB HB)); (case side2 => exact HC0_4.out); rintro e w75 ⟨v545, rfl, ho0, hb⟩; refine ⟨_, rfl, ?_⟩; have HO546 := Aside0.mk (Kd.R_lower ho0 (below_size (uB HB))); replace BK531 := kc BK531 hb; replace BK534 := kc BK534 hb; replace BK535 := kc BK535 hb; replace HB := bs HB hb; (try clear hb); (try clear hb2); (try clear hk); (try clear hi); (try clear ho0); obtain ⟨q76_0, q76_1, q76_2, q76_3, q76_4⟩ := cA5 BK534; obtain ⟨f76_0, f76_1, f76_2, f76_3, f76_4⟩ := fA5 BK534) | ((with_reducible refine gate_callee (f := 9) rfl ?_); refine gL (some 47) Try.func9 #[.agg #[.int .i64 a0_0, .int .i64 a0_1, .int .i64 a0_2, .int .i64 a0_3, .slice A0_4 y536.length c0_4]] ?_; (with_reducible refine (frame_Bytes.calls kj2 a0_0 a0_1 a0_2 a0_3 _ _ y536 t548 t551 _ ?side1 ?side2 A23.out).mono ?_); (case side1 => repeat (first | exact (Kd.C_below HR539.out HB.out) | (with_reducible refine Kd.C_alloc ?_ _) | (with_reducible refine Kd.C_drewN ?_ _) | (with_reducible refine Kd.C_drew ?_))); (case side2 => exact HC539.out); rintro e w77 ⟨v549, rfl, ho0, hb⟩; refine ⟨_, rfl, ?_⟩; have HO550 := Aside0.mk (Kd.R_lower (Kd.R_new' ho0 (Kd.R_lt (uR HO546))) (below_size (uB HB))); replace HO546 := Aside0.mk (Kd.R_elder' (uR HO546) (Kd.R_base ho0) hb); replace BK531 := kb BK531 hb; replace BK534 := kb BK534 hb; replace BK535 := kb BK535 hb; replace HB := bs HB hb; (try clear hb); (try clear hb2); (try clear hk); (try clear hi); (try clear ho0); obtain ⟨q78_0, q78_1, q78_2, q78_3, q78_4⟩ := cA5 BK535; obtain ⟨f78_0, f78_1, f78_2, f78_3, f78_4⟩ := fA5 BK535) | ((with_reducible refine gate_callee (f := 9) rfl ?_); refine gL (some 52) Try.func9 #[.agg #[.int .i64 a0_0, .int .i64 a0_1, .int .i64 a0_2, .int .i64 a0_3, .slice A73 y540.length c73]] ?_; (with_reducible refine (frame_Bytes.calls kj2 a0_0 a0_1 a0_2 a0_3 _ _ y540 t552 t555 _ ?side1 ?side2 A24.out).mono ?_); (case side1 => repeat (first | exact (Kd.C_below HR543.out HB.out) | (with_reducible refine Kd.C_alloc ?_ _) | (with_reducible refine Kd.C_drewN ?_ _) | (with_reducible refine Kd.C_drew ?_))); (case side2 => exact HC543.out); rintro e w79 ⟨v553, rfl, ho0, hb⟩; refine ⟨_, rfl, ?_⟩; have HO554 := Aside0.mk (Kd.R_lower (Kd.R_new' (Kd.R_new' ho0 (Kd.R_lt (uR HO546))) (Kd.R_lt (uR HO550))) (below_size (uB HB))); replace HO546 := Aside0.mk (Kd.R_elder' (uR HO546) (Kd.R_base ho0) hb); replace HO550 := Aside0.mk (Kd.R_elder' (uR HO550) (Kd.R_base ho0) hb); replace BK531 := kb BK531 hb; replace BK534 := kb BK534 hb; replace BK535 := kb BK535 hb; replace HB := bs HB hb; (try clear hb); (try clear hb2); (try clear hk); (try clear hi); (try clear ho0)) | ((with_reducible refine gate_callee (f := 11) rfl ?_); refine gL (some 57) Try.func11 #[] ?_; (with_reducible refine (thalweglaw09_awake.calls kj2  true _ A56.out).mono ?_); rintro e w80 ⟨rfl, hb⟩; refine ⟨_, rfl, ?_⟩; replace HO546 := Aside0.mk (Kd.R_below (uR HO546) hb); replace HO550 := Aside0.mk (Kd.R_below (uR HO550) hb); replace HO554 := Aside0.mk (Kd.R_below (uR HO554) hb); replace BK531 := kb BK531 hb; replace BK534 := kb BK534 hb; replace BK535 := kb BK535 hb; replace HB := bs HB hb; (try clear hb); (try clear hb2); (try clear hk); (try clear hi); obtain ⟨Ao81, co81, eo81⟩ := Kd.R_slice HO546.out; subst eo81))
    go_ret
    exact ⟨gE, uB HB⟩
   replace c57 := Bool.eq_false_iff.mpr c57
   subst c57
   rw [if_neg (show ¬ (false = true) by decide)] at H
   exact absurd H (by simp)
end Go.Proofs.Ytpgmmnlkiogamaa.P
namespace Go.Proofs.Ytpgmmnlkiogamaa.P
open Go.RowKit YtpgmmnlkiogamaaW.PrintWords
def thalweglaw09_FrameParts.Pure : Prop := ∀ (x0 : S24) (a1 : Int), ((Lit.int .i64 x0.f0).wf = true ∧ (Lit.int .i64 x0.f1).wf = true ∧ (Lit.int .i64 x0.f2).wf = true ∧ (Lit.int .i64 x0.f3).wf = true ∧ (x0.f4.length ≤ maxLen ∧ ∀ x0_ ∈ x0.f4, ((Lit.int .i64 x0_.f0).wf = true ∧ ((Lit.int .i64 x0_.f1.f0).wf = true ∧ (x0_.f1.f1.length ≤ maxLen ∧ ∀ x1_ ∈ x0_.f1.f1, ((Lit.int .i64 x1_.f0).wf = true ∧ (Lit.int .i64 x1_.f1).wf = true))) ∧ ((Lit.int .i64 x0_.f2.f0).wf = true ∧ (x0_.f2.f1.length ≤ maxLen ∧ ∀ x1_ ∈ x0_.f2.f1, ((Lit.int .i64 x1_.f0).wf = true ∧ (Lit.int .i64 x1_.f1).wf = true ∧ (True ∧ (Lit.int .i64 x1_.f2.f1).wf = true ∧ (Lit.int .i64 x1_.f2.f2).wf = true ∧ (Lit.int .i64 x1_.f2.f3).wf = true ∧ (Lit.int .i64 x1_.f2.f4).wf = true ∧ (Lit.int .i64 x1_.f2.f5).wf = true) ∧ ((Lit.int .i64 x1_.f3.f0).wf = true ∧ (Lit.int .i64 x1_.f3.f1).wf = true ∧ (Lit.int .i64 x1_.f3.f2).wf = true) ∧ (Lit.int .i64 x1_.f4).wf = true))) ∧ (x0_.f3.length ≤ maxLen ∧ ∀ x1_ ∈ x0_.f3, ((Lit.int .i64 x1_.f0).wf = true ∧ (Lit.int .i64 x1_.f1).wf = true ∧ (Lit.int .i64 x1_.f2).wf = true ∧ (Lit.int .i64 x1_.f3).wf = true)) ∧ ((Lit.int .i64 x0_.f4.f0).wf = true ∧ (Lit.int .i64 x0_.f4.f1).wf = true ∧ (Lit.int .i64 x0_.f4.f2).wf = true ∧ (Lit.int .i64 x0_.f4.f3).wf = true ∧ x0_.f4.f4.size ≤ maxLen)))) → (Lit.int .i64 a1).wf = true → ∃ k, thalweglaw09_FrameParts.f k x0.f0 x0.f1 x0.f2 x0.f3 x0.f4 a1 = some true
end Go.Proofs.Ytpgmmnlkiogamaa.P
namespace Go.Proofs.Ytpgmmnlkiogamaa.P
open Go.RowKit YtpgmmnlkiogamaaW.PrintWords YtpgmmnlkiogamaaW.PrintLast YtpgmmnlkiogamaaW.PrintMore
open Classical
theorem boolq {p q : Prop} [Decidable p] [Decidable q] (h : p ↔ q) : (decide p) = (decide q) := by
 by_cases hp : p
 ·rw [decide_eq_true hp, decide_eq_true (h.mp hp)]
 ·rw [decide_eq_false hp, decide_eq_false (fun hq => hp (h.mpr hq))]
def EpR (n : Int) : Prop := 0 ≤ n ∧ n ≤ 4294967295
theorem bepoch_eq (n : Int) : beacon_epoch.f n = some (decide (EpR n)) := by
 unfold beacon_epoch.f
 by_cases h : n ≥ 0
 ·rw [if_pos h]
  exact congrArg some (boolq (q := EpR n) ⟨fun g => ⟨h, g⟩, fun g => g.2⟩)
 ·rw [if_neg h, decide_eq_false (p := EpR n) (fun g => h g.1)]
def AtR (Y : List S101) (i : Int) : Prop := 0 ≤ (rd_T101 Y i).f0 ∧ (rd_T101 Y i).f0 < 64 ∧ EpR (rd_T101 Y i).f1 ∧ (i = 0 ∨ (rd_T101 Y (i - 1)).f0 < (rd_T101 Y i).f0)
def RBn (n : Int) (Y : List S101) : Prop := EpR n ∧ ∀ i : Int, 0 ≤ i → i < Y.length → AtR Y i
def rbB (n : Int) (Y : List S101) : Bool := decide (0 ≤ n) && decide (n ≤ 4294967295) && (List.range Y.length).all fun i => decide (0 ≤ (rd_T101 Y i).f0) && decide ((rd_T101 Y i).f0 < 64) && decide (0 ≤ (rd_T101 Y i).f1) && decide ((rd_T101 Y i).f1 ≤ 4294967295) && (decide ((i : Int) = 0) || decide ((rd_T101 Y ((i : Int) - 1)).f0 < (rd_T101 Y i).f0))
theorem rbB_iff (n : Int) (Y : List S101) : rbB n Y = true ↔ RBn n Y := by
 unfold rbB RBn AtR EpR
 simp only [Bool.and_eq_true, Bool.or_eq_true, decide_eq_true_eq, List.all_eq_true, List.mem_range]
 constructor
 ·rintro ⟨⟨h0, h1⟩, h⟩
  refine ⟨⟨h0, h1⟩, fun i hi hl => ?_⟩
  obtain ⟨k, rfl⟩ := Int.eq_ofNat_of_zero_le hi
  obtain ⟨⟨⟨⟨a, b⟩, c⟩, d⟩, e⟩ := h k (by omega)
  exact ⟨a, b, ⟨c, d⟩, e⟩
 ·rintro ⟨⟨h0, h1⟩, h⟩
  refine ⟨⟨h0, h1⟩, fun k hk => ?_⟩
  obtain ⟨a, b, ⟨c, d⟩, e⟩ := h k (by omega) (by omega)
  exact ⟨⟨⟨⟨a, b⟩, c⟩, d⟩, e⟩
instance (n : Int) (Y : List S101) : Decidable (RBn n Y) := decidable_of_iff (rbB n Y = true) (rbB_iff n Y)
theorem from_next {Y : List S101} {i : Int} (h0 : 0 ≤ i) (hi : i < Y.length) : (∀ j : Int, i ≤ j → j < Y.length → AtR Y j) ↔ AtR Y i ∧ ∀ j : Int, i + 1 ≤ j → j < Y.length → AtR Y j := by
 constructor
 ·intro h; exact ⟨h i (Int.le_refl _) hi, fun j h1 h2 => h j (by omega) h2⟩
 ·rintro ⟨h, g⟩ j h1 h2
  by_cases e : j = i
  ·rw [e]; exact h
  ·exact g j (by omega) h2
def OkFrom (p : Prop) (Y : List S101) (i : Int) : Prop := p ∧ ∀ j : Int, i ≤ j → j < Y.length → AtR Y j
theorem bnc_l0 (n : Int) (Y : List S101) (hl : Y.length ≤ 1000000000000) : ∀ (m : Nat) (ok : Bool) (i : Int), 0 ≤ i → i + m = Y.length → Ev (fun k => beacon_Check.l0 k ok Y (Y.length : Int) i n Y) (if OkFrom (ok = true) Y i then 0 else 1) := by
 intro m
 induction m with
 | zero =>
  intro ok i h0 hi
  refine Ev.step (f := fun k => _) (fun k => by simp only [beacon_Check.l0]; rfl) ?_
  simp only [if_neg (show ¬ i < (Y.length : Int) by omega)]
  by_cases c : ok = true
  ·simp only [if_pos c, if_pos (show OkFrom (ok = true) Y i from ⟨c, fun j h1 h2 => absurd h2 (by omega)⟩)]
   exact Ev.now _
  ·simp only [if_neg c, if_neg (show ¬ OkFrom (ok = true) Y i from fun h => c h.1)]
   exact Ev.now _
 | succ m ih =>
  intro ok i h0 hi
  have hlt : i < (Y.length : Int) := by omega
  have key : ∀ b : Bool, (b = true ↔ ok = true ∧ AtR Y i) → Ev (fun k => beacon_Check.l0 k b Y (Y.length : Int) (i + 1) n Y) (if OkFrom (ok = true) Y i then 0 else 1) := by
   intro b hb
   have h := ih b (i + 1) (by omega) (by omega)
   have e : OkFrom (b = true) Y (i + 1) ↔ OkFrom (ok = true) Y i := by
    unfold OkFrom
    rw [hb, from_next h0 hlt, and_assoc]
   simp only [e] at h
   exact h
  have no : ¬ (ok = true ∧ AtR Y i) → Ev (fun k => beacon_Check.l0 k false Y (Y.length : Int) (i + 1) n Y) (if OkFrom (ok = true) Y i then 0 else 1) := fun h => key false ⟨fun g => (by simp at g), fun g => absurd g h⟩
  refine Ev.step (f := fun k => _) (fun k => by simp only [beacon_Check.l0]; rfl) ?_
  simp only [if_pos hlt, if_pos h0, bepoch_eq, Option.bind_some, w64 (x := i + 1) (by omega) (by omega), w64 (x := i - 1) (by omega) (by omega)]
  by_cases c : ok = true
  rotate_left
  ·simp only [if_neg c]; exact no (fun g => c g.1)
  simp only [if_pos c]
  by_cases c1 : (rd_T101 Y i).f0 ≥ 0
  rotate_left
  ·simp only [if_neg c1]; exact no (fun g => c1 g.2.1)
  simp only [if_pos c1]
  by_cases c2 : (rd_T101 Y i).f0 < 64
  rotate_left
  ·simp only [if_neg c2]; exact no (fun g => c2 g.2.2.1)
  simp only [if_pos c2]
  by_cases c3 : EpR (rd_T101 Y i).f1
  rotate_left
  ·simp only [decide_eq_false c3, Bool.false_eq_true, if_false]; exact no (fun g => c3 g.2.2.2.1)
  simp only [decide_eq_true c3, if_true]
  by_cases c4 : i = 0
  ·simp only [if_pos c4]
   exact key true ⟨fun _ => ⟨c, c1, c2, c3, .inl c4⟩, fun _ => rfl⟩
  ·simp only [if_neg c4, if_pos (show 0 ≤ i - 1 by omega), if_pos (show i - 1 < (Y.length : Int) by omega)]
   refine key _ ⟨fun g => ⟨c, c1, c2, c3, .inr (of_decide_eq_true g)⟩, fun g => decide_eq_true ?_⟩
   rcases g.2.2.2.2 with g | g
   ·exact absurd g c4
   ·exact g
theorem bncheck_ev (n : Int) (Y : List S101) (hl : Y.length ≤ 1000000000000) : Ev (fun k => beacon_Check.f k n Y) (if RBn n Y then 0 else 1) := by
 unfold beacon_Check.f
 simp only [bepoch_eq, Option.bind_some]
 have h := bnc_l0 n Y hl Y.length (decide (EpR n)) 0 (by omega) (by omega)
 have e : OkFrom (decide (EpR n) = true) Y 0 ↔ RBn n Y := by
  unfold OkFrom
  rw [decide_eq_true_iff]; rfl
 simp only [e] at h
 exact h
theorem bwf64 {n : Int} (h0 : -9223372036854775808 ≤ n) (h1 : n ≤ 9223372036854775807) : (Lit.int .i64 n).wf = true := by
 simp [Lit.wf, IntKind.min, IntKind.max, IntKind.bits, IntKind.signed]
 omega
theorem bput4 {v : Int} (h : EpR v) : wire_Put.f v 4 = some (be 4 v, 0) := by
 have h0 := h.1
 have h1 := h.2
 rw [wire_Put_eq v 4 (bwf64 (by omega) (by omega))]
 unfold putSpec
 rw [if_pos ⟨by omega, by omega, h0, by rw [show (4 : Int).toNat = 4 from rfl, show (256 : Int) ^ 4 = 4294967296 by decide]; omega⟩]
 rfl
def EB (o : S101) : List Int := [o.f0 % 256] ++ be 4 o.f1
theorem EB_length (o : S101) : (EB o).length = 5 := by unfold EB; rw [List.length_append, be_length]; rfl
def bnB (n : Int) (Y : List S101) : List Int := be 4 n ++ ([(Y.length : Int) % 256] ++ Y.flatMap EB)
theorem EBs_length (Y : List S101) : (Y.flatMap EB).length = 5 * Y.length := by
 induction Y with
 | nil => rfl
 | cons o Y ih => rw [List.flatMap_cons, List.length_append, EB_length, ih, List.length_cons]; omega
theorem bnB_length (n : Int) (Y : List S101) : (bnB n Y).length = 5 + 5 * Y.length := by
 unfold bnB
 rw [List.length_append, List.length_append, be_length, EBs_length, List.length_singleton]
 omega
theorem bnB_bytes (n : Int) (Y : List S101) : Bytes (bnB n Y) := by
 intro x hx
 unfold bnB at hx
 rcases List.mem_append.1 hx with hx | hx
 ·exact be_bytes _ _ x hx
 rcases List.mem_append.1 hx with hx | hx
 ·rw [List.mem_singleton] at hx; omega
 ·obtain ⟨o, _, ho⟩ := List.mem_flatMap.1 hx
  unfold EB at ho
  rcases List.mem_append.1 ho with ho | ho
  ·rw [List.mem_singleton] at ho; omega
  ·exact be_bytes _ _ x ho
theorem ec_get (l : List S101) (i : Int) (h0 : 0 ≤ i) (h1 : i < l.length) : l.drop i.toNat = rd_T101 l i :: l.drop (i + 1).toNat := by
 have hi : i.toNat < l.length := by omega
 rw [List.drop_eq_getElem_cons hi, show (i + 1).toNat = i.toNat + 1 by omega]
 congr 1
 unfold rd_T101
 rw [List.getD_eq_getElem?_getD, List.getElem?_eq_getElem hi]
 rfl
theorem bnbytes_l0 (n : Int) (Y : List S101) (hl : Y.length ≤ 1000000) (hr : RBn n Y) : ∀ (d : Nat) (i : Int) (acc : List Int), 0 ≤ i → (Y.length : Int) - i = d → (acc.length : Int) ≤ 5 + 5 * i → Ev (fun k => beacon_Bytes.l0 k acc Y (Y.length : Int) i) (acc ++ (Y.drop i.toNat).flatMap EB, 0) := by
 intro d
 induction d with
 | zero =>
  intro i acc h0 hd ha
  refine Ev.from 1 fun k => ?_
  simp only [beacon_Bytes.l0]
  rw [if_neg (by omega), List.drop_eq_nil_of_le (by omega)]
  simp
 | succ d ih =>
  intro i acc h0 hd ha
  have h1 : i < (Y.length : Int) := by omega
  have hat := hr.2 i h0 h1
  refine Ev.step (f := fun k => _) (fun k => by simp only [beacon_Bytes.l0]; rfl) ?_
  rw [ec_get Y i h0 h1, List.flatMap_cons, ← List.append_assoc]
  simp only [if_pos h1, if_pos h0, bput4 hat.2.2.1, Option.bind_some, if_pos (show acc.length < 140737488355328 by omega), w64 (x := i + 1) (by omega) (by omega)]
  have e : acc ++ [(rd_T101 Y i).f0 % 256] ++ be 4 (rd_T101 Y i).f1 = acc ++ EB (rd_T101 Y i) := by unfold EB; rw [List.append_assoc]
  have hq : (acc ++ [(rd_T101 Y i).f0 % 256]).length + (be 4 (rd_T101 Y i).f1).length < 140737488355328 := by rw [List.length_append, List.length_singleton, be_length]; omega
  simp only [if_pos hq, e]
  exact ih (i + 1) _ (by omega) (by omega) (by rw [List.length_append, EB_length]; omega)
theorem bnbytes_ev (n : Int) (Y : List S101) (hl : Y.length ≤ 1000000) (h : RBn n Y) : Ev (fun k => beacon_Bytes.f k n Y) (bnB n Y, 0) := by
 have hc := bncheck_ev n Y (by omega)
 rw [if_pos h] at hc
 unfold beacon_Bytes.f
 refine Ev.bind hc ?_
 simp only [if_true, bput4 h.1, Option.bind_some]
 simp only [if_pos (show (be 4 n).length < 140737488355328 by rw [be_length]; omega)]
 have := bnbytes_l0 n Y hl h Y.length 0 (be 4 n ++ [(Y.length : Int) % 256]) (by omega) (by omega) (by rw [List.length_append, be_length, List.length_singleton]; omega)
 simpa [bnB] using this
theorem bnbytes_no (n : Int) (Y : List S101) (hl : Y.length ≤ 1000000) (h : ¬ RBn n Y) : Ev (fun k => beacon_Bytes.f k n Y) ([], 1) := by
 have hc := bncheck_ev n Y (by omega)
 rw [if_neg h] at hc
 unfold beacon_Bytes.f
 refine Ev.bind hc ?_
 simp only [if_neg (show ¬ (1 : Int) = 0 by decide)]
 exact Ev.now _
end Go.Proofs.Ytpgmmnlkiogamaa.P
namespace Go.Proofs.Ytpgmmnlkiogamaa.P
open Go.RowKit YtpgmmnlkiogamaaW.PrintWords YtpgmmnlkiogamaaW.PrintLast YtpgmmnlkiogamaaW.PrintMore
def hB (n : Bool) (a b c d e : Int) : List Int := if n = true then [0, e % 256] else [1] ++ intSpec a ++ [b % 256, c % 256] ++ intSpec d ++ [e % 256]
theorem hB_length (n : Bool) (a b c d e : Int) : (hB n a b c d e).length = if n = true then 2 else 20 := by
 unfold hB
 cases n
 ·simp only [Bool.false_eq_true, if_false, List.length_append, intSpec_length, List.length_cons, List.length_nil]
 ·rfl
theorem hb_eq (n : Bool) (a b c d e : Int) (h : RH n a b c d e) : Ev (fun k => height_Bytes.f k n a b c d e) (hB n a b c d e, 0) := by
 have hc := hc_eq n a b c d e
 rw [if_pos h] at hc
 unfold height_Bytes.f hB
 refine Ev.bind hc ?_
 cases n with
 | true =>
  simp only [if_true, List.length_nil, List.nil_append, Option.bind_some, List.length_singleton]
  simp only [show (0 : Nat) < 140737488355328 by decide, show (1 : Nat) < 140737488355328 by decide, if_true]
  exact Ev.now _
 | false =>
  simp only [if_true, Bool.false_eq_true, if_false, List.length_nil, List.nil_append, Option.bind_some, List.length_singleton, wire_Int_eq, List.length_append, intSpec_length, List.length_cons]
  simp only [show (0 : Nat) < 140737488355328 by decide, Nat.reduceAdd, Nat.reduceLT, if_true]
  exact Ev.now _
def oB (a0 a1 : Int) (a2 : Bool) (a3 a4 a5 a6 a7 a8 a9 a10 a11 : Int) : List Int :=
 [a0 % 256, a1 % 256] ++ (if a0 = 1 then [] else if a0 = 3 then intSpec a8 ++ [a9 % 256, a10 % 256] else if a0 = 4 then hB a2 a3 a4 a5 a6 a7 ++ [a11 / 256 % 256, a11 % 256] else hB a2 a3 a4 a5 a6 a7)
theorem obx (a0 a1 : Int) (a2 : Bool) (a3 a4 a5 a6 a7 a8 a9 a10 a11 : Int) (h : RO a0 a1 a2 a3 a4 a5 a6 a7 a8 a9 a10 a11) :
  Ev (fun k => object_Bytes.f k a0 a1 a2 a3 a4 a5 a6 a7 a8 a9 a10 a11) (oB a0 a1 a2 a3 a4 a5 a6 a7 a8 a9 a10 a11, 0) := by
 have hc := oc_eq a0 a1 a2 a3 a4 a5 a6 a7 a8 a9 a10 a11
 rw [if_pos h] at hc
 unfold object_Bytes.f
 refine Ev.bind hc ?_
 simp only [if_true, Option.bind_some]
 rcases h.2 with ⟨rfl, _⟩ | ⟨rfl, _, _, hh⟩ | ⟨rfl, _⟩ | ⟨rfl, _, _, _, hh, rfl⟩
 ·simp only [if_neg (show ¬ (1 : Int) = 2 by decide), show ((1 : Int) == 4) = false by decide]
  refine Ev.step (f := fun k => _) (fun k => by simp only [object_Bytes.j0]; rfl) ?_
  simp only [Bool.false_eq_true, if_false, if_neg (show ¬ (1 : Int) = 3 by decide), if_neg (show ¬ (1 : Int) = 4 by decide)]
  exact Ev.now _
 ·simp only [show ((2 : Int) == 2) = true by decide, if_true]
  refine Ev.step (f := fun k => _) (fun k => by simp only [object_Bytes.j0]; rfl) ?_
  simp only [if_true]
  refine Ev.bind (hb_eq _ _ _ _ _ _ hh) ?_
  have hl := hB_length a2 a3 a4 a5 a6 a7
  have : [2 % 256, a1 % 256].length + (hB a2 a3 a4 a5 a6 a7).length < 140737488355328 := by rw [hl]; simp; split <;> omega
  simp only [if_true, if_pos this, Option.bind_some, if_neg (show ¬ (2 : Int) = 4 by decide)]
  exact Ev.now _
 ·simp only [if_neg (show ¬ (3 : Int) = 2 by decide), show ((3 : Int) == 4) = false by decide]
  refine Ev.step (f := fun k => _) (fun k => by simp only [object_Bytes.j0]; rfl) ?_
  simp only [Bool.false_eq_true, if_false, if_true, wire_Int_eq, Option.bind_some, List.length_append, intSpec_length, List.length_cons, List.length_nil, Nat.reduceAdd, Nat.reduceLT, if_neg (show ¬ (3 : Int) = 4 by decide)]
  refine ev_eq (Ev.now _) ?_
  unfold oB
  rw [if_neg (show ¬ (3 : Int) = 1 by decide), if_pos rfl, List.append_assoc]
 ·simp only [if_neg (show ¬ (4 : Int) = 2 by decide), show ((4 : Int) == 4) = true by decide]
  refine Ev.step (f := fun k => _) (fun k => by simp only [object_Bytes.j0]; rfl) ?_
  simp only [if_true]
  refine Ev.bind (hb_eq _ _ _ _ _ _ hh) ?_
  have h20 : (hB false a3 a4 a5 a6 a7).length = 20 := by rw [hB_length]; rfl
  simp only [List.length_append, List.length_cons, List.length_nil, h20, Nat.reduceAdd, Nat.reduceLT, if_true, Option.bind_some]
  refine ev_eq (Ev.now _) ?_
  unfold oB
  rw [if_neg (show ¬ (4 : Int) = 1 by decide), if_neg (show ¬ (4 : Int) = 3 by decide), if_pos rfl, List.append_assoc]
theorem obn (a0 a1 : Int) (a2 : Bool) (a3 a4 a5 a6 a7 a8 a9 a10 a11 : Int) (h : ¬ RO a0 a1 a2 a3 a4 a5 a6 a7 a8 a9 a10 a11) :
  Ev (fun k => object_Bytes.f k a0 a1 a2 a3 a4 a5 a6 a7 a8 a9 a10 a11) ([], 1) := by
 have hc := oc_eq a0 a1 a2 a3 a4 a5 a6 a7 a8 a9 a10 a11
 rw [if_neg h] at hc
 exact ob_no _ _ _ _ _ _ _ _ _ _ _ _ _ hc (by decide)
theorem oB_bytes (a0 a1 : Int) (a2 : Bool) (a3 a4 a5 a6 a7 a8 a9 a10 a11 : Int) : Bytes (oB a0 a1 a2 a3 a4 a5 a6 a7 a8 a9 a10 a11) := by
 have hm : ∀ x : Int, 0 ≤ x % 256 ∧ x % 256 ≤ 255 := fun x => by omega
 have hi : ∀ v, Bytes (intSpec v) := fun v => be_bytes _ _
 have hh : Bytes (hB a2 a3 a4 a5 a6 a7) := by
  unfold hB
  intro x hx
  split at hx
  ·simp only [List.mem_cons, List.not_mem_nil, or_false] at hx
   rcases hx with rfl | rfl
   ·exact ⟨by decide, by decide⟩
   ·exact hm _
  ·simp only [List.mem_append, List.mem_cons, List.not_mem_nil, or_false] at hx
   rcases hx with (((rfl | hx) | rfl | rfl) | hx) | rfl
   ·exact ⟨by decide, by decide⟩
   ·exact hi _ _ hx
   ·exact hm _
   ·exact hm _
   ·exact hi _ _ hx
   ·exact hm _
 unfold oB
 intro x hx
 rw [List.mem_append] at hx
 rcases hx with hx | hx
 ·simp only [List.mem_cons, List.not_mem_nil, or_false] at hx
  rcases hx with rfl | rfl <;> exact hm _
 ·split at hx
  ·cases hx
  ·split at hx
   ·simp only [List.mem_append, List.mem_cons, List.not_mem_nil, or_false] at hx
    rcases hx with hx | rfl | rfl
    ·exact hi _ _ hx
    ·exact hm _
    ·exact hm _
   ·split at hx
    ·simp only [List.mem_append, List.mem_cons, List.not_mem_nil, or_false] at hx
     rcases hx with hx | rfl | rfl
     ·exact hh _ hx
     ·exact hm _
     ·exact hm _
    ·exact hh _ hx
end Go.Proofs.Ytpgmmnlkiogamaa.P
namespace Go.Proofs.Ytpgmmnlkiogamaa.P
open Go.RowKit YtpgmmnlkiogamaaW.PrintWords YtpgmmnlkiogamaaW.PrintLast YtpgmmnlkiogamaaW.PrintMore
open Classical
theorem bool_same0' {p q : Prop} [Decidable p] [Decidable q] (h : p ↔ q) : (decide p) = (decide q) := by
 by_cases hp : p
 ·rw [decide_eq_true hp, decide_eq_true (h.mp hp)]
 ·rw [decide_eq_false hp, decide_eq_false (fun hq => hp (h.mpr hq))]
def OR (o : S62) : Prop := RO o.f0 o.f1 o.f2.f0 o.f2.f1 o.f2.f2 o.f2.f3 o.f2.f4 o.f2.f5 o.f3.f0 o.f3.f1 o.f3.f2 o.f4
def OB (o : S62) : List Int := oB o.f0 o.f1 o.f2.f0 o.f2.f1 o.f2.f2 o.f2.f3 o.f2.f4 o.f2.f5 o.f3.f0 o.f3.f1 o.f3.f2 o.f4
noncomputable def sz (o : S62) : Int := if OR o then ((OB o).length : Int) else 0
theorem sz_yes {o : S62} (h : OR o) : sz o = ((OB o).length : Int) := if_pos h
theorem sz_no {o : S62} (h : ¬ OR o) : sz o = 0 := if_neg h
theorem OB_length (o : S62) : 2 ≤ (OB o).length ∧ (OB o).length ≤ 24 := by
 unfold OB oB
 rw [List.length_append]
 have h := hB_length o.f2.f0 o.f2.f1 o.f2.f2 o.f2.f3 o.f2.f4 o.f2.f5
 have h2 : (hB o.f2.f0 o.f2.f1 o.f2.f2 o.f2.f3 o.f2.f4 o.f2.f5).length ≤ 20 := by rw [h]; split <;> omega
 simp only [List.length_cons, List.length_nil]
 split
 ·simp
 split
 ·simp [intSpec_length]
 split
 ·simp only [List.length_append, List.length_cons, List.length_nil]; omega
 ·omega
theorem sz_range (o : S62) : 0 ≤ sz o ∧ sz o ≤ 24 := by
 have := OB_length o
 by_cases h : OR o
 ·rw [sz_yes h]; omega
 ·rw [sz_no h]; omega
noncomputable def sums (l : List S62) : Int := (l.map sz).sum
theorem sums_nil : sums [] = 0 := rfl
theorem sums_cons (o : S62) (l : List S62) : sums (o :: l) = sz o + sums l := by simp [sums]
def Rights (l : List S62) : Prop := ∀ o ∈ l, OR o
theorem obs_get (l : List S62) (i : Int) (h0 : 0 ≤ i) (h1 : i < l.length) : l.drop i.toNat = rd_T62 l i :: l.drop (i + 1).toNat := by
 have hi : i.toNat < l.length := by omega
 rw [List.drop_eq_getElem_cons hi, show (i + 1).toNat = i.toNat + 1 by omega]
 congr 1
 unfold rd_T62
 rw [List.getD_eq_getElem?_getD, List.getElem?_eq_getElem hi]
 rfl
theorem obs_mem (l : List S62) (i : Int) (h0 : 0 ≤ i) (h1 : i < l.length) : rd_T62 l i ∈ l := by
 have := List.mem_of_mem_drop (l := l) (i := i.toNat) (a := rd_T62 l i) (by rw [obs_get l i h0 h1]; exact List.mem_cons_self)
 exact this
theorem size_ev (o : S62) : Ev (fun k => object_Size.f k o.f0 o.f1 o.f2.f0 o.f2.f1 o.f2.f2 o.f2.f3 o.f2.f4 o.f2.f5 o.f3.f0 o.f3.f1 o.f3.f2 o.f4) (sz o) := by
 by_cases h : OR o
 ·rw [sz_yes h]
  exact os_ev _ _ _ _ _ _ _ _ _ _ _ _ _ (obx _ _ _ _ _ _ _ _ _ _ _ _ h)
 ·rw [sz_no h]
  exact os_ev _ _ _ _ _ _ _ _ _ _ _ _ _ (obn _ _ _ _ _ _ _ _ _ _ _ _ h)
theorem wrong_ev (o : S62) : Ev (fun k => batch_wrong.f k o.f0 o.f1 o.f2.f0 o.f2.f1 o.f2.f2 o.f2.f3 o.f2.f4 o.f2.f5 o.f3.f0 o.f3.f1 o.f3.f2 o.f4) (decide (¬ OR o)) := by
 unfold batch_wrong.f
 by_cases h : OR o
 ·have hc := oc_eq o.f0 o.f1 o.f2.f0 o.f2.f1 o.f2.f2 o.f2.f3 o.f2.f4 o.f2.f5 o.f3.f0 o.f3.f1 o.f3.f2 o.f4
  rw [if_pos (show RO _ _ _ _ _ _ _ _ _ _ _ _ from h)] at hc
  refine Ev.bind hc (ev_eq (Ev.now _) ?_)
  rw [decide_eq_false (fun g => g h)]
  rfl
 ·have hc := oc_eq o.f0 o.f1 o.f2.f0 o.f2.f1 o.f2.f2 o.f2.f3 o.f2.f4 o.f2.f5 o.f3.f0 o.f3.f1 o.f3.f2 o.f4
  rw [if_neg (show ¬ RO _ _ _ _ _ _ _ _ _ _ _ _ from h)] at hc
  refine Ev.bind hc (ev_eq (Ev.now _) ?_)
  rw [decide_eq_true h]
  rfl
theorem index_l0 (l : List S62) (hn : l.length ≤ 100000) : ∀ (d : Nat) (i : Int), 0 ≤ i → (l.length : Int) - i = d → ∃ r : Int, Ev (fun k => api_Object_89.l0 k l (l.length : Int) i) r ∧ (r ≥ 0 ↔ ¬ Rights (l.drop i.toNat)) := by
 intro d
 induction d with
 | zero =>
  intro i h0 hd
  refine ⟨-1, Ev.from 1 fun k => ?_, ?_⟩
  ·simp only [api_Object_89.l0]
   rw [if_neg (by omega)]
  ·rw [List.drop_eq_nil_of_le (by omega)]
   constructor
   ·intro h; omega
   ·intro h; exact absurd (fun o ho => by cases ho) h
 | succ d ih =>
  intro i h0 hd
  have h1 : i < (l.length : Int) := by omega
  rw [obs_get l i h0 h1]
  by_cases h : OR (rd_T62 l i)
  ·obtain ⟨r, hr, hi⟩ := ih (i + 1) (by omega) (by omega)
   refine ⟨r, ?_, ?_⟩
   ·refine Ev.step (f := fun k => _) (fun k => by simp only [api_Object_89.l0]; rfl) ?_
    simp only [if_pos h1, if_pos h0]
    refine Ev.bind (wrong_ev (rd_T62 l i)) ?_
    simp only [decide_eq_false (fun g : ¬ OR (rd_T62 l i) => g h), Bool.false_eq_true, if_false, w64 (x := i + 1) (by omega) (by omega)]
    exact hr
   ·rw [hi]
    constructor
    ·intro g g2; exact g fun o ho => g2 o (List.mem_cons_of_mem _ ho)
    ·intro g g2
     refine g fun o ho => ?_
     rcases List.mem_cons.1 ho with rfl | ho
     ·exact h
     ·exact g2 o ho
  ·refine ⟨i, ?_, ?_⟩
   ·refine Ev.step (f := fun k => _) (fun k => by simp only [api_Object_89.l0]; rfl) ?_
    simp only [if_pos h1, if_pos h0]
    refine Ev.bind (wrong_ev (rd_T62 l i)) ?_
    simp only [decide_eq_true h, if_true]
    exact Ev.now _
   ·exact ⟨fun _ g => h (g _ List.mem_cons_self), fun _ => h0⟩
theorem contains_ev (l : List S62) (hn : l.length ≤ 100000) : Ev (fun k => api_Object_72.f k l) (decide (¬ Rights l)) := by
 obtain ⟨r, hr, hi⟩ := index_l0 l hn l.length 0 (by omega) (by omega)
 unfold api_Object_72.f
 refine Ev.bind (show Ev (fun k => api_Object_89.f k l) r from hr) (ev_eq (Ev.now _) ?_)
 exact bool_same0' hi
theorem bsize_l0 (l : List S62) (hn : l.length ≤ 100000) : ∀ (d : Nat) (i acc : Int), 0 ≤ i → (l.length : Int) - i = d → 0 ≤ acc → acc ≤ 3 + 24 * i → Ev (fun k => batch_size.l0 k acc l (l.length : Int) i) (acc + sums (l.drop i.toNat)) := by
 intro d
 induction d with
 | zero =>
  intro i acc h0 hd ha hb
  refine Ev.from 1 fun k => ?_
  simp only [batch_size.l0]
  rw [if_neg (by omega), List.drop_eq_nil_of_le (by omega), sums_nil, Int.add_zero]
 | succ d ih =>
  intro i acc h0 hd ha hb
  have h1 : i < (l.length : Int) := by omega
  have hz := sz_range (rd_T62 l i)
  refine Ev.step (f := fun k => _) (fun k => by simp only [batch_size.l0]; rfl) ?_
  rw [obs_get l i h0 h1, sums_cons, ← Int.add_assoc]
  simp only [if_pos h1, if_pos h0]
  refine Ev.bind (size_ev (rd_T62 l i)) ?_
  simp only [w64 (x := acc + sz (rd_T62 l i)) (by omega) (by omega), w64 (x := i + 1) (by omega) (by omega)]
  exact ih (i + 1) _ (by omega) (by omega) (by omega) (by omega)
theorem bsize_ev (l : List S62) (hn : l.length ≤ 100000) : Ev (fun k => batch_size.f k l) (3 + sums l) := by
 unfold batch_size.f
 exact bsize_l0 l hn l.length 0 3 (by omega) (by omega) (by omega) (by omega)
def RB (a : Int) (l : List S62) : Prop := (0 ≤ a ∧ a ≤ 65535) ∧ (1 ≤ l.length ∧ l.length ≤ 32) ∧ Rights l ∧ 3 + sums l ≤ 512
theorem bcheck_ev (a : Int) (l : List S62) : Ev (fun k => batch_Check.f k a l) (if RB a l then 0 else 1) := by
 unfold batch_Check.f
 by_cases h1 : a < 0
 ·simp only [if_pos h1, if_neg (show ¬ RB a l from fun h => by have := h.1; omega)]; exact Ev.now _
 by_cases h2 : a > 65535
 ·simp only [if_neg h1, if_pos h2, if_neg (show ¬ RB a l from fun h => by have := h.1; omega)]; exact Ev.now _
 by_cases h3 : (l.length : Int) = 0
 ·simp only [if_neg h1, if_neg h2, if_pos h3, if_neg (show ¬ RB a l from fun h => by have := h.2.1; omega)]; exact Ev.now _
 by_cases h4 : (l.length : Int) > 32
 ·simp only [if_neg h1, if_neg h2, if_neg h3, if_pos h4, if_neg (show ¬ RB a l from fun h => by have := h.2.1; omega)]; exact Ev.now _
 simp only [if_neg h1, if_neg h2, if_neg h3, if_neg h4]
 refine Ev.bind (contains_ev l (by omega)) ?_
 by_cases h5 : Rights l
 ·simp only [decide_eq_false (fun g : ¬ Rights l => g h5), Bool.false_eq_true, if_false]
  refine Ev.bind (bsize_ev l (by omega)) ?_
  by_cases h6 : 3 + sums l > 512
  ·simp only [if_pos h6, if_neg (show ¬ RB a l from fun h => by have := h.2.2.2; omega)]; exact Ev.now _
  ·simp only [if_neg h6, if_pos (show RB a l from ⟨by omega, by omega, h5, by omega⟩)]; exact Ev.now _
 ·simp only [decide_eq_true h5, if_true, if_neg (show ¬ RB a l from fun h => h5 h.2.2.1)]; exact Ev.now _
def bB (a : Int) (l : List S62) : List Int := [a / 256 % 256, a % 256, (l.length : Int) % 256] ++ l.flatMap OB
theorem bbytes_l0 (l : List S62) (hn : l.length ≤ 32) (hr : Rights l) : ∀ (d : Nat) (i : Int) (acc : List Int), 0 ≤ i → (l.length : Int) - i = d → (acc.length : Int) ≤ 3 + 24 * i → Ev (fun k => batch_Bytes.l0 k acc l (l.length : Int) i) (acc ++ (l.drop i.toNat).flatMap OB, 0) := by
 intro d
 induction d with
 | zero =>
  intro i acc h0 hd ha
  refine Ev.from 1 fun k => ?_
  simp only [batch_Bytes.l0]
  rw [if_neg (by omega), List.drop_eq_nil_of_le (by omega)]
  simp
 | succ d ih =>
  intro i acc h0 hd ha
  have h1 : i < (l.length : Int) := by omega
  have hz := OB_length (rd_T62 l i)
  refine Ev.step (f := fun k => _) (fun k => by simp only [batch_Bytes.l0]; rfl) ?_
  rw [obs_get l i h0 h1, List.flatMap_cons, ← List.append_assoc]
  simp only [if_pos h1, if_pos h0]
  refine Ev.bind (obx _ _ _ _ _ _ _ _ _ _ _ _ (hr _ (obs_mem l i h0 h1))) ?_
  have hl : acc.length + (OB (rd_T62 l i)).length < 140737488355328 := by omega
  simp only [if_true, w64 (x := i + 1) (by omega) (by omega)]
  rw [show oB (rd_T62 l i).f0 (rd_T62 l i).f1 (rd_T62 l i).f2.f0 (rd_T62 l i).f2.f1 (rd_T62 l i).f2.f2 (rd_T62 l i).f2.f3 (rd_T62 l i).f2.f4 (rd_T62 l i).f2.f5 (rd_T62 l i).f3.f0 (rd_T62 l i).f3.f1 (rd_T62 l i).f3.f2 (rd_T62 l i).f4 = OB (rd_T62 l i) from rfl]
  simp only [if_pos hl]
  exact ih (i + 1) _ (by omega) (by omega) (by rw [List.length_append]; omega)
theorem bbytes_ev (a : Int) (l : List S62) (h : RB a l) : Ev (fun k => batch_Bytes.f k a l) (bB a l, 0) := by
 have hc := bcheck_ev a l
 rw [if_pos h] at hc
 unfold batch_Bytes.f
 refine Ev.bind hc ?_
 simp only [if_true]
 have := bbytes_l0 l h.2.1.2 h.2.2.1 l.length 0 [a / 256 % 256, a % 256, (l.length : Int) % 256] (by omega) (by omega) (by simp)
 simpa [bB] using this
theorem bbytes_no (a : Int) (l : List S62) (h : ¬ RB a l) : Ev (fun k => batch_Bytes.f k a l) ([], 1) := by
 have hc := bcheck_ev a l
 rw [if_neg h] at hc
 unfold batch_Bytes.f
 refine Ev.bind hc ?_
 simp only [if_neg (show ¬ (1 : Int) = 0 by decide)]
 exact Ev.now _
theorem flat_length (l : List S62) (h : Rights l) : ((l.flatMap OB).length : Int) = sums l := by
 induction l with
 | nil => rfl
 | cons o l ih =>
  rw [List.flatMap_cons, List.length_append, sums_cons, sz_yes (h o List.mem_cons_self), ← ih (fun x hx => h x (List.mem_cons_of_mem _ hx))]
  omega
theorem bB_length (a : Int) (l : List S62) (h : Rights l) : ((bB a l).length : Int) = 3 + sums l := by
 have := flat_length l h
 simp only [bB, List.length_append, List.length_cons, List.length_nil]
 omega
end Go.Proofs.Ytpgmmnlkiogamaa.P
namespace Go.Proofs.Ytpgmmnlkiogamaa.P
open Go.RowKit YtpgmmnlkiogamaaW.PrintWords YtpgmmnlkiogamaaW.PrintLast YtpgmmnlkiogamaaW.PrintMore
def RP (a b c d : Int) (s : ByteArray) : Prop := (0 ≤ a ∧ a < 64) ∧ (0 ≤ b ∧ b < 64) ∧ (0 ≤ c ∧ c ≤ 255) ∧ (0 ≤ d ∧ d ≤ 65535) ∧ s.size ≤ 256
instance (a b c d : Int) (s : ByteArray) : Decidable (RP a b c d s) := by unfold RP; infer_instance
theorem pc1_eq (a : Int) : packet_Check_1.f a = some (decide (0 ≤ a ∧ a < 64)) := by
 unfold packet_Check_1.f
 by_cases h : a ≥ 0
 ·rw [if_pos h]
  congr 1
  by_cases g : a < 64
  ·rw [decide_eq_true g, decide_eq_true ⟨h, g⟩]
  ·rw [decide_eq_false g, decide_eq_false fun x => g x.2]
 ·rw [if_neg h, decide_eq_false fun x => h x.1]
theorem pc_eq (a b c d : Int) (s : ByteArray) : packet_Check.f a b c d s = some (if RP a b c d s then 0 else 1) := by
 unfold packet_Check.f
 rw [pc1_eq, pc1_eq]
 simp only [Option.bind_some, decide_eq_true_eq]
 by_cases h1 : 0 ≤ a ∧ a < 64
 ·rw [if_pos h1]
  by_cases h2 : 0 ≤ b ∧ b < 64
  ·rw [if_pos h2]
   by_cases h3 : c < 0
   ·rw [if_pos h3, if_neg fun x : RP a b c d s => by have := x.2.2.1; omega]
   rw [if_neg h3]
   by_cases h4 : c > 255
   ·rw [if_pos h4, if_neg fun x : RP a b c d s => by have := x.2.2.1; omega]
   rw [if_neg h4]
   by_cases h5 : d < 0
   ·rw [if_pos h5, if_neg fun x : RP a b c d s => by have := x.2.2.2.1; omega]
   rw [if_neg h5]
   by_cases h6 : d > 65535
   ·rw [if_pos h6, if_neg fun x : RP a b c d s => by have := x.2.2.2.1; omega]
   rw [if_neg h6]
   by_cases h7 : (s.size : Int) > 256
   ·rw [if_pos h7, if_neg fun x : RP a b c d s => by have := x.2.2.2.2; omega]
   rw [if_neg h7, if_pos (show RP a b c d s from ⟨h1, h2, by omega, by omega, by omega⟩)]
  ·rw [if_neg h2, if_neg fun x : RP a b c d s => h2 x.2.1]
 ·rw [if_neg h1, if_neg fun x : RP a b c d s => h1 x.1]
theorem flds_get (L : List S116) (i : Int) (h0 : 0 ≤ i) (h1 : i < L.length) : L.drop i.toNat = rd_T116 L i :: L.drop (i + 1).toNat := by
 have hi : i.toNat < L.length := by omega
 rw [List.drop_eq_getElem_cons hi, show (i + 1).toNat = i.toNat + 1 by omega]
 congr 1
 unfold rd_T116
 rw [List.getD_eq_getElem?_getD, List.getElem?_eq_getElem hi]
 rfl
def Fits (f : S116) : Prop := (Lit.int .i64 f.f0).wf = true ∧ 1 ≤ f.f1 ∧ f.f1 ≤ 7 ∧ 0 ≤ f.f0 ∧ f.f0 < 256 ^ f.f1.toNat
theorem put_l0 (L : List S116) (hL : ∀ f ∈ L, Fits f) (hn : L.length ≤ 1000) : ∀ (d : Nat) (i : Int) (acc : List Int), 0 ≤ i → (L.length : Int) - i = d → (acc.length : Int) ≤ 7 * i →
  Ev (fun k => packet_put.l0 k acc L (L.length : Int) i) (acc ++ (L.drop i.toNat).flatMap fun f => be f.f1.toNat f.f0) := by
 intro d
 induction d with
 | zero =>
  intro i acc h0 hd hl
  refine Ev.from 1 fun k => ?_
  simp only [packet_put.l0]
  rw [if_neg (by omega), List.drop_eq_nil_of_le (by omega)]
  simp
 | succ d ih =>
  intro i acc h0 hd hl
  have h1 : i < (L.length : Int) := by omega
  refine Ev.step (f := fun k => _) (fun k => by simp only [packet_put.l0]; rfl) ?_
  have hm : rd_T116 L i ∈ L := by
   have := List.mem_of_mem_drop (l := L) (i := i.toNat) (a := rd_T116 L i) (by rw [flds_get L i h0 h1]; exact List.mem_cons_self)
   exact this
  obtain ⟨f1, f2, f3, f4, f5⟩ := hL _ hm
  rw [flds_get L i h0 h1]
  generalize rd_T116 L i = f at *
  simp only [if_pos h1, if_pos h0, wire_Put_eq _ _ f1, Option.bind_some]
  rw [show putSpec f.f0 f.f1 = (be f.f1.toNat f.f0, 0) by unfold putSpec; rw [if_pos ⟨f2, f3, f4, f5⟩]]
  simp only [be_length]
  simp only [if_pos (show acc.length + f.f1.toNat < 140737488355328 by omega), w64 (x := i + 1) (by omega) (by omega), List.flatMap_cons]
  rw [← List.append_assoc]
  exact ih (i + 1) _ (by omega) (by omega) (by rw [List.length_append, be_length]; omega)
def pB (a b c d : Int) (s : ByteArray) : List Int := [a % 256, b % 256, c % 256, d / 256 % 256, d % 256, (s.size : Int) / 256 % 256, (s.size : Int) % 256] ++ bytesOf s
theorem pb_eq (a b c d : Int) (s : ByteArray) (h : RP a b c d s) : Ev (fun k => packet_Bytes.f k a b c d s) (pB a b c d s, 0) := by
 have hc := pc_eq a b c d s
 rw [if_pos h] at hc
 obtain ⟨ha, hb, hcc, hd, hs⟩ := h
 have fit : ∀ (v : Int) (n : Nat), 0 ≤ v → v ≤ 65535 → 1 ≤ n → n ≤ 7 → v < 256 ^ n → Fits ⟨v, n⟩ := fun v n h0 h1 h2 h3 h4 => ⟨Go.WalkArith.wf_i64 (n := v) ⟨by omega, by omega⟩, by show (1 : Int) ≤ (n : Int); omega, by show (n : Int) ≤ 7; omega, h0, by show v < 256 ^ (n : Int).toNat; rw [Int.toNat_natCast]; exact h4⟩
 have hL : ∀ f ∈ ([⟨a, 1⟩, ⟨b, 1⟩, ⟨c, 1⟩, ⟨d, 2⟩, ⟨(s.size : Int), 2⟩] : List S116), Fits f := by
  intro f hf
  simp only [List.mem_cons, List.not_mem_nil, or_false] at hf
  rcases hf with rfl | rfl | rfl | rfl | rfl
  ·exact fit a 1 (by omega) (by omega) (by omega) (by omega) (by simp; omega)
  ·exact fit b 1 (by omega) (by omega) (by omega) (by omega) (by simp; omega)
  ·exact fit c 1 (by omega) (by omega) (by omega) (by omega) (by simp; omega)
  ·exact fit d 2 (by omega) (by omega) (by omega) (by omega) (by simp; omega)
  ·exact fit (s.size : Int) 2 (by omega) (by omega) (by omega) (by omega) (by simp; omega)
 have hp := put_l0 _ hL (by simp) 5 0 [] (by omega) (by simp) (by simp)
 unfold packet_Bytes.f
 simp only [hc, Option.bind_some, if_true]
 refine Ev.bind (a := [a % 256, b % 256, c % 256, d / 256 % 256, d % 256, (s.size : Int) / 256 % 256, (s.size : Int) % 256]) ?_ ?_
 ·unfold packet_put.f
  exact hp
 ·simp only [List.length_cons, List.length_nil]
  rw [if_pos (by omega)]
  exact Ev.now _
theorem pb_no (a b c d : Int) (s : ByteArray) (h : ¬ RP a b c d s) : Ev (fun k => packet_Bytes.f k a b c d s) ([], 1) := by
 have hc := pc_eq a b c d s
 rw [if_neg h] at hc
 unfold packet_Bytes.f
 simp only [hc, Option.bind_some, if_neg (show ¬ (1 : Int) = 0 by decide)]
 exact Ev.now _
theorem bytesOf_bytes (s : ByteArray) : Bytes (bytesOf s) := by
 intro x hx
 unfold bytesOf at hx
 obtain ⟨b, _, rfl⟩ := List.mem_map.1 hx
 have := b.toNat_lt
 omega
theorem pB_bytes (a b c d : Int) (s : ByteArray) : Bytes (pB a b c d s) := by
 have hm : ∀ x : Int, 0 ≤ x % 256 ∧ x % 256 ≤ 255 := fun x => by omega
 refine Bytes.append ?_ (bytesOf_bytes s)
 intro x hx
 simp only [List.mem_cons, List.not_mem_nil, or_false] at hx
 rcases hx with rfl | rfl | rfl | rfl | rfl | rfl | rfl <;> exact hm _
def sumStep (s : Int × Int) (c : Int) : Int × Int := ((s.1 + c) % 251, (s.2 + (s.1 + c) % 251) % 251)
def sumEnd (s : Int × Int) : Int := 256 * s.2 + s.1
def sumSpec (l : List Int) : Int := sumEnd (l.foldl sumStep (1, 0))
theorem tmod_nonneg (a : Int) (h : 0 ≤ a) (b : Int) : Int.tmod a b = a % b := Int.tmod_eq_emod_of_nonneg h
theorem sum_step (x y c : Int) (hx : 0 ≤ x ∧ x ≤ 250) (hy : 0 ≤ y ∧ y ≤ 250) (hc : 0 ≤ c ∧ c ≤ 255) :
  Int.tmod (wrap64 (x + wrap64 c)) 251 = (sumStep (x, y) c).1 ∧ Int.tmod (wrap64 (y + (sumStep (x, y) c).1)) 251 = (sumStep (x, y) c).2 ∧ (0 ≤ (sumStep (x, y) c).1 ∧ (sumStep (x, y) c).1 ≤ 250) ∧ (0 ≤ (sumStep (x, y) c).2 ∧ (sumStep (x, y) c).2 ≤ 250) := by
 have h0 : 0 ≤ (x + c) % 251 ∧ (x + c) % 251 ≤ 250 := by omega
 refine ⟨?_, ?_, ?_, ?_⟩
 ·rw [w64 (x := c) (by omega) (by omega), w64 (by omega) (by omega), tmod_nonneg _ (by omega)]
  rfl
 ·show Int.tmod (wrap64 (y + (x + c) % 251)) 251 = (y + (x + c) % 251) % 251
  rw [w64 (by omega) (by omega), tmod_nonneg _ (by omega)]
 ·exact h0
 ·show 0 ≤ (y + (x + c) % 251) % 251 ∧ (y + (x + c) % 251) % 251 ≤ 250
  omega
theorem or_i64_byte (y x : Int) (h0 : 0 ≤ y) (h1 : y ≤ 250) (x0 : 0 ≤ x) (x1 : x ≤ 250) : Go.bits .or .i64 (wrap64 (y * 256)) x = 256 * y + x := by
 rw [w64 (by omega) (by omega)]
 obtain ⟨p, rfl⟩ := Int.eq_ofNat_of_zero_le h0
 obtain ⟨q, rfl⟩ := Int.eq_ofNat_of_zero_le x0
 rw [show ((p : Int) * 256) = ((p * 256 : Nat) : Int) by omega, bits_or_i64 _ _ (by omega) (by omega), nat_join 8 _ _ (by omega) (by omega)]
 omega
theorem wire_Sum_l0 (l : List Int) (hB : Bytes l) (hl : l.length ≤ 1000000000000) : ∀ (d : Nat) (i : Int) (x y : Int), 0 ≤ i → (l.length : Int) - i = d → (0 ≤ x ∧ x ≤ 250) → (0 ≤ y ∧ y ≤ 250) →
  Ev (fun k => wire_Sum.l0 k x y l l.length i) (sumEnd ((l.drop i.toNat).foldl sumStep (x, y))) := by
 intro d
 induction d with
 | zero =>
  intro i x y h0 hd hx hy
  refine Ev.from 1 fun k => ?_
  simp only [wire_Sum.l0]
  rw [if_neg (by omega), List.drop_eq_nil_of_le (by omega), or_i64_byte y x hy.1 hy.2 hx.1 hx.2]
  rfl
 | succ d ih =>
  intro i x y h0 hd hx hy
  have h1 : i < (l.length : Int) := by omega
  have hw : wrap64 (i + 1) = i + 1 := w64 (by omega) (by omega)
  have hb := rd_byte l hB i
  obtain ⟨e1, e2, hx', hy'⟩ := sum_step x y (rd l i) hx hy hb
  have hn := ih (i + 1) _ _ (by omega) (by omega) hx' hy'
  rw [rd_get l i h0 h1, List.foldl_cons]
  refine Ev.step (f := fun k => _) (fun k => by simp only [wire_Sum.l0]; rfl) ?_
  simp only [if_pos h1, if_pos h0, hw, e1, e2]
  exact hn
theorem wire_Sum_ev (l : List Int) (hB : Bytes l) (hl : l.length ≤ 1000000000000) : Ev (fun k => wire_Sum.f k l) (sumSpec l) := by
 unfold wire_Sum.f
 exact wire_Sum_l0 l hB hl l.length 0 1 0 (by omega) (by omega) (by omega) (by omega)
end Go.Proofs.Ytpgmmnlkiogamaa.P
namespace Go.Proofs.Ytpgmmnlkiogamaa.P
open Go.RowKit YtpgmmnlkiogamaaW.PrintWords YtpgmmnlkiogamaaW.PrintLast YtpgmmnlkiogamaaW.PrintMore
open Classical
def FW (p : S50) : Prop := p.f1.f1.length ≤ 1000000 ∧ p.f3.length ≤ 1000000
def eB (p : S50) : Bool := noB p.f1.f0 p.f1.f1
def eT (p : S50) : Bool := noT p.f2.f0 p.f2.f1
def eA (p : S50) : Bool := noA p.f3
def eP (p : S50) : Bool := noP p.f4.f0 p.f4.f1 p.f4.f2 p.f4.f3 p.f4.f4
def RPt (p : S50) : Prop :=
 (p.f0 = 1 ∧ (eT p && eA p && eP p) = true ∧ RBn p.f1.f0 p.f1.f1) ∨ (p.f0 = 2 ∧ (eB p && eA p && eP p) = true ∧ RB p.f2.f0 p.f2.f1) ∨
 (p.f0 = 3 ∧ (eB p && eT p && eP p) = true ∧ RA p.f3) ∨ (p.f0 = 4 ∧ (eB p && eT p && eA p) = true ∧ RP p.f4.f0 p.f4.f1 p.f4.f2 p.f4.f3 p.f4.f4)
def PtB (p : S50) : List Int :=
 if p.f0 = 1 then bnB p.f1.f0 p.f1.f1 else if p.f0 = 2 then bB p.f2.f0 p.f2.f1 else if p.f0 = 3 then ackB p.f3 else pB p.f4.f0 p.f4.f1 p.f4.f2 p.f4.f3 p.f4.f4
theorem pt_kind {p : S50} (h : RPt p) : p.f0 = 1 ∨ p.f0 = 2 ∨ p.f0 = 3 ∨ p.f0 = 4 := by
 rcases h with h | h | h | h <;> omega
theorem pt_ev (p : S50) (h : FW p) : Ev (fun k => frame_bytes.f k p.f0 p.f1.f0 p.f1.f1 p.f2.f0 p.f2.f1 p.f3 p.f4.f0 p.f4.f1 p.f4.f2 p.f4.f3 p.f4.f4) (if RPt p then (PtB p, true) else ([], false)) := by
 unfold frame_bytes.f
 by_cases k1 : p.f0 = 1
 ·simp only [if_pos k1]
  by_cases c : (eT p && eA p && eP p) = true
  ·simp only [show (noT p.f2.f0 p.f2.f1 && noA p.f3 && noP p.f4.f0 p.f4.f1 p.f4.f2 p.f4.f3 p.f4.f4) = true from c, if_true]
   by_cases r : RBn p.f1.f0 p.f1.f1
   ·rw [if_pos (show RPt p from .inl ⟨k1, c, r⟩), show PtB p = bnB p.f1.f0 p.f1.f1 from if_pos k1]
    exact Ev.bind (bnbytes_ev _ _ h.1 r) (Ev.now _)
   ·rw [if_neg (show ¬ RPt p by rintro (x | x | x | x); exact r x.2.2; all_goals (have := x.1; omega))]
    exact Ev.bind (bnbytes_no _ _ h.1 r) (Ev.now _)
  ·simp only [if_neg (show ¬ (noT p.f2.f0 p.f2.f1 && noA p.f3 && noP p.f4.f0 p.f4.f1 p.f4.f2 p.f4.f3 p.f4.f4) = true from c)]
   rw [if_neg (show ¬ RPt p by rintro (x | x | x | x); exact c x.2.1; all_goals (have := x.1; omega))]
   exact Ev.now _
 by_cases k2 : p.f0 = 2
 ·simp only [if_neg k1, if_pos k2]
  by_cases c : (eB p && eA p && eP p) = true
  ·simp only [show (noB p.f1.f0 p.f1.f1 && noA p.f3 && noP p.f4.f0 p.f4.f1 p.f4.f2 p.f4.f3 p.f4.f4) = true from c, if_true]
   by_cases r : RB p.f2.f0 p.f2.f1
   ·rw [if_pos (show RPt p from .inr (.inl ⟨k2, c, r⟩)), show PtB p = bB p.f2.f0 p.f2.f1 by unfold PtB; rw [if_neg k1, if_pos k2]]
    exact Ev.bind (bbytes_ev _ _ r) (Ev.now _)
   ·rw [if_neg (show ¬ RPt p by rintro (x | x | x | x); rotate_left; exact r x.2.2; all_goals (have := x.1; omega))]
    exact Ev.bind (bbytes_no _ _ r) (Ev.now _)
  ·simp only [if_neg (show ¬ (noB p.f1.f0 p.f1.f1 && noA p.f3 && noP p.f4.f0 p.f4.f1 p.f4.f2 p.f4.f3 p.f4.f4) = true from c)]
   rw [if_neg (show ¬ RPt p by rintro (x | x | x | x); rotate_left; exact c x.2.1; all_goals (have := x.1; omega))]
   exact Ev.now _
 by_cases k3 : p.f0 = 3
 ·simp only [if_neg k1, if_neg k2, if_pos k3]
  by_cases c : (eB p && eT p && eP p) = true
  ·simp only [show (noB p.f1.f0 p.f1.f1 && noT p.f2.f0 p.f2.f1 && noP p.f4.f0 p.f4.f1 p.f4.f2 p.f4.f3 p.f4.f4) = true from c, if_true]
   have hq : ack_Bytes.f p.f3 = some (if RA p.f3 then (ackB p.f3, 0) else ([], 1)) := if_pos h.2
   rw [hq]
   by_cases r : RA p.f3
   ·rw [if_pos (show RPt p from .inr (.inr (.inl ⟨k3, c, r⟩))), if_pos r, show PtB p = ackB p.f3 by unfold PtB; rw [if_neg k1, if_neg k2, if_pos k3]]
    exact Ev.now _
   ·rw [if_neg (show ¬ RPt p by rintro (x | x | x | x); rotate_left 2; exact r x.2.2; all_goals (have := x.1; omega)), if_neg r]
    exact Ev.now _
  ·simp only [if_neg (show ¬ (noB p.f1.f0 p.f1.f1 && noT p.f2.f0 p.f2.f1 && noP p.f4.f0 p.f4.f1 p.f4.f2 p.f4.f3 p.f4.f4) = true from c)]
   rw [if_neg (show ¬ RPt p by rintro (x | x | x | x); rotate_left 2; exact c x.2.1; all_goals (have := x.1; omega))]
   exact Ev.now _
 by_cases k4 : p.f0 = 4
 ·simp only [if_neg k1, if_neg k2, if_neg k3, if_pos k4]
  by_cases c : (eB p && eT p && eA p) = true
  ·simp only [show (noB p.f1.f0 p.f1.f1 && noT p.f2.f0 p.f2.f1 && noA p.f3) = true from c, if_true]
   by_cases r : RP p.f4.f0 p.f4.f1 p.f4.f2 p.f4.f3 p.f4.f4
   ·rw [if_pos (show RPt p from .inr (.inr (.inr ⟨k4, c, r⟩))), show PtB p = pB p.f4.f0 p.f4.f1 p.f4.f2 p.f4.f3 p.f4.f4 by unfold PtB; rw [if_neg k1, if_neg k2, if_neg k3]]
    exact Ev.bind (pb_eq _ _ _ _ _ r) (Ev.now _)
   ·rw [if_neg (show ¬ RPt p by rintro (x | x | x | x); rotate_left 3; exact r x.2.2; all_goals (have := x.1; omega))]
    exact Ev.bind (pb_no _ _ _ _ _ r) (Ev.now _)
  ·simp only [if_neg (show ¬ (noB p.f1.f0 p.f1.f1 && noT p.f2.f0 p.f2.f1 && noA p.f3) = true from c)]
   rw [if_neg (show ¬ RPt p by rintro (x | x | x | x); rotate_left 3; exact c x.2.1; all_goals (have := x.1; omega))]
   exact Ev.now _
 simp only [if_neg k1, if_neg k2, if_neg k3, if_neg k4]
 rw [if_neg (show ¬ RPt p from fun x => by have := pt_kind x; omega)]
 exact Ev.now _
theorem ackB_length (l : List S106) : (ackB l).length = 1 + 9 * l.length := by
 have : (l.flatMap aB).length = 9 * l.length := by
  induction l with
  | nil => rfl
  | cons x t ih => rw [List.flatMap_cons, List.length_append, aB_length, ih, List.length_cons]; omega
 unfold ackB
 rw [List.length_cons, this]
 omega
theorem pB_length (a b c d : Int) (s : ByteArray) : (pB a b c d s).length = 7 + s.size := by
 unfold pB
 rw [List.length_append, bytesOf_length]
 rfl
theorem ptB_length {p : S50} (h : FW p) (hr : RPt p) : (PtB p).length ≤ 6000000 := by
 unfold PtB
 rcases hr with ⟨k, _, r⟩ | ⟨k, _, r⟩ | ⟨k, _, r⟩ | ⟨k, _, r⟩
 ·rw [if_pos k, bnB_length]; have := h.1; omega
 ·rw [if_neg (by omega), if_pos k]
  have := bB_length p.f2.f0 p.f2.f1 r.2.2.1
  have := r.2.2.2
  omega
 ·rw [if_neg (by omega), if_neg (by omega), if_pos k, ackB_length]; have := r.2.1; omega
 ·rw [if_neg (by omega), if_neg (by omega), if_neg (by omega), pB_length]; have := r.2.2.2.2; omega
theorem bytes_app {a b : List Int} (ha : Bytes a) (hb : Bytes b) : Bytes (a ++ b) := fun x hx => (List.mem_append.1 hx).elim (ha x) (hb x)
theorem bytes_flat {α : Type} {f : α → List Int} : ∀ l : List α, (∀ x ∈ l, Bytes (f x)) → Bytes (l.flatMap f)
 | [], _ => fun x hx => by simp at hx
 | a :: l, h => by rw [List.flatMap_cons]; exact bytes_app (h a (by simp)) (bytes_flat l fun x hx => h x (by simp [hx]))
theorem bytes_mods {l : List Int} (h : ∀ x ∈ l, ∃ y, x = y % 256) : Bytes l := fun x hx => by obtain ⟨y, rfl⟩ := h x hx; omega
theorem bB_bytes (a : Int) (l : List S62) : Bytes (bB a l) := by
 unfold bB
 refine bytes_app (bytes_mods fun x hx => ?_) (bytes_flat l fun o _ => oB_bytes _ _ _ _ _ _ _ _ _ _ _ _)
 simp only [List.mem_cons, List.not_mem_nil, or_false] at hx
 rcases hx with rfl | rfl | rfl <;> exact ⟨_, rfl⟩
theorem aB_bytes (x : S106) : Bytes (aB x) := by
 simp only [aB, fB, abSz, List.append_nil]
 exact bytes_app (be_bytes _ _) (bytes_app (be_bytes _ _) (bytes_app (be_bytes _ _) (be_bytes _ _)))
theorem ackB_bytes (l : List S106) : Bytes (ackB l) := by
 unfold ackB
 intro x hx
 rcases List.mem_cons.1 hx with rfl | hx
 ·omega
 ·exact bytes_flat l (fun o _ => aB_bytes o) x hx
theorem ptB_bytes (p : S50) : Bytes (PtB p) := by
 unfold PtB
 split
 ·exact bnB_bytes _ _
 split
 ·exact bB_bytes _ _
 split
 ·exact ackB_bytes _
 ·exact pB_bytes _ _ _ _ _
def EPt (p : S50) : List Int := [p.f0 % 256, ((PtB p).length : Int) / 256 % 256, ((PtB p).length : Int) % 256] ++ PtB p
theorem EPt_length (p : S50) : (EPt p).length = 3 + (PtB p).length := by unfold EPt; simp; omega
theorem EPt_bytes (p : S50) : Bytes (EPt p) := by
 unfold EPt
 refine bytes_app (bytes_mods fun x hx => ?_) (ptB_bytes p)
 simp only [List.mem_cons, List.not_mem_nil, or_false] at hx
 rcases hx with rfl | rfl | rfl <;> exact ⟨_, rfl⟩
theorem pt_get (l : List S50) (i : Int) (h0 : 0 ≤ i) (h1 : i < l.length) : l.drop i.toNat = rd_T50 l i :: l.drop (i + 1).toNat := by
 have hi : i.toNat < l.length := by omega
 rw [List.drop_eq_getElem_cons hi, show (i + 1).toNat = i.toNat + 1 by omega]
 congr 1
 unfold rd_T50
 rw [List.getD_eq_getElem?_getD, List.getElem?_eq_getElem hi]
 rfl
theorem pt_mem (l : List S50) (i : Int) (h0 : 0 ≤ i) (h1 : i < l.length) : rd_T50 l i ∈ l := by
 have := pt_get l i h0 h1
 exact List.mem_of_mem_drop (i := i.toNat) (by rw [this]; simp)
def fin0 (out : List Int) : List Int := (out.set 12 (((out.length : Int) + 2) / 256 % 256)).set 13 (((out.length : Int) + 2) % 256)
def fin1 (y : List Int) : List Int := y ++ [sumSpec y / 256 % 256, sumSpec y % 256]
noncomputable def finR (l : List S50) (out : List Int) : List Int × Int := if (∀ p ∈ l, RPt p) ∧ (out ++ l.flatMap EPt).length + 2 ≤ 1400 then (fin1 (fin0 (out ++ l.flatMap EPt)), 0) else ([], 1)
theorem bytes_set {l : List Int} (h : Bytes l) (i : Nat) (v : Int) : Bytes (l.set i (v % 256)) := by
 intro x hx
 rcases List.mem_or_eq_of_mem_set hx with hx | rfl
 ·exact h x hx
 ·omega
theorem fb_l0 (l : List S50) (hn : l.length ≤ 8) (hF : ∀ p ∈ l, FW p) : ∀ (d : Nat) (i : Int) (acc : List Int), 0 ≤ i → (l.length : Int) - i = d → (acc.length : Int) ≤ 100 + 7000000 * i → 13 < acc.length → Bytes acc →
  Ev (fun k => frame_Bytes.l0 k acc l (l.length : Int) i) (finR (l.drop i.toNat) acc) := by
 intro d
 induction d with
 | zero =>
  intro i acc h0 hd ha h13 hB
  have hb : (acc.length : Int) ≤ 100000000 := by omega
  rw [List.drop_eq_nil_of_le (by omega)]
  refine Ev.step (f := fun k => _) (fun k => by simp only [frame_Bytes.l0]; rfl) ?_
  simp only [if_neg (show ¬ i < (l.length : Int) by omega), w64 (x := (acc.length : Int) + 2) (by omega) (by omega)]
  unfold finR
  simp only [List.flatMap_nil, List.append_nil]
  by_cases hg : (acc.length : Int) + 2 > 1400
  ·simp only [if_pos hg]
   rw [if_neg (by intro x; have := x.2; omega)]
   exact Ev.now _
  ·simp only [if_neg hg, if_pos (show 12 < (acc.length : Int) by omega), if_pos (show 13 < (acc.length : Int) by omega), Option.bind_some]
   rw [if_pos ⟨by simp, by omega⟩, show (acc.set (12 : Int).toNat (((acc.length : Int) + 2) / 256 % 256)).set (13 : Int).toNat (((acc.length : Int) + 2) % 256) = fin0 acc from rfl]
   have hBf : Bytes (fin0 acc) := bytes_set (bytes_set hB _ _) _ _
   have hlf : (fin0 acc).length = acc.length := by simp [fin0]
   refine Ev.bind (wire_Sum_ev _ hBf (by omega)) ?_
   simp only [if_pos (show (fin0 acc).length + [sumSpec (fin0 acc) / 256 % 256, sumSpec (fin0 acc) % 256].length < 140737488355328 by simp only [List.length_cons, List.length_nil]; omega)]
   exact Ev.now _
 | succ d ih =>
  intro i acc h0 hd ha h13 hB
  have h1 : i < (l.length : Int) := by omega
  have hp := pt_ev _ (hF _ (pt_mem l i h0 h1))
  refine Ev.step (f := fun k => _) (fun k => by simp only [frame_Bytes.l0]; rfl) ?_
  simp only [if_pos h1, if_pos h0]
  refine Ev.bind hp ?_
  rw [pt_get l i h0 h1]
  by_cases r : RPt (rd_T50 l i)
  ·simp only [if_pos r, if_true, Option.bind_some]
   have hz := ptB_length (hF _ (pt_mem l i h0 h1)) r
   simp only [if_pos (show acc.length + [(rd_T50 l i).f0 % 256, ((PtB (rd_T50 l i)).length : Int) / 256 % 256, ((PtB (rd_T50 l i)).length : Int) % 256].length < 140737488355328 by simp only [List.length_cons, List.length_nil]; omega)]
   simp only [if_pos (show (acc ++ [(rd_T50 l i).f0 % 256, ((PtB (rd_T50 l i)).length : Int) / 256 % 256, ((PtB (rd_T50 l i)).length : Int) % 256]).length + (PtB (rd_T50 l i)).length < 140737488355328 by simp only [List.length_append, List.length_cons, List.length_nil]; omega)]
   rw [List.append_assoc, show [(rd_T50 l i).f0 % 256, ((PtB (rd_T50 l i)).length : Int) / 256 % 256, ((PtB (rd_T50 l i)).length : Int) % 256] ++ PtB (rd_T50 l i) = EPt (rd_T50 l i) from rfl, w64 (x := i + 1) (by omega) (by omega)]
   have e : finR (rd_T50 l i :: l.drop (i + 1).toNat) acc = finR (l.drop (i + 1).toNat) (acc ++ EPt (rd_T50 l i)) := by
    unfold finR
    simp only [List.mem_cons, forall_eq_or_imp, r, true_and, List.flatMap_cons, List.append_assoc]
   rw [e]
   exact ih (i + 1) _ (by omega) (by omega) (by rw [List.length_append, EPt_length]; omega) (by rw [List.length_append]; omega) (bytes_app hB (EPt_bytes _))
  ·simp only [if_neg r, if_neg (show ¬ false = true by decide)]
   rw [show finR (rd_T50 l i :: l.drop (i + 1).toNat) acc = ([], 1) from if_neg (fun x => r (x.1 _ (by simp)))]
   exact Ev.now _
def node (a : Int) : Prop := 0 ≤ a ∧ a < 64
theorem node_eq (a : Int) : frame_Bytes_1.f a = some (decide (node a)) := by
 unfold frame_Bytes_1.f
 by_cases h : a ≥ 0
 ·rw [if_pos h]
  congr 1
  by_cases g : a < 64
  ·rw [decide_eq_true g, decide_eq_true (show node a from ⟨h, g⟩)]
  ·rw [decide_eq_false g, decide_eq_false fun x : node a => g x.2]
 ·rw [if_neg h, decide_eq_false fun x : node a => h x.1]
theorem put4_eq (v : Int) (hv : (Lit.int .i64 v).wf = true) : wire_Put.f v 4 = some (if EpR v then (be 4 v, 0) else ([], 1)) := by
 rw [wire_Put_eq v 4 hv]
 unfold putSpec EpR
 rw [show (4 : Int).toNat = 4 from rfl, show (256 : Int) ^ 4 = 4294967296 by decide]
 by_cases h : 0 ≤ v ∧ v ≤ 4294967295
 ·rw [if_pos h, if_pos (by omega)]
 ·rw [if_neg h, if_neg (by omega)]
def HdR (a0 a1 a2 a3 : Int) (l : List S50) : Prop := EpR a1 ∧ EpR a3 ∧ (a2 = 255 → a3 = 0) ∧ node a0 ∧ (node a2 ∨ a2 = 255) ∧ 1 ≤ l.length ∧ l.length ≤ 8
def hd15 (a0 a1 a2 a3 : Int) (n : Int) : List Int := [84, 1, a0 % 256, a2 % 256] ++ be 4 a1 ++ be 4 a3 ++ [0, 0, n % 256]
theorem hd15_length (a0 a1 a2 a3 n : Int) : (hd15 a0 a1 a2 a3 n).length = 15 := by simp [hd15, be_length]
theorem hd15_bytes (a0 a1 a2 a3 n : Int) : Bytes (hd15 a0 a1 a2 a3 n) := by
 unfold hd15
 refine bytes_app (bytes_app (bytes_app ?_ (be_bytes _ _)) (be_bytes _ _)) ?_
 all_goals
  intro x hx
  simp only [List.mem_cons, List.not_mem_nil, or_false] at hx
  omega
noncomputable def FB (a0 a1 a2 a3 : Int) (l : List S50) : List Int × Int := if HdR a0 a1 a2 a3 l then finR l (hd15 a0 a1 a2 a3 l.length) else ([], 1)
theorem fb_j0 (a0 a1 a2 a3 : Int) (l : List S50) (hn : l.length ≤ 8) (hF : ∀ p ∈ l, FW p) : Ev (fun k => frame_Bytes.j0 k (be 4 a1) (be 4 a3) false a0 a1 a2 a3 l) (finR l (hd15 a0 a1 a2 a3 l.length)) := by
 refine Ev.step (f := fun k => _) (fun k => by simp only [frame_Bytes.j0]; rfl) ?_
 simp only [if_neg (show ¬ false = true by decide), Option.bind_some, List.length_append, be_length, List.length_cons, List.length_nil]
 simp only [if_pos (show 0 + 1 + 1 + 1 + 1 + 4 < 140737488355328 by decide), if_pos (show 0 + 1 + 1 + 1 + 1 + 4 + 4 < 140737488355328 by decide), if_pos (show 0 + 1 + 1 + 1 + 1 + 4 + 4 + (0 + 1 + 1 + 1) < 140737488355328 by decide)]
 exact fb_l0 l hn hF l.length 0 (hd15 a0 a1 a2 a3 l.length) (by omega) (by omega) (by rw [hd15_length]; omega) (by rw [hd15_length]; omega) (hd15_bytes _ _ _ _ _)
theorem fb_j1 (x y : List Int) (a0 a1 a2 a3 : Int) (l : List S50) : Ev (fun k => frame_Bytes.j0 k x y true a0 a1 a2 a3 l) ([], 1) := by
 refine Ev.step (f := fun k => some ([], 1)) (fun k => by simp only [frame_Bytes.j0]; rfl) (Ev.now _)
theorem fb_ev (a0 a1 a2 a3 : Int) (l : List S50) (h1 : (Lit.int .i64 a1).wf = true) (h3 : (Lit.int .i64 a3).wf = true) (hF : ∀ p ∈ l, FW p) : Ev (fun k => frame_Bytes.f k a0 a1 a2 a3 l) (FB a0 a1 a2 a3 l) := by
 unfold frame_Bytes.f FB
 simp only [put4_eq _ h1, put4_eq _ h3, node_eq, Option.bind_some]
 by_cases e1 : EpR a1
 rotate_left
 ·rw [if_neg (fun x : HdR a0 a1 a2 a3 l => e1 x.1)]
  simp only [if_neg e1, if_neg (show ¬ (1 : Int) = 0 by decide)]
  exact fb_j1 _ _ _ _ _ _ _
 by_cases e3 : EpR a3
 rotate_left
 ·rw [if_neg (fun x : HdR a0 a1 a2 a3 l => e3 x.2.1)]
  simp only [if_pos e1, if_neg e3, if_neg (show ¬ (1 : Int) = 0 by decide), if_true]
  exact fb_j1 _ _ _ _ _ _ _
 simp only [if_pos e1, if_pos e3, if_true]
 have fin : ∀ b : Bool, (b = true ↔ ¬ (1 ≤ l.length ∧ l.length ≤ 8)) → (a2 = 255 → a3 = 0) → node a0 → (node a2 ∨ a2 = 255) → Ev (fun k => frame_Bytes.j0 k (be 4 a1) (be 4 a3) b a0 a1 a2 a3 l) (if HdR a0 a1 a2 a3 l then finR l (hd15 a0 a1 a2 a3 l.length) else ([], 1)) := by
  intro b hb g1 g2 g3
  cases b with
  | true => rw [if_neg (fun x : HdR a0 a1 a2 a3 l => (hb.1 rfl) ⟨x.2.2.2.2.2.1, x.2.2.2.2.2.2⟩)]; exact fb_j1 _ _ _ _ _ _ _
  | false =>
   have hl : 1 ≤ l.length ∧ l.length ≤ 8 := by
    by_cases q : 1 ≤ l.length ∧ l.length ≤ 8
    ·exact q
    ·exact absurd (hb.2 q) (by decide)
   rw [if_pos ⟨e1, e3, g1, g2, g3, hl⟩]
   exact fb_j0 _ _ _ _ _ hl.2 hF
 have fin2 : (a2 = 255 → a3 = 0) → node a0 → (node a2 ∨ a2 = 255) → Ev (fun k => if (l.length : Int) = 0 then frame_Bytes.j0 k (be 4 a1) (be 4 a3) true a0 a1 a2 a3 l else frame_Bytes.j0 k (be 4 a1) (be 4 a3) (decide ((l.length : Int) > 8)) a0 a1 a2 a3 l) (if HdR a0 a1 a2 a3 l then finR l (hd15 a0 a1 a2 a3 l.length) else ([], 1)) := by
  intro g1 g2 g3
  by_cases z : (l.length : Int) = 0
  ·simp only [if_pos z]; exact fin true (by simp; omega) g1 g2 g3
  ·simp only [if_neg z]; exact fin _ (by rw [decide_eq_true_iff]; omega) g1 g2 g3
 by_cases b : a2 = 255
 ·simp only [if_pos b]
  by_cases z : a3 = 0
  rotate_left
  ·rw [if_neg (fun x : HdR a0 a1 a2 a3 l => z (x.2.2.1 b))]
   simp only [if_neg z]
   exact fb_j1 _ _ _ _ _ _ _
  simp only [if_pos z]
  by_cases n0 : node a0
  rotate_left
  ·rw [if_neg (fun x : HdR a0 a1 a2 a3 l => n0 x.2.2.2.1)]
   simp only [decide_eq_false n0, if_neg (show ¬ false = true by decide)]
   exact fb_j1 _ _ _ _ _ _ _
  simp only [decide_eq_true n0, if_true, ite_self]
  exact fin2 (fun _ => z) n0 (.inr b)
 ·simp only [if_neg b]
  by_cases n0 : node a0
  rotate_left
  ·rw [if_neg (fun x : HdR a0 a1 a2 a3 l => n0 x.2.2.2.1)]
   simp only [decide_eq_false n0, if_neg (show ¬ false = true by decide)]
   exact fb_j1 _ _ _ _ _ _ _
  simp only [decide_eq_true n0, if_true]
  by_cases n2 : node a2
  rotate_left
  ·rw [if_neg (fun x : HdR a0 a1 a2 a3 l => x.2.2.2.2.1.elim n2 b)]
   simp only [decide_eq_false n2, if_neg (show ¬ false = true by decide)]
   exact fb_j1 _ _ _ _ _ _ _
  simp only [decide_eq_true n2, if_true]
  exact fin2 (fun e => absurd e b) n0 (.inl n2)
end Go.Proofs.Ytpgmmnlkiogamaa.P
namespace Go.Proofs.Ytpgmmnlkiogamaa.P
open Go.RowKit YtpgmmnlkiogamaaW.PrintWords YtpgmmnlkiogamaaW.PrintLast YtpgmmnlkiogamaaW.PrintMore
theorem awake09 : Ev (fun k => thalweglaw09_awake.f k) true := Ev.of (fun k => thalweglaw09_awake.mono k) (k := 60) (by kernel_rfl)
def small (p : S50) : Prop := p.f1.f1.length ≤ 80 ∧ p.f2.f1.length ≤ 60 ∧ p.f3.length ≤ 80 ∧ p.f4.f4.size ≤ 600
theorem small_FW {p : S50} (h : small p) : FW p := ⟨by have := h.1; omega, by have := h.2.2.1; omega⟩
theorem few_l0 (a0 a1 a2 a3 : Int) (l : List S50) (hn : l.length ≤ 12) : ∀ (d : Nat) (i : Int), 0 ≤ i → (l.length : Int) - i = d → ∃ b, Ev (fun k => thalwegref09_Few.l0 k i a0 a1 a2 a3 l) b ∧ (b = true → ∀ p ∈ l.drop i.toNat, small p) := by
 intro d
 induction d with
 | zero =>
  intro i h0 hd
  refine ⟨true, ?_, fun _ => by rw [List.drop_eq_nil_of_le (by omega)]; simp⟩
  refine Ev.step (f := fun k => _) (fun k => by simp only [thalwegref09_Few.l0]; rfl) ?_
  simp only [if_neg (show ¬ i < (l.length : Int) by omega)]
  refine Ev.step (f := fun k => _) (fun k => by simp only [thalwegref09_Few.j1]; rfl) ?_
  simp only [if_neg (show ¬ false = true by decide), decide_eq_true (show (l.length : Int) ≤ 12 by omega)]
  exact Ev.now _
 | succ d ih =>
  intro i h0 hd
  have h1 : i < (l.length : Int) := by omega
  obtain ⟨b, hb, hs⟩ := ih (i + 1) (by omega) (by omega)
  by_cases c : small (rd_T50 l i)
  ·refine ⟨b, ?_, fun e => ?_⟩
   rotate_left
   ·rw [pt_get l i h0 h1]
    intro p hp
    rcases List.mem_cons.1 hp with rfl | hp
    ·exact c
    ·exact hs e p hp
   refine Ev.step (f := fun k => _) (fun k => by simp only [thalwegref09_Few.l0]; rfl) ?_
   simp only [if_pos h1, decide_eq_true (show (l.length : Int) ≤ 12 by omega)]
   refine Ev.step (f := fun k => _) (fun k => by simp only [thalwegref09_Few.j1]; rfl) ?_
   have c1 := c.1
   have c2 := c.2.1
   have c3 := c.2.2.1
   have c4 := c.2.2.2
   simp only [if_true, if_pos h0, if_pos h1, if_neg (show ¬ ((rd_T50 l i).f1.f1.length : Int) > 80 by omega), if_neg (show ¬ ((rd_T50 l i).f2.f1.length : Int) > 60 by omega), if_neg (show ¬ ((rd_T50 l i).f3.length : Int) > 80 by omega), if_neg (show ¬ ((rd_T50 l i).f4.f4.size : Int) > 600 by omega), w64 (x := i + 1) (by omega) (by omega)]
   exact hb
  ·refine ⟨false, ?_, fun e => by cases e⟩
   refine Ev.step (f := fun k => _) (fun k => by simp only [thalwegref09_Few.l0]; rfl) ?_
   simp only [if_pos h1, decide_eq_true (show (l.length : Int) ≤ 12 by omega)]
   refine Ev.step (f := fun k => _) (fun k => by simp only [thalwegref09_Few.j1]; rfl) ?_
   simp only [if_true, if_pos h0, if_pos h1]
   by_cases c1 : ((rd_T50 l i).f1.f1.length : Int) > 80
   ·simp only [if_pos c1]; exact Ev.now _
   by_cases c2 : ((rd_T50 l i).f2.f1.length : Int) > 60
   ·simp only [if_neg c1, if_pos c2]; exact Ev.now _
   by_cases c3 : ((rd_T50 l i).f3.length : Int) > 80
   ·simp only [if_neg c1, if_neg c2, if_pos c3]; exact Ev.now _
   by_cases c4 : ((rd_T50 l i).f4.f4.size : Int) > 600
   ·simp only [if_neg c1, if_neg c2, if_neg c3, if_pos c4]; exact Ev.now _
   exact absurd ⟨by omega, by omega, by omega, by omega⟩ c
theorem few_ev (a0 a1 a2 a3 : Int) (l : List S50) : ∃ b, Ev (fun k => thalwegref09_Few.f k a0 a1 a2 a3 l) b ∧ (b = true → ∀ p ∈ l, small p) := by
 unfold thalwegref09_Few.f
 by_cases hn : l.length ≤ 12
 ·obtain ⟨b, h, hs⟩ := few_l0 a0 a1 a2 a3 l hn l.length 0 (by omega) (by omega)
  exact ⟨b, h, by simpa using hs⟩
 ·refine ⟨false, ?_, fun e => by cases e⟩
  refine Ev.step (f := fun k => _) (fun k => by simp only [thalwegref09_Few.l0]; rfl) ?_
  simp only [if_pos (show (0 : Int) < (l.length : Int) by omega), decide_eq_false (show ¬ (l.length : Int) ≤ 12 by omega)]
  refine Ev.step (f := fun k => _) (fun k => by simp only [thalwegref09_Few.j1]; rfl) ?_
  simp only [if_neg (show ¬ false = true by decide), decide_eq_false (show ¬ (l.length : Int) ≤ 12 by omega)]
  exact Ev.now _
def RF (a0 a1 a2 a3 : Int) (l : List S50) : Prop := HdR a0 a1 a2 a3 l ∧ (∀ p ∈ l, RPt p) ∧ (l.flatMap EPt).length + 17 ≤ 1400
theorem FB_yes {a0 a1 a2 a3 : Int} {l : List S50} (h : RF a0 a1 a2 a3 l) : FB a0 a1 a2 a3 l = (fin1 (fin0 (hd15 a0 a1 a2 a3 l.length ++ l.flatMap EPt)), 0) := by
 unfold FB finR
 rw [if_pos h.1, if_pos ⟨h.2.1, by rw [List.length_append, hd15_length]; have := h.2.2; omega⟩]
theorem FB_no {a0 a1 a2 a3 : Int} {l : List S50} (h : ¬ RF a0 a1 a2 a3 l) : FB a0 a1 a2 a3 l = ([], 1) := by
 unfold FB finR
 by_cases g : HdR a0 a1 a2 a3 l
 ·rw [if_pos g, if_neg (fun x => h ⟨g, x.1, by have := x.2; rw [List.length_append, hd15_length] at this; omega⟩)]
 ·rw [if_neg g]
theorem fin_length (out : List Int) : (fin1 (fin0 out)).length = out.length + 2 := by simp [fin1, fin0]
theorem FB_length {a0 a1 a2 a3 : Int} {l : List S50} (h : RF a0 a1 a2 a3 l) : (FB a0 a1 a2 a3 l).1.length = 17 + (l.flatMap EPt).length := by
 rw [FB_yes h]
 show (fin1 (fin0 _)).length = _
 rw [fin_length, List.length_append, hd15_length]
 omega
end Go.Proofs.Ytpgmmnlkiogamaa.P
namespace Go.Proofs.Ytpgmmnlkiogamaa.Pure
open Go.RowKit Go.Proofs.Ytpgmmnlkiogamaa.P YtpgmmnlkiogamaaW.PrintWords YtpgmmnlkiogamaaW.PrintLast YtpgmmnlkiogamaaW.PrintMore
theorem parts_true (x : Int) (a0 a1 a2 a3 : Int) (l : List S50) : Ev (fun k => thalweglaw09_FrameParts.j0 k x true a0 a1 a2 a3 l) true := by
 refine Ev.step (f := fun k => _) (fun k => by simp only [thalweglaw09_FrameParts.j0]; rfl) ?_
 simp only [if_true]
 exact Ev.bind awake09 (Ev.now _)
theorem parts_main (x : Int) (a0 a1 a2 a3 : Int) (l : List S50) (h1 : (Lit.int .i64 a1).wf = true) (h3 : (Lit.int .i64 a3).wf = true) (hF : ∀ p ∈ l, FW p) (x1 : 1 ≤ x) (x2 : x < l.length) : Ev (fun k => thalweglaw09_FrameParts.j0 k x false a0 a1 a2 a3 l) true := by
 refine Ev.step (f := fun k => _) (fun k => by simp only [thalweglaw09_FrameParts.j0]; rfl) ?_
 simp only [if_neg (show ¬ false = true by decide), if_pos (show 0 ≤ x by omega), if_pos (show x ≤ (l.length : Int) by omega)]
 refine Ev.bind (fb_ev _ _ _ _ _ h1 h3 hF) ?_
 refine Ev.bind (fb_ev _ _ _ _ _ h1 h3 (fun p hp => hF p (List.mem_of_mem_take hp))) ?_
 refine Ev.bind (fb_ev _ _ _ _ _ h1 h3 (fun p hp => hF p (List.mem_of_mem_drop hp))) ?_
 have hsplit : (l.flatMap EPt).length = ((l.take x.toNat).flatMap EPt).length + ((l.drop x.toNat).flatMap EPt).length := by
  rw [← List.length_append, ← List.flatMap_append, List.take_append_drop]
 by_cases r : RF a0 a1 a2 a3 l
 ·have rt : RF a0 a1 a2 a3 (l.take x.toNat) := ⟨⟨r.1.1, r.1.2.1, r.1.2.2.1, r.1.2.2.2.1, r.1.2.2.2.2.1, by rw [List.length_take]; omega, by have := r.1.2.2.2.2.2.2; rw [List.length_take]; omega⟩, fun p hp => r.2.1 p (List.mem_of_mem_take hp), by have := r.2.2; omega⟩
  have rd : RF a0 a1 a2 a3 (l.drop x.toNat) := ⟨⟨r.1.1, r.1.2.1, r.1.2.2.1, r.1.2.2.2.1, r.1.2.2.2.2.1, by rw [List.length_drop]; omega, by have := r.1.2.2.2.2.2.2; rw [List.length_drop]; omega⟩, fun p hp => r.2.1 p (List.mem_of_mem_drop hp), by have := r.2.2; omega⟩
  have e0 : (FB a0 a1 a2 a3 l).2 = 0 := by rw [FB_yes r]
  have e1 : (FB a0 a1 a2 a3 (l.take x.toNat)).2 = 0 := by rw [FB_yes rt]
  have e2 : (FB a0 a1 a2 a3 (l.drop x.toNat)).2 = 0 := by rw [FB_yes rd]
  have n0 := FB_length r
  have n1 := FB_length rt
  have n2 := FB_length rd
  have hs := r.2.2
  simp only [if_pos e0, if_pos e1, if_pos e2]
  refine Ev.bind awake09 ?_
  simp only [if_true]
  rw [w64 (x := ((FB a0 a1 a2 a3 l).1.length : Int) + 17) (by omega) (by omega), w64 (x := ((FB a0 a1 a2 a3 (l.take x.toNat)).1.length : Int) + ((FB a0 a1 a2 a3 (l.drop x.toNat)).1.length : Int)) (by omega) (by omega),
   show (((FB a0 a1 a2 a3 l).1.length : Int) + 17 == ((FB a0 a1 a2 a3 (l.take x.toNat)).1.length : Int) + ((FB a0 a1 a2 a3 (l.drop x.toNat)).1.length : Int)) = true from beq_iff_eq.2 (by omega)]
  exact Ev.now _
 ·have e0 := FB_no r
  simp only [e0, if_neg (show ¬ (1 : Int) = 0 by decide)]
  refine Ev.bind awake09 ?_
  simp only [if_true]
  exact Ev.now _
theorem FrameParts : thalweglaw09_FrameParts.Pure := by
 intro x0 a1 hw ha
 refine Ev.rounds ?_
 have h1 := hw.2.1
 have h3 := hw.2.2.2.1
 obtain ⟨b, hb, hs⟩ := few_ev x0.f0 x0.f1 x0.f2 x0.f3 x0.f4
 unfold thalweglaw09_FrameParts.f
 refine Ev.bind hb ?_
 cases b with
 | false => simp only [if_neg (show ¬ false = true by decide)]; exact parts_true _ _ _ _ _ _
 | true =>
  simp only [if_true]
  by_cases c1 : a1 < 1
  ·simp only [if_pos c1]; exact parts_true _ _ _ _ _ _
  simp only [if_neg c1]
  by_cases c2 : a1 ≥ (x0.f4.length : Int)
  ·simp only [decide_eq_true c2]; exact parts_true _ _ _ _ _ _
  simp only [decide_eq_false c2]
  exact parts_main _ _ _ _ _ _ h1 h3 (fun p hp => small_FW (hs rfl p hp)) (by omega) (by omega)
end Go.Proofs.Ytpgmmnlkiogamaa.Pure
namespace Go.Proofs.YtpgmmnlkiogamaaW.Opn
open Go.RowKit YtpgmmnlkiogamaaW.PrintWords Go.ChangeShapes Go.WideShapes Go.Deep
def Opens (P : Program) (t : TypeId) {α : Type} (d : Kd α) (wf : α → Prop) : Prop :=
 ∀ {H : Type} (enc : TypeId × Value → H) (w : World) (base : Nat) (spare : Nat → Bool) (held : Bool) (fuel : Nat) (cs : List Value) (y : DataW H × List MemPlace),
  DataW.trod enc P w base spare held fuel t cs = some y → ∃ x : α, d.K w x cs ∧ wf x
theorem opens_int {P : Program} {t : TypeId} {k : IntKind} (ht : P.underlying t = some (.int k)) : Opens P t (Kd.int k) (fun x => (Lit.int k x).wf = true) := by
 intro H enc w base spare held fuel cs y h
 obtain ⟨n, rfl, _, hw⟩ := DataW.trod_int ht h
 exact ⟨n, rfl, hw⟩
theorem opens_bool {P : Program} {t : TypeId} (ht : P.underlying t = some .bool) : Opens P t Kd.bool (fun _ => True) := by
 intro H enc w base spare held fuel cs y h
 obtain ⟨n, rfl, _⟩ := DataW.trod_bool ht h
 exact ⟨n, rfl, trivial⟩
theorem opens_string {P : Program} {t : TypeId} (ht : P.underlying t = some .string) : Opens P t Kd.string (fun s => s.size ≤ maxLen) := by
 intro H enc w base spare held fuel cs y h
 obtain ⟨s, rfl, _, hs⟩ := DataW.trod_string ht h
 exact ⟨s, rfl, hs⟩
theorem opens_iso {P : Program} {t : TypeId} {α β : Type} {d : Kd α} {wf : α → Prop} (f : β → α) (g : α → β) (hg : ∀ a, f (g a) = a) (h : Opens P t d wf) : Opens P t (Kd.iso d f) (fun b => wf (f b)) := by
 intro H enc w base spare held fuel cs y hy
 obtain ⟨x, hx, hw⟩ := h enc w base spare held fuel cs y hy
 exact ⟨g x, by show d.K w (f (g x)) cs; rw [hg]; exact hx, by show wf (f (g x)); rw [hg]; exact hw⟩
def OpensL (P : Program) : (ts : List TypeId) → {α : Type} → (d : Kd α) → (wf : α → Prop) → Prop := fun ts {α} d wf =>
 ∀ {H : Type} (enc : TypeId × Value → H) (w : World) (base : Nat) (spare : Nat → Bool) (held : Bool) (n : Nat) (cs : List Value) (xs : List (DataW H × List MemPlace)) (off : Nat),
  (∀ (i : Nat) (t : TypeId), ts[i]? = some t → ∃ y, DataW.trod enc P w base spare held n t ((cs.drop (off + ((ts.take i).map P.cellsOf).sum)).take (P.cellsOf t)) = some y) →
  ∃ x : α, d.K w x ((cs.drop off).take ((ts.map P.cellsOf).sum)) ∧ wf x
theorem opensL_one {P : Program} {t : TypeId} {α : Type} {d : Kd α} {wf : α → Prop} (h : Opens P t d wf) : OpensL P [t] d wf := by
 intro H enc w base spare held n cs xs off hx
 obtain ⟨y, hy⟩ := hx 0 t rfl
 simpa using h enc w base spare held n _ y (by simpa using hy)
theorem opensL_cons {P : Program} {t : TypeId} {ts : List TypeId} {α β : Type} {d : Kd α} {d' : Kd β} {wf : α → Prop} {wf' : β → Prop} (h : Opens P t d wf) (h' : OpensL P ts d' wf') :
  OpensL P (t :: ts) (Kd.pair d d') (fun x => wf x.1 ∧ wf' x.2) := by
 intro H enc w base spare held n cs xs off hx
 obtain ⟨y, hy⟩ := hx 0 t rfl
 obtain ⟨x, hk, hw⟩ := h enc w base spare held n _ y (by simpa using hy)
 obtain ⟨x', hk', hw'⟩ := h' enc w base spare held n cs xs (off + P.cellsOf t) (fun i u hu => by
  have := hx (i + 1) u hu
  simpa [Nat.add_assoc] using this)
 refine ⟨(x, x'), ⟨(cs.drop off).take (P.cellsOf t), (cs.drop (off + P.cellsOf t)).take ((ts.map P.cellsOf).sum), ?_, hk, hk'⟩, hw, hw'⟩
 simp only [List.map_cons, List.sum_cons]
 rw [List.take_add, List.drop_drop]
def lineB (P : Program) : List Field → Nat → Bool
 | [], _ => true
 | f :: fs, off => (f.offset == off) && lineB P fs (off + P.cellsOf f.type)
theorem line_at {P : Program} : ∀ (fs : List Field) (off : Nat), lineB P fs off = true → ∀ (i : Nat) (f : Field), fs[i]? = some f → f.offset = off + (((fs.map (·.type)).take i).map P.cellsOf).sum := by
 intro fs
 induction fs with
 | nil => intro off _ i f h; simp at h
 | cons g gs ih =>
  intro off hb i f h
  unfold lineB at hb
  rw [Bool.and_eq_true, beq_iff_eq] at hb
  cases i with
  | zero =>
   simp at h
   subst h
   simpa using hb.1
  | succ i =>
   have := ih _ hb.2 i f (by simpa using h)
   simp only [List.map_cons, List.take_succ_cons, List.sum_cons]
   omega
theorem opens_struct {P : Program} {t : TypeId} {fs : Array Field} {α : Type} {d : Kd α} {wf : α → Prop} (ht : P.underlying t = some (.struct fs)) (hl : lineB P fs.toList 0 = true) (hc : P.cellsOf t = ((fs.toList.map (·.type)).map P.cellsOf).sum)
  (h : OpensL P (fs.toList.map (·.type)) d wf) : Opens P t d wf := by
 intro H enc w base spare held fuel cs y hy
 obtain ⟨xs, n, _, _, hlen, hxl, hf⟩ := DataW.trod_struct ht hy
 obtain ⟨x, hk, hw⟩ := h enc w base spare held n cs xs 0 (fun i u hu => by
  rw [List.getElem?_map, Option.map_eq_some_iff] at hu
  obtain ⟨f, hf0, rfl⟩ := hu
  have hi : i < fs.size := by
   have := (List.getElem?_eq_some_iff.1 hf0).1
   simpa using this
  have h1 := hf i f (by rw [← Array.getElem?_toList]; exact hf0)
  rw [line_at _ 0 hl i f hf0] at h1
  exact ⟨_, h1.trans (List.getElem?_eq_getElem (by omega))⟩)
 rw [← hc, List.drop_zero, ← hlen, List.take_length] at hk
 exact ⟨x, hk, hw⟩
theorem reads_build {P : Program} {e : TypeId} {α : Type} {d : Kd α} {wf : α → Prop} (hs : P.cellsOf e = d.sz) (w : World) (ad : Addr) : ∀ (len : Nat), (∀ i, i < len → ∃ (x : α) (c : List Value), c.length = d.sz ∧ d.K w x c ∧ wf x ∧ ∀ j u, c[j]? = some u → w.cell? (ad.add (i * d.sz + j)) = some u) →
  ∃ xs : List α, xs.length = len ∧ (∀ x ∈ xs, wf x) ∧ ∀ j p, xs[j]? = some p → ∃ c, c.length = d.sz ∧ d.K w p c ∧ ∀ i u, c[i]? = some u → w.cell? (ad.add (j * d.sz + i)) = some u := by
 intro len
 induction len with
 | zero => intro _; exact ⟨[], rfl, by simp, by simp⟩
 | succ n ih =>
  intro h
  obtain ⟨xs, hl, hw, hx⟩ := ih (fun i hi => h i (by omega))
  obtain ⟨x, c, hc, hk, hwx, hcell⟩ := h n (by omega)
  refine ⟨xs ++ [x], by simp [hl], ?_, ?_⟩
  ·intro y hy
   rcases List.mem_append.1 hy with hy | hy
   ·exact hw y hy
   ·rw [List.mem_singleton.1 hy]; exact hwx
  ·intro j p hj
   rcases Nat.lt_or_ge j xs.length with hjl | hjl
   ·rw [List.getElem?_append_left hjl] at hj
    exact hx j p hj
   ·have : j = xs.length := by
     have := (List.getElem?_eq_some_iff.1 hj).1
     simp at this
     omega
    subst this
    have hp : x = p := by simpa using hj
    subst hp
    exact ⟨c, hc, hk, by rw [hl]; exact hcell⟩
theorem opens_slice {P : Program} {t e : TypeId} {α : Type} {d : Kd α} {wf : α → Prop} (ht : P.underlying t = some (.slice e)) (hs : P.cellsOf e = d.sz) (h : Opens P e d wf) : Opens P t (Kd.slice e d) (fun l => l.length ≤ maxLen ∧ ∀ x ∈ l, wf x) := by
 intro H enc w base spare held fuel cs y hy
 rcases open_slice ht hy with ⟨rfl, _⟩ | ⟨a, len, cap, m, n, D, Pl, rfl, hb, hl, hm, hmm, hx, hi⟩
 ·exact ⟨[], ⟨none, 0, rfl, Nat.le_refl _, rfl, by simp, by simp⟩, by simp, by simp⟩
 ·have hle : len ≤ m := by rw [hmm]; split <;> omega
  obtain ⟨xs, hxl, hwf, hxs⟩ := reads_build (P := P) (e := e) (d := d) (wf := wf) hs w a len (fun i hlt => by
   obtain ⟨cs', hc, ht'⟩ := hi i (by omega)
   obtain ⟨_, hcl, hat⟩ := World.cells?_some hc
   obtain ⟨x, hk, hwx⟩ := h enc w base spare held n cs' _ ht'
   refine ⟨x, cs', by omega, hk, hwx, fun j u hj => ?_⟩
   have hjl := (List.getElem?_eq_some_iff.1 hj).1
   have := hat j (by omega)
   rw [← Go.Deep.add_add, ← hs, this, hj])
  have hm' : len ≤ maxLen := by omega
  subst hxl
  have hm2 : xs.length ≤ 9223372036854775807 := by unfold maxLen at hm'; omega
  exact ⟨xs, ⟨some a, cap, rfl, hl, rfl, hm2, fun _ => ⟨a, rfl, hxs⟩⟩, hm', hwf⟩
end Go.Proofs.YtpgmmnlkiogamaaW.Opn
namespace Go.Proofs.Ytpgmmnlkiogamaa.frameParts
open Go.ChangeShapes Go.WideShapes Go.ChangeAt Go.RowKit Go.Proofs.YtpgmmnlkiogamaaW YtpgmmnlkiogamaaW.PrintWords Go.Proofs.Ytpgmmnlkiogamaa.P
open Go.ChangeMaps (open_string shut_string)
theorem own : ownKnob Try.prog.godebug = none := by kernel_rfl
theorem laidOut : laidOutB Try.prog = true := by kernel_rfl
theorem opn101 : Opn.Opens Try.prog 101 k101 (fun x => ((Lit.int .i64 x.f0).wf = true ∧ (Lit.int .i64 x.f1).wf = true)) :=
 Opn.opens_iso (fun x : S101 => (x.f0, x.f1)) (fun a => ⟨a.1, a.2⟩) (fun _ => rfl) (Opn.opens_struct Try.underlying101 (by kernel_rfl) (by kernel_rfl) (Opn.opensL_cons (Opn.opens_int Try.underlying3) (Opn.opensL_one (Opn.opens_int Try.underlying3))))
theorem opn42 : Opn.Opens Try.prog 42 k42 (fun x => ((Lit.int .i64 x.f0).wf = true ∧ (x.f1.length ≤ maxLen ∧ ∀ x0_ ∈ x.f1, ((Lit.int .i64 x0_.f0).wf = true ∧ (Lit.int .i64 x0_.f1).wf = true)))) :=
 Opn.opens_iso (fun x : S42 => (x.f0, x.f1)) (fun a => ⟨a.1, a.2⟩) (fun _ => rfl) (Opn.opens_struct Try.underlying42 (by kernel_rfl) (by kernel_rfl) (Opn.opensL_cons (Opn.opens_int Try.underlying3) (Opn.opensL_one (Opn.opens_slice Try.underlying40 (by kernel_rfl) opn101))))
theorem opn58 : Opn.Opens Try.prog 58 k58 (fun x => (True ∧ (Lit.int .i64 x.f1).wf = true ∧ (Lit.int .i64 x.f2).wf = true ∧ (Lit.int .i64 x.f3).wf = true ∧ (Lit.int .i64 x.f4).wf = true ∧ (Lit.int .i64 x.f5).wf = true)) :=
 Opn.opens_iso (fun x : S58 => (x.f0, x.f1, x.f2, x.f3, x.f4, x.f5)) (fun a => ⟨a.1, a.2.1, a.2.2.1, a.2.2.2.1, a.2.2.2.2.1, a.2.2.2.2.2⟩) (fun _ => rfl) (Opn.opens_struct Try.underlying58 (by kernel_rfl) (by kernel_rfl) (Opn.opensL_cons (Opn.opens_bool Try.underlying4) (Opn.opensL_cons (Opn.opens_int Try.underlying3) (Opn.opensL_cons (Opn.opens_int Try.underlying3) (Opn.opensL_cons (Opn.opens_int Try.underlying3) (Opn.opensL_cons (Opn.opens_int Try.underlying3) (Opn.opensL_one (Opn.opens_int Try.underlying3))))))))
theorem opn60 : Opn.Opens Try.prog 60 k60 (fun x => ((Lit.int .i64 x.f0).wf = true ∧ (Lit.int .i64 x.f1).wf = true ∧ (Lit.int .i64 x.f2).wf = true)) :=
 Opn.opens_iso (fun x : S60 => (x.f0, x.f1, x.f2)) (fun a => ⟨a.1, a.2.1, a.2.2⟩) (fun _ => rfl) (Opn.opens_struct Try.underlying60 (by kernel_rfl) (by kernel_rfl) (Opn.opensL_cons (Opn.opens_int Try.underlying3) (Opn.opensL_cons (Opn.opens_int Try.underlying3) (Opn.opensL_one (Opn.opens_int Try.underlying3)))))
theorem opn62 : Opn.Opens Try.prog 62 k62 (fun x => ((Lit.int .i64 x.f0).wf = true ∧ (Lit.int .i64 x.f1).wf = true ∧ (True ∧ (Lit.int .i64 x.f2.f1).wf = true ∧ (Lit.int .i64 x.f2.f2).wf = true ∧ (Lit.int .i64 x.f2.f3).wf = true ∧ (Lit.int .i64 x.f2.f4).wf = true ∧ (Lit.int .i64 x.f2.f5).wf = true) ∧ ((Lit.int .i64 x.f3.f0).wf = true ∧ (Lit.int .i64 x.f3.f1).wf = true ∧ (Lit.int .i64 x.f3.f2).wf = true) ∧ (Lit.int .i64 x.f4).wf = true)) :=
 Opn.opens_iso (fun x : S62 => (x.f0, x.f1, x.f2, x.f3, x.f4)) (fun a => ⟨a.1, a.2.1, a.2.2.1, a.2.2.2.1, a.2.2.2.2⟩) (fun _ => rfl) (Opn.opens_struct Try.underlying62 (by kernel_rfl) (by kernel_rfl) (Opn.opensL_cons (Opn.opens_int Try.underlying3) (Opn.opensL_cons (Opn.opens_int Try.underlying3) (Opn.opensL_cons opn58 (Opn.opensL_cons opn60 (Opn.opensL_one (Opn.opens_int Try.underlying3)))))))
theorem opn45 : Opn.Opens Try.prog 45 k45 (fun x => ((Lit.int .i64 x.f0).wf = true ∧ (x.f1.length ≤ maxLen ∧ ∀ x0_ ∈ x.f1, ((Lit.int .i64 x0_.f0).wf = true ∧ (Lit.int .i64 x0_.f1).wf = true ∧ (True ∧ (Lit.int .i64 x0_.f2.f1).wf = true ∧ (Lit.int .i64 x0_.f2.f2).wf = true ∧ (Lit.int .i64 x0_.f2.f3).wf = true ∧ (Lit.int .i64 x0_.f2.f4).wf = true ∧ (Lit.int .i64 x0_.f2.f5).wf = true) ∧ ((Lit.int .i64 x0_.f3.f0).wf = true ∧ (Lit.int .i64 x0_.f3.f1).wf = true ∧ (Lit.int .i64 x0_.f3.f2).wf = true) ∧ (Lit.int .i64 x0_.f4).wf = true)))) :=
 Opn.opens_iso (fun x : S45 => (x.f0, x.f1)) (fun a => ⟨a.1, a.2⟩) (fun _ => rfl) (Opn.opens_struct Try.underlying45 (by kernel_rfl) (by kernel_rfl) (Opn.opensL_cons (Opn.opens_int Try.underlying3) (Opn.opensL_one (Opn.opens_slice Try.underlying43 (by kernel_rfl) opn62))))
theorem opn106 : Opn.Opens Try.prog 106 k106 (fun x => ((Lit.int .i64 x.f0).wf = true ∧ (Lit.int .i64 x.f1).wf = true ∧ (Lit.int .i64 x.f2).wf = true ∧ (Lit.int .i64 x.f3).wf = true)) :=
 Opn.opens_iso (fun x : S106 => (x.f0, x.f1, x.f2, x.f3)) (fun a => ⟨a.1, a.2.1, a.2.2.1, a.2.2.2⟩) (fun _ => rfl) (Opn.opens_struct Try.underlying106 (by kernel_rfl) (by kernel_rfl) (Opn.opensL_cons (Opn.opens_int Try.underlying3) (Opn.opensL_cons (Opn.opens_int Try.underlying3) (Opn.opensL_cons (Opn.opens_int Try.underlying3) (Opn.opensL_one (Opn.opens_int Try.underlying3))))))
theorem opn48 : Opn.Opens Try.prog 48 k48 (fun x => ((Lit.int .i64 x.f0).wf = true ∧ (Lit.int .i64 x.f1).wf = true ∧ (Lit.int .i64 x.f2).wf = true ∧ (Lit.int .i64 x.f3).wf = true ∧ x.f4.size ≤ maxLen)) :=
 Opn.opens_iso (fun x : S48 => (x.f0, x.f1, x.f2, x.f3, x.f4)) (fun a => ⟨a.1, a.2.1, a.2.2.1, a.2.2.2.1, a.2.2.2.2⟩) (fun _ => rfl) (Opn.opens_struct Try.underlying48 (by kernel_rfl) (by kernel_rfl) (Opn.opensL_cons (Opn.opens_int Try.underlying3) (Opn.opensL_cons (Opn.opens_int Try.underlying3) (Opn.opensL_cons (Opn.opens_int Try.underlying3) (Opn.opensL_cons (Opn.opens_int Try.underlying3) (Opn.opensL_one (Opn.opens_string Try.underlying9)))))))
theorem opn50 : Opn.Opens Try.prog 50 k50 (fun x => ((Lit.int .i64 x.f0).wf = true ∧ ((Lit.int .i64 x.f1.f0).wf = true ∧ (x.f1.f1.length ≤ maxLen ∧ ∀ x0_ ∈ x.f1.f1, ((Lit.int .i64 x0_.f0).wf = true ∧ (Lit.int .i64 x0_.f1).wf = true))) ∧ ((Lit.int .i64 x.f2.f0).wf = true ∧ (x.f2.f1.length ≤ maxLen ∧ ∀ x0_ ∈ x.f2.f1, ((Lit.int .i64 x0_.f0).wf = true ∧ (Lit.int .i64 x0_.f1).wf = true ∧ (True ∧ (Lit.int .i64 x0_.f2.f1).wf = true ∧ (Lit.int .i64 x0_.f2.f2).wf = true ∧ (Lit.int .i64 x0_.f2.f3).wf = true ∧ (Lit.int .i64 x0_.f2.f4).wf = true ∧ (Lit.int .i64 x0_.f2.f5).wf = true) ∧ ((Lit.int .i64 x0_.f3.f0).wf = true ∧ (Lit.int .i64 x0_.f3.f1).wf = true ∧ (Lit.int .i64 x0_.f3.f2).wf = true) ∧ (Lit.int .i64 x0_.f4).wf = true))) ∧ (x.f3.length ≤ maxLen ∧ ∀ x0_ ∈ x.f3, ((Lit.int .i64 x0_.f0).wf = true ∧ (Lit.int .i64 x0_.f1).wf = true ∧ (Lit.int .i64 x0_.f2).wf = true ∧ (Lit.int .i64 x0_.f3).wf = true)) ∧ ((Lit.int .i64 x.f4.f0).wf = true ∧ (Lit.int .i64 x.f4.f1).wf = true ∧ (Lit.int .i64 x.f4.f2).wf = true ∧ (Lit.int .i64 x.f4.f3).wf = true ∧ x.f4.f4.size ≤ maxLen))) :=
 Opn.opens_iso (fun x : S50 => (x.f0, x.f1, x.f2, x.f3, x.f4)) (fun a => ⟨a.1, a.2.1, a.2.2.1, a.2.2.2.1, a.2.2.2.2⟩) (fun _ => rfl) (Opn.opens_struct Try.underlying50 (by kernel_rfl) (by kernel_rfl) (Opn.opensL_cons (Opn.opens_int Try.underlying3) (Opn.opensL_cons opn42 (Opn.opensL_cons opn45 (Opn.opensL_cons (Opn.opens_slice Try.underlying46 (by kernel_rfl) opn106) (Opn.opensL_one opn48))))))
theorem opn24 : Opn.Opens Try.prog 24 k24 (fun x => ((Lit.int .i64 x.f0).wf = true ∧ (Lit.int .i64 x.f1).wf = true ∧ (Lit.int .i64 x.f2).wf = true ∧ (Lit.int .i64 x.f3).wf = true ∧ (x.f4.length ≤ maxLen ∧ ∀ x0_ ∈ x.f4, ((Lit.int .i64 x0_.f0).wf = true ∧ ((Lit.int .i64 x0_.f1.f0).wf = true ∧ (x0_.f1.f1.length ≤ maxLen ∧ ∀ x1_ ∈ x0_.f1.f1, ((Lit.int .i64 x1_.f0).wf = true ∧ (Lit.int .i64 x1_.f1).wf = true))) ∧ ((Lit.int .i64 x0_.f2.f0).wf = true ∧ (x0_.f2.f1.length ≤ maxLen ∧ ∀ x1_ ∈ x0_.f2.f1, ((Lit.int .i64 x1_.f0).wf = true ∧ (Lit.int .i64 x1_.f1).wf = true ∧ (True ∧ (Lit.int .i64 x1_.f2.f1).wf = true ∧ (Lit.int .i64 x1_.f2.f2).wf = true ∧ (Lit.int .i64 x1_.f2.f3).wf = true ∧ (Lit.int .i64 x1_.f2.f4).wf = true ∧ (Lit.int .i64 x1_.f2.f5).wf = true) ∧ ((Lit.int .i64 x1_.f3.f0).wf = true ∧ (Lit.int .i64 x1_.f3.f1).wf = true ∧ (Lit.int .i64 x1_.f3.f2).wf = true) ∧ (Lit.int .i64 x1_.f4).wf = true))) ∧ (x0_.f3.length ≤ maxLen ∧ ∀ x1_ ∈ x0_.f3, ((Lit.int .i64 x1_.f0).wf = true ∧ (Lit.int .i64 x1_.f1).wf = true ∧ (Lit.int .i64 x1_.f2).wf = true ∧ (Lit.int .i64 x1_.f3).wf = true)) ∧ ((Lit.int .i64 x0_.f4.f0).wf = true ∧ (Lit.int .i64 x0_.f4.f1).wf = true ∧ (Lit.int .i64 x0_.f4.f2).wf = true ∧ (Lit.int .i64 x0_.f4.f3).wf = true ∧ x0_.f4.f4.size ≤ maxLen))))) :=
 Opn.opens_iso (fun x : S24 => (x.f0, x.f1, x.f2, x.f3, x.f4)) (fun a => ⟨a.1, a.2.1, a.2.2.1, a.2.2.2.1, a.2.2.2.2⟩) (fun _ => rfl) (Opn.opens_struct Try.underlying24 (by kernel_rfl) (by kernel_rfl) (Opn.opensL_cons (Opn.opens_int Try.underlying3) (Opn.opensL_cons (Opn.opens_int Try.underlying3) (Opn.opensL_cons (Opn.opens_int Try.underlying3) (Opn.opensL_cons (Opn.opens_int Try.underlying3) (Opn.opensL_one (Opn.opens_slice Try.underlying22 (by kernel_rfl) opn50)))))))
theorem lifted (os : Os) (started : os.Started) (H : Type) (enc : TypeId × Value → H) :
  ReturnsInHanded {} Try.checked os 7 .any (Rows.framePartsSpec.pre6 enc Try.prog Try.f7 Rows.framePartsRow.domain false) (Rows.framePartsSpec.post enc Try.prog Try.f7 false true false false) := by
 refine returnsInHanded_of_change_sized (C := Try.checked) own started (by kernel_rfl) Try.func7
  (ChangeSpec.witness6 (enc := enc) (C := Try.checked) false ⟨#[], #[.agg #[(.int .i64 0), (.int .i64 0), (.int .i64 0), (.int .i64 0), (.slice none 0 0)], .int .i64 0], []⟩ 8 (by kernel_rfl) (by kernel_rfl) (by kernel_rfl) (by kernel_rfl)) ?_
 intro W base args ds gs before hval0 hW hcnd hsz0 _
 have hval : ∀ (j : Nat) t v, Try.f7.params[j]? = some t → args[j]? = some v → Value.okWide Try.prog W .any base t v := hval0
 have hW' := hW
 obtain ⟨p, q, hA0, hV, rfl, hfz, hnd⟩ := hW
 have hA : DataW.TrodAll enc Try.prog W 0 (fun _ => true) true Try.f7.params.toList args.toList ds p := hA0
 rw [Try.params7] at hA hval
 obtain ⟨v0, vs0, d0, ds0, p0, q0, hargs, rfl, rfl, h0, r0⟩ := trodAll_cons hA
 obtain ⟨v1, vs1, d1, ds1, p1, q1, rfl, rfl, rfl, h1, r1⟩ := trodAll_cons r0
 obtain ⟨rfl, rfl, rfl⟩ := trodAll_nil r1
 obtain rfl : args = #[v0, v1] := by cases args; simp_all
 obtain ⟨rfl, rfl⟩ := trodVars_none hV
 have k0 := h0
 have lt0 : ∀ x ∈ p0, x.block < W.heap.size := by obtain ⟨m, hm⟩ := k0; exact DataW.trod_lt m _ _ _ hm
 obtain ⟨cs0, hv0, _⟩ := okWide_struct Try.underlying24 (hval 0 24 v0 rfl rfl)
 subst hv0
 obtain ⟨x0, K0, W0⟩ : ∃ x : S24, k24.K W x cs0.toList ∧ ((Lit.int .i64 x.f0).wf = true ∧ (Lit.int .i64 x.f1).wf = true ∧ (Lit.int .i64 x.f2).wf = true ∧ (Lit.int .i64 x.f3).wf = true ∧ (x.f4.length ≤ maxLen ∧ ∀ x0_ ∈ x.f4, ((Lit.int .i64 x0_.f0).wf = true ∧ ((Lit.int .i64 x0_.f1.f0).wf = true ∧ (x0_.f1.f1.length ≤ maxLen ∧ ∀ x1_ ∈ x0_.f1.f1, ((Lit.int .i64 x1_.f0).wf = true ∧ (Lit.int .i64 x1_.f1).wf = true))) ∧ ((Lit.int .i64 x0_.f2.f0).wf = true ∧ (x0_.f2.f1.length ≤ maxLen ∧ ∀ x1_ ∈ x0_.f2.f1, ((Lit.int .i64 x1_.f0).wf = true ∧ (Lit.int .i64 x1_.f1).wf = true ∧ (True ∧ (Lit.int .i64 x1_.f2.f1).wf = true ∧ (Lit.int .i64 x1_.f2.f2).wf = true ∧ (Lit.int .i64 x1_.f2.f3).wf = true ∧ (Lit.int .i64 x1_.f2.f4).wf = true ∧ (Lit.int .i64 x1_.f2.f5).wf = true) ∧ ((Lit.int .i64 x1_.f3.f0).wf = true ∧ (Lit.int .i64 x1_.f3.f1).wf = true ∧ (Lit.int .i64 x1_.f3.f2).wf = true) ∧ (Lit.int .i64 x1_.f4).wf = true))) ∧ (x0_.f3.length ≤ maxLen ∧ ∀ x1_ ∈ x0_.f3, ((Lit.int .i64 x1_.f0).wf = true ∧ (Lit.int .i64 x1_.f1).wf = true ∧ (Lit.int .i64 x1_.f2).wf = true ∧ (Lit.int .i64 x1_.f3).wf = true)) ∧ ((Lit.int .i64 x0_.f4.f0).wf = true ∧ (Lit.int .i64 x0_.f4.f1).wf = true ∧ (Lit.int .i64 x0_.f4.f2).wf = true ∧ (Lit.int .i64 x0_.f4.f3).wf = true ∧ x0_.f4.f4.size ≤ maxLen)))) := by
  obtain ⟨fuel, hf⟩ := h0
  exact opn24 enc W 0 (fun _ => true) true fuel _ _ hf
 obtain ⟨A0_4, c0_4, E0, g0_4, C0_4⟩ := k24_open K0
 obtain ⟨cl0⟩ := cs0
 have E0' : cl0 = _ := E0
 subst E0'
 obtain ⟨a1, rfl, rfl, rfl, w1⟩ := open_int Try.underlying3 (hval 1 3 v1 rfl rfl) h1
 obtain ⟨k, hk⟩ := Pure.FrameParts x0 a1 W0 w1
 clear hA0 hval0 hsz0
 refine (thalweglaw09_FrameParts.calls (k := k) (a0_0 := x0.f0) (a0_1 := x0.f1) (a0_2 := x0.f2) (a0_3 := x0.f3) (A0_4 := A0_4) (c0_4 := c0_4) (l0_4 := x0.f4) (a1 := a1) (r := true) (w := W) (hr0_4 := C0_4) (hc0_4 := g0_4) (h := hk)).mono fun e W' ⟨he, bel⟩ => ?_
 subst he
 exact ⟨_, rfl, _, _, _, [], _, [], hW', trodAll_mk1 (shut_bool Try.underlying4 _), (trodAll_cons_mk (Below.trod laidOut (by kernel_rfl) (of_decide_eq_true (by kernel_rfl)) k0 bel lt0) (trodAll_cons_mk (shut_int Try.underlying3 w1) trodAll_mk0)), rfl, bel.frame _, fun h => by cases h⟩
theorem over : Rows.framePartsRow.holds Try.pinned (OpenSpec.ofChange Rows.framePartsSpec) :=
 OpenClaim.holds_of_wide 7 Try.f7 rfl rfl rfl rfl rfl rfl rfl ⟨rfl, rfl, rfl, rfl, rfl⟩ rfl rfl rfl rfl rfl (by kernel_rfl) Try.func7 (by kernel_rfl)
  (of_decide_eq_true (by kernel_rfl)) (by unfold Func.isWrapper; first | (rw [if_pos (by decide +kernel)]; kernel_rfl) | (rw [if_neg (by decide +kernel)]; exact ⟨rfl, rfl⟩))
  (fun os started H enc _ => lifted os started H enc)
theorem proved : Rows.FramePartsSaid := over
end Go.Proofs.Ytpgmmnlkiogamaa.frameParts
namespace Go.Proofs.Ytpgmmnlkiogamaa
theorem frameParts_holds : Rows.FramePartsSaid := frameParts.proved
end Go.Proofs.Ytpgmmnlkiogamaa
