/- Walks. -/
import Derived.WalkMore
import Derived.Test.YtfigbjjaffkidaaXBatchBackWWords
import Derived.Test.YtfigbjjaffkidaaXBatchBackWMore
import Derived.ProofKit
import Derived.OpenShut
import Derived.ChangeSame
import Derived.ChangeOld
import Derived.Deep.Slices
import Derived.Deep.Fields
import Derived.Test.YtfigbjjaffkidaaXBatchBacka
import Derived.Test.YtfigbjjaffkidaaXBatchBackb
import Derived.Test.YtfigbjjaffkidaaXBatchBackc
import Derived.Test.YtfigbjjaffkidaaXBatchBackd
set_option linter.unusedVariables false
set_option linter.unusedSimpArgs false
set_option maxHeartbeats 8000000
set_option maxRecDepth 100000
namespace Go.Proofs.Ytfigbjjaffkidaa.P
open Go.RowKit YtfigbjjaffkidaaW.PrintWords YtfigbjjaffkidaaW.PrintLast YtfigbjjaffkidaaW.PrintMore
open YtfigbjjaffkidaaW.PrintWords renaming below_alloc → YA, pw_below_drewN → YB, below_drew1 → YC, below_step → YD, below_size → YE, blk_drewN → YF, blk_drew → YG, blk_alloc → YH, blk_cell → YI, blk_frozen → YJ, blk_below → YK
open YtfigbjjaffkidaaW.PrintWords.Aside0 renaming mk → YL
open YtfigbjjaffkidaaW.PrintWords.Kd renaming R_alloc → YM, R_drewN → YN, R_drew → YO, R_below → YP
attribute [local go_sem] max2_int min2_int max_two min_two max_three min_three max_four min_four
mutual
def thalweglaw05_BatchBack.j0 : Nat → List Int → List Int → Bool → Int → List (S45) → Option (Bool)
 | 0, _, _, _, _, _ => none
 | k + 1, x1, x2, x30, x526000, x526001 => if x30 = true then (some true) else ((batch_Parse.f k x2 0).bind fun bt526 => ((batch_Bytes.f k bt526.1 bt526.2.1).bind fun bt533 => (if bt526.2.2.2 = 0 then (if bt533.2 = bt526.2.2.2 then (if bt526.2.2.1 < 5 then (thalweglaw05_BatchBack.j1 k x1 x2 true x526000 x526001) else (if bt526.2.2.1 > (x2.length : Int) then (thalweglaw05_BatchBack.j1 k x1 x2 true x526000 x526001) else (if 0 ≤ bt526.2.2.1 then (if bt526.2.2.1 ≤ (x2.length : Int) then (thalweglaw05_BatchBack.j1 k x1 x2 ((strOfNums bt533.1).toList != (strOfNums (x2.take (bt526.2.2.1 : Int).toNat)).toList) x526000 x526001) else (none)) else (none)))) else (thalweglaw05_BatchBack.j1 k x1 x2 true x526000 x526001)) else (thalweglaw05_BatchBack.j1 k x1 x2 false x526000 x526001))))
def thalweglaw05_BatchBack.j1 : Nat → List Int → List Int → Bool → Int → List (S45) → Option (Bool)
 | 0, _, _, _, _, _ => none
 | k + 1, x1, x2, x67, x526000, x526001 => if x67 = true then (none) else ((batch_Bytes.f k x526000 x526001).bind fun bt542 => ((thalwegref01_Both.f k (([x1, bt542.1, x2] : List (List Int)))).bind fun t549 => ((batch_Parse.f k t549 (x1.length : Int)).bind fun bt552 => (if bt542.2 = 0 then ((thalweglaw05_awake.f k).bind fun t559 => (if t559 = true then (if bt552.2.2.2 = 0 then ((thalwegref05_Same.f k (([(⟨bt552.1, bt552.2.1⟩ : S24)] : List (S24))) (([(⟨x526000, x526001⟩ : S24)] : List (S24)))).bind fun t566 => (if t566 = true then (some (bt552.2.2.1 == (wrap64 ((x1.length : Int) + (bt542.1.length : Int))))) else (none))) else (none)) else (none))) else ((thalweglaw05_awake.f k).bind fun t567 => (if t567 = true then (some ((bt542.1.length : Int) == 0)) else (none)))))))
end
def thalweglaw05_BatchBack.f (k : Nat) (a0_0 : Int) (l0_1 : List (S45)) (l1 : List Int) (l2 : List Int) : Option (Bool) := if (l0_1.length : Int) > 60 then (thalweglaw05_BatchBack.j0 k l1 l2 true a0_0 l0_1) else (if (l1.length : Int) > 200 then (thalweglaw05_BatchBack.j0 k l1 l2 true a0_0 l0_1) else (thalweglaw05_BatchBack.j0 k l1 l2 (decide ((l2.length : Int) > 600)) a0_0 l0_1))
theorem thalweglaw05_BatchBack.calls (k : Nat) (a0_0 : Int) (P0_1_ : Nat → Prop) (A0_1 : Option Addr) (c0_1 : Nat) (l0_1 : List (S45)) (P1_ : Nat → Prop) (A1 : Option Addr) (c1 : Nat) (l1 : List Int) (P2_ : Nat → Prop) (A2 : Option Addr) (c2 : Nat) (l2 : List Int) (r : Bool) (w : World) (hs0_1 : Kd.V k45 45 w w.heap.size (fun k_ => P0_1_ k_) (.slice A0_1 l0_1.length c0_1) l0_1) (hs1 : Kd.V (Kd.int .u8) 5 w w.heap.size (fun k_ => P1_ k_) (.slice A1 l1.length c1) l1) (hs2 : Kd.V (Kd.int .u8) 5 w w.heap.size (fun k_ => P2_ k_) (.slice A2 l2.length c2) l2) (h : thalweglaw05_BatchBack.f k a0_0 l0_1 l1 l2 = some r) :
  Calls Try.prog 7 #[.agg #[.int .i64 a0_0, .slice A0_1 l0_1.length c0_1], .slice A1 l1.length c1, .slice A2 l2.length c2] w fun e w' => e = .returned (.bool r) ∧ Below w.heap.size w w' := by
 have hu24 := Try.underlying24
 have HO0_1 := YL (show Kd.V k45 45 w w.heap.size (fun k_ => ((P0_1_ k_ ∨ P1_ k_ ∨ P2_ k_) ∨ w.heap.size ≤ k_)) (.slice A0_1 l0_1.length c0_1) l0_1 from Kd.V_mono hs0_1 (fun k_ hk => .inl (.inl hk)))
 have HO1 := YL (show Kd.V (Kd.int .u8) 5 w w.heap.size (fun k_ => ((P0_1_ k_ ∨ P1_ k_ ∨ P2_ k_) ∨ w.heap.size ≤ k_)) (.slice A1 l1.length c1) l1 from Kd.V_mono hs1 (fun k_ hk => .inl (.inr (.inl hk))))
 have HO2 := YL (show Kd.V (Kd.int .u8) 5 w w.heap.size (fun k_ => ((P0_1_ k_ ∨ P1_ k_ ∨ P2_ k_) ∨ w.heap.size ≤ k_)) (.slice A2 l2.length c2) l2 from Kd.V_mono hs2 (fun k_ hk => .inl (.inr (.inr hk))))
 have HB := YL (Below.refl w.heap.size w)
 have H : (if (l0_1.length : Int) > 60 then (thalweglaw05_BatchBack.j0 k l1 l2 true a0_0 l0_1) else (if (l1.length : Int) > 200 then (thalweglaw05_BatchBack.j0 k l1 l2 true a0_0 l0_1) else (thalweglaw05_BatchBack.j0 k l1 l2 (decide ((l2.length : Int) > 600)) a0_0 l0_1))) = some r := h
 clear h; have HC4 := YL H; clear H
 go_enter Try.func7, Try.ntmps7
 go_upto_region 1 with (first | ((with_reducible refine gate_dst (N := 3) rfl ?_); (try (refine gate_guard (by rfl) ?_; dsimp only)); refine box_event ?hg (N := 3) ?hd (cs := #[.int .i64 a0_0, .slice A0_1 l0_1.length c0_1]) (t := 24) ?hr ?_; (case hd => rfl); (case hg => rfl); (case hr => first | (go_simp; done) | (go_simp; rfl)); intro gb525 hg w5 hbox hb; have n0_ := YL (Kd.V_below (Kd.V_elderB (upV HO0_1) gb525 (Nat.le_of_eq hg.symm)) hb); have n1_ := YL (Kd.V_below (Kd.V_elderB (upV HO1) gb525 (Nat.le_of_eq hg.symm)) hb); have n2_ := YL (Kd.V_below (Kd.V_elderB (upV HO2) gb525 (Nat.le_of_eq hg.symm)) hb); have n3_ := YL (YD (upB HB) hb); have n4_ := YL (hbox); have n5_ := YL ((by rw [hg]; exact (YE (upB HB)) : w.heap.size ≤ gb525)); have n6_ := YL ((by rw [hg]; exact (YE (upB HB)) : w.heap.size ≤ gb525)); clear HO0_1; clear HO1; clear HO2; clear HB; have HO0_1 := n0_; have HO1 := n1_; have HO2 := n2_; have HB := n3_; have BK525 := n4_; have GW525 := n5_; have GE525 := n6_; clear n0_ n1_ n2_ n3_ n4_ n5_ n6_; clear hb hbox hg))
 repeat (go_quiet (first | ((with_reducible refine gate_dst (N := 3) rfl ?_); (try (refine gate_guard (by rfl) ?_; dsimp only)); refine box_event ?hg (N := 3) ?hd (cs := #[.int .i64 a0_0, .slice A0_1 l0_1.length c0_1]) (t := 24) ?hr ?_; (case hd => rfl); (case hg => rfl); (case hr => first | (go_simp; done) | (go_simp; rfl)); intro gb525 hg w5 hbox hb; have n0_ := YL (Kd.V_below (Kd.V_elderB (upV HO0_1) gb525 (Nat.le_of_eq hg.symm)) hb); have n1_ := YL (Kd.V_below (Kd.V_elderB (upV HO1) gb525 (Nat.le_of_eq hg.symm)) hb); have n2_ := YL (Kd.V_below (Kd.V_elderB (upV HO2) gb525 (Nat.le_of_eq hg.symm)) hb); have n3_ := YL (YD (upB HB) hb); have n4_ := YL (hbox); have n5_ := YL ((by rw [hg]; exact (YE (upB HB)) : w.heap.size ≤ gb525)); have n6_ := YL ((by rw [hg]; exact (YE (upB HB)) : w.heap.size ≤ gb525)); clear HO0_1; clear HO1; clear HO2; clear HB; have HO0_1 := n0_; have HO1 := n1_; have HO2 := n2_; have HB := n3_; have BK525 := n4_; have GW525 := n5_; have GE525 := n6_; clear n0_ n1_ n2_ n3_ n4_ n5_ n6_; clear hb hbox hg)); go_upto_region 1 with (first | ((with_reducible refine gate_dst (N := 3) rfl ?_); (try (refine gate_guard (by rfl) ?_; dsimp only)); refine box_event ?hg (N := 3) ?hd (cs := #[.int .i64 a0_0, .slice A0_1 l0_1.length c0_1]) (t := 24) ?hr ?_; (case hd => rfl); (case hg => rfl); (case hr => first | (go_simp; done) | (go_simp; rfl)); intro gb525 hg w5 hbox hb; have n0_ := YL (Kd.V_below (Kd.V_elderB (upV HO0_1) gb525 (Nat.le_of_eq hg.symm)) hb); have n1_ := YL (Kd.V_below (Kd.V_elderB (upV HO1) gb525 (Nat.le_of_eq hg.symm)) hb); have n2_ := YL (Kd.V_below (Kd.V_elderB (upV HO2) gb525 (Nat.le_of_eq hg.symm)) hb); have n3_ := YL (YD (upB HB) hb); have n4_ := YL (hbox); have n5_ := YL ((by rw [hg]; exact (YE (upB HB)) : w.heap.size ≤ gb525)); have n6_ := YL ((by rw [hg]; exact (YE (upB HB)) : w.heap.size ≤ gb525)); clear HO0_1; clear HO1; clear HO2; clear HB; have HO0_1 := n0_; have HO1 := n1_; have HO2 := n2_; have HB := n3_; have BK525 := n4_; have GW525 := n5_; have GE525 := n6_; clear n0_ n1_ n2_ n3_ n4_ n5_ n6_; clear hb hbox hg)))
 (try simp only [Act.put, List.setIfInBounds_toArray, List.set_cons_zero, List.set_cons_succ])
 go_cut [30] (fun v30 wc => ∃ (kq : Nat) (x30_3 : Bool), v30 = .bool x30_3 ∧ Aside0 (thalweglaw05_BatchBack.j0 kq l1 l2 x30_3 a0_0 l0_1 = some r) ∧ Aside0 (kq ≤ k) ∧ Aside0 (Kd.V (Kd.int .u8) 5 wc w.heap.size (fun k_ => ((P0_1_ k_ ∨ P1_ k_ ∨ P2_ k_) ∨ w.heap.size ≤ k_) ∧ k_ ≠ gb525) (.slice A1 l1.length c1) l1) ∧ Aside0 (Kd.V (Kd.int .u8) 5 wc w.heap.size (fun k_ => ((P0_1_ k_ ∨ P1_ k_ ∨ P2_ k_) ∨ w.heap.size ≤ k_) ∧ k_ ≠ gb525) (.slice A2 l2.length c2) l2) ∧ Aside0 (Kd.V k45 45 wc w.heap.size (fun k_ => ((P0_1_ k_ ∨ P1_ k_ ∨ P2_ k_) ∨ w.heap.size ≤ k_) ∧ k_ ≠ gb525) (.slice A0_1 l0_1.length c0_1) l0_1) ∧ Aside0 (wc.heap[gb525]? = some (.cells #[.int .i64 a0_0, (.slice A0_1 l0_1.length c0_1)] 24 (0, 0))) ∧ Aside0 (Below w.heap.size w wc))
 case first =>
  have H := HC4.out
  clear HC4
  by_cases c6 : (l0_1.length : Int) > 60
  ·rw [if_pos c6] at H
   have c6b0 : decide (60 < (l0_1.length : Int)) = true := decide_eq_true c6
   have c6b1 : decide (60 < l0_1.length) = true := decide_eq_true (by omega)
   clear c6
   (first | rw [c6b0] | (simp only [i64_w, i32_w]; rw [c6b0]) | rw [c6b1] | skip)
   have H' := YL H
   clear H
   have q7_0 : w5.cell? ⟨gb525, 0, none⟩ = some (.int .i64 a0_0) := (YI BK525.out 0).trans rfl
   have q7_1 : w5.cell? ⟨gb525, 1, none⟩ = some (.slice A0_1 l0_1.length c0_1) := (YI BK525.out 1).trans rfl
   have f7_0 := YJ BK525.out 0
   have f7_1 := YJ BK525.out 1
   go_wp2
   repeat (go_quiet (fail); try go_wp2)
   go_meet
   case rel => exact ⟨_, (true), (by first | rfl | (simp; done) | (simp [*]; done)), H', ⟨by first | omega | exact Nat.le_refl _⟩, ⟨by (with_reducible repeat (first | apply Kd.V_alloc | apply Kd.V_drewN | apply Kd.V_drew)); exact HO1.out⟩, ⟨by (with_reducible repeat (first | apply Kd.V_alloc | apply Kd.V_drewN | apply Kd.V_drew)); exact HO2.out⟩, ⟨by (with_reducible repeat (first | apply Kd.V_alloc | apply Kd.V_drewN | apply Kd.V_drew)); exact HO0_1.out⟩, ⟨by (with_reducible repeat (first | refine YF ?_ _ | refine YG ?_ | refine YH ?_ _)); exact BK525.out⟩, ⟨by repeat (first | (with_reducible first | exact HB.out | apply YA | apply YB | apply YC | refine below_set ?_ GE525.out) | exact HB.out)⟩⟩
  rw [if_neg c6] at H
  have c6b0 : decide (60 < (l0_1.length : Int)) = false := decide_eq_false c6
  have c6b1 : decide (60 < l0_1.length) = false := decide_eq_false (by omega)
  clear c6
  (first | rw [c6b0] | (simp only [i64_w, i32_w]; rw [c6b0]) | rw [c6b1] | skip)
  by_cases c8 : (l1.length : Int) > 200
  ·rw [if_pos c8] at H
   have c8b0 : decide (200 < (l1.length : Int)) = true := decide_eq_true c8
   have c8b1 : decide (200 < l1.length) = true := decide_eq_true (by omega)
   clear c8
   have H' := YL H
   clear H
   have q9_0 : w5.cell? ⟨gb525, 0, none⟩ = some (.int .i64 a0_0) := (YI BK525.out 0).trans rfl
   have q9_1 : w5.cell? ⟨gb525, 1, none⟩ = some (.slice A0_1 l0_1.length c0_1) := (YI BK525.out 1).trans rfl
   have f9_0 := YJ BK525.out 0
   have f9_1 := YJ BK525.out 1
   go_wp2
   repeat (go_quiet (fail); try go_wp2)
   go_meet
   case rel => exact ⟨_, (true), (by first | rfl | (simp; done) | (simp [*]; done)), H', ⟨by first | omega | exact Nat.le_refl _⟩, ⟨by (with_reducible repeat (first | apply Kd.V_alloc | apply Kd.V_drewN | apply Kd.V_drew)); exact HO1.out⟩, ⟨by (with_reducible repeat (first | apply Kd.V_alloc | apply Kd.V_drewN | apply Kd.V_drew)); exact HO2.out⟩, ⟨by (with_reducible repeat (first | apply Kd.V_alloc | apply Kd.V_drewN | apply Kd.V_drew)); exact HO0_1.out⟩, ⟨by (with_reducible repeat (first | refine YF ?_ _ | refine YG ?_ | refine YH ?_ _)); exact BK525.out⟩, ⟨by repeat (first | (with_reducible first | exact HB.out | apply YA | apply YB | apply YC | refine below_set ?_ GE525.out) | exact HB.out)⟩⟩
  rw [if_neg c8] at H
  have c8b0 : decide (200 < (l1.length : Int)) = false := decide_eq_false c8
  have c8b1 : decide (200 < l1.length) = false := decide_eq_false (by omega)
  clear c8
  have H' := YL H
  clear H
  have q10_0 : w5.cell? ⟨gb525, 0, none⟩ = some (.int .i64 a0_0) := (YI BK525.out 0).trans rfl
  have q10_1 : w5.cell? ⟨gb525, 1, none⟩ = some (.slice A0_1 l0_1.length c0_1) := (YI BK525.out 1).trans rfl
  have f10_0 := YJ BK525.out 0
  have f10_1 := YJ BK525.out 1
  go_wp2
  repeat (go_quiet (fail); try go_wp2)
  go_meet
  case rel => exact ⟨_, (decide ((l2.length : Int) > 600)), (by first | rfl | (simp; done) | (simp [*]; done)), H', ⟨by first | omega | exact Nat.le_refl _⟩, ⟨by (with_reducible repeat (first | apply Kd.V_alloc | apply Kd.V_drewN | apply Kd.V_drew)); exact HO1.out⟩, ⟨by (with_reducible repeat (first | apply Kd.V_alloc | apply Kd.V_drewN | apply Kd.V_drew)); exact HO2.out⟩, ⟨by (with_reducible repeat (first | apply Kd.V_alloc | apply Kd.V_drewN | apply Kd.V_drew)); exact HO0_1.out⟩, ⟨by (with_reducible repeat (first | refine YF ?_ _ | refine YG ?_ | refine YH ?_ _)); exact BK525.out⟩, ⟨by repeat (first | (with_reducible first | exact HB.out | apply YA | apply YB | apply YC | refine below_set ?_ GE525.out) | exact HB.out)⟩⟩
 case rest =>
  clear HC4
  try clear c1; try clear c2
  try clear p2; try clear c6
  try clear c6b0; try clear c6b1
  try clear c7; try clear c8
  try clear c8b0; try clear c8b1
  try clear q10_0; try clear q10_1
  try clear q7_0; try clear q7_1
  try clear q9_0; try clear q9_1
  try clear f10_0; try clear f10_1
  try clear f7_0; try clear f7_1
  try clear f9_0; try clear f9_1
  obtain ⟨kq, x30_3, rfl, HA, HJ3, HO_1, HO_2, HO_526001, BK525, HB⟩ := hcut
  cases kq with
  | zero => exact absurd HA.out (by simp [thalweglaw05_BatchBack.j0])
  | succ kj3 =>
   have H := HA.out
   clear HA
   simp only [thalweglaw05_BatchBack.j0] at H
   by_cases c11 : x30_3 = true
   ·subst c11
    have H1 : (some true) = some r := by rw [if_pos rfl] at H; exact H
    clear H
    have H := H1
    clear H1
    obtain rfl := Option.some.inj H
    go_wp2
    repeat (go_quiet (fail); try go_wp2)
    go_ret
    exact ⟨by first | rfl | (simp [errW_none, errW_some] <;> rfl) | (simp [*, errW_none, errW_some] <;> rfl), by repeat (first | (with_reducible first | exact HB.out | apply YA | apply YB | apply YC | refine below_set ?_ GE525.out) | exact HB.out)⟩
   replace c11 := Bool.eq_false_iff.mpr c11
   subst c11
   have H1 : ((batch_Parse.f kj3 l2 0).bind fun bt526 => ((batch_Bytes.f kj3 bt526.1 bt526.2.1).bind fun bt533 => (if bt526.2.2.2 = 0 then (if bt533.2 = bt526.2.2.2 then (if bt526.2.2.1 < 5 then (thalweglaw05_BatchBack.j1 kj3 l1 l2 true a0_0 l0_1) else (if bt526.2.2.1 > (l2.length : Int) then (thalweglaw05_BatchBack.j1 kj3 l1 l2 true a0_0 l0_1) else (if 0 ≤ bt526.2.2.1 then (if bt526.2.2.1 ≤ (l2.length : Int) then (thalweglaw05_BatchBack.j1 kj3 l1 l2 ((strOfNums bt533.1).toList != (strOfNums (l2.take (bt526.2.2.1 : Int).toNat)).toList) a0_0 l0_1) else (none)) else (none)))) else (thalweglaw05_BatchBack.j1 kj3 l1 l2 true a0_0 l0_1)) else (thalweglaw05_BatchBack.j1 kj3 l1 l2 false a0_0 l0_1)))) = some r := by rw [if_neg (show ¬ (false = true) by decide)] at H; exact H
   clear H
   have H := H1
   clear H1; replace H := Option.bind_eq_some_iff.mp H
   obtain ⟨⟨t526, t527, t530, t531⟩, A120, H⟩ := H
   replace H : ((batch_Bytes.f kj3 t526 t527).bind fun bt533 => (if t531 = 0 then (if bt533.2 = t531 then (if t530 < 5 then (thalweglaw05_BatchBack.j1 kj3 l1 l2 true a0_0 l0_1) else (if t530 > (l2.length : Int) then (thalweglaw05_BatchBack.j1 kj3 l1 l2 true a0_0 l0_1) else (if 0 ≤ t530 then (if t530 ≤ (l2.length : Int) then (thalweglaw05_BatchBack.j1 kj3 l1 l2 ((strOfNums bt533.1).toList != (strOfNums (l2.take (t530 : Int).toNat)).toList) a0_0 l0_1) else (none)) else (none)))) else (thalweglaw05_BatchBack.j1 kj3 l1 l2 true a0_0 l0_1)) else (thalweglaw05_BatchBack.j1 kj3 l1 l2 false a0_0 l0_1))) = some r := H
   have A12 := YL A120; clear A120; replace H := Option.bind_eq_some_iff.mp H
   obtain ⟨⟨t533, t536⟩, A130, H⟩ := H
   replace H : (if t531 = 0 then (if t536 = t531 then (if t530 < 5 then (thalweglaw05_BatchBack.j1 kj3 l1 l2 true a0_0 l0_1) else (if t530 > (l2.length : Int) then (thalweglaw05_BatchBack.j1 kj3 l1 l2 true a0_0 l0_1) else (if 0 ≤ t530 then (if t530 ≤ (l2.length : Int) then (thalweglaw05_BatchBack.j1 kj3 l1 l2 ((strOfNums t533).toList != (strOfNums (l2.take (t530 : Int).toNat)).toList) a0_0 l0_1) else (none)) else (none)))) else (thalweglaw05_BatchBack.j1 kj3 l1 l2 true a0_0 l0_1)) else (thalweglaw05_BatchBack.j1 kj3 l1 l2 false a0_0 l0_1)) = some r := H
   have A13 := YL A130; clear A130; have HC14 := YL H; clear H
   go_upto_region 5 with (first | (go_at_call 21; (with_reducible refine (batch_Parse.calls kj3 _ _ l2 0 t526 t527 t530 t531 _ ?side1 ?side2 A12.out).mono ?_); (case side1 => repeat (first | exact (Kd.V_reads' HO_2.out).2.2 | (with_reducible refine Kd.C_alloc ?_ _) | (with_reducible refine Kd.C_drewN ?_ _) | (with_reducible refine Kd.C_drew ?_))); (case side2 => exact (Kd.V_reads' HO_2.out).2.1); rintro e w15 ⟨v528, rfl, ho0, hb⟩; have n0_ := YL (Kd.V_elder' (upV HO_1) (Kd.R_base ho0) hb); have n1_ := YL (Kd.V_elder' (upV HO_2) (Kd.R_base ho0) hb); have n2_ := YL (Kd.V_elder' (upV HO_526001) (Kd.R_base ho0) hb); have n3_ := YL (Kd.R_lower (Kd.R_newM (M := fun k_ => (w.heap.size ≤ k_)) ho0 (YE (upB HB)) (fun k_ h_ => h_)) (YE (upB HB))); have n4_ := YL (YK (g := gb525) (o := .cells #[.int .i64 a0_0, .slice A0_1 l0_1.length c0_1] 24 (0, 0)) (upK BK525) hb); have n5_ := YL (YD (upB HB) hb); clear HO_1; clear HO_2; clear HO_526001; clear BK525; clear HB; have HO_1 := n0_; have HO_2 := n1_; have HO_526001 := n2_; have HO529 := n3_; have BK525 := n4_; have HB := n5_; clear n0_ n1_ n2_ n3_ n4_ n5_; (try clear hb); (try clear hb2); (try clear hk); (try clear hi); (try clear ho0)) | ((with_reducible refine gate_dst (N := 7) rfl ?_); (try (refine gate_guard (by rfl) ?_; dsimp only)); refine box_event ?hg (N := 7) ?hd (cs := #[.int .i64 0, .slice none 0 0]) (t := 24) ?hr ?_; (case hd => rfl); (case hg => rfl); (case hr => first | (go_simp; done) | (go_simp; rfl)); intro gb532 hg w16 hbox hb; have n0_ := YL (Kd.V_below (Kd.V_elderB (upV HO_1) gb532 (Nat.le_of_eq hg.symm)) hb); have n1_ := YL (Kd.V_below (Kd.V_elderB (upV HO_2) gb532 (Nat.le_of_eq hg.symm)) hb); have n2_ := YL (Kd.V_below (Kd.V_elderB (upV HO_526001) gb532 (Nat.le_of_eq hg.symm)) hb); have n3_ := YL (YP (upR HO529) hb); have n4_ := YL (YK (g := gb525) (o := .cells #[.int .i64 a0_0, .slice A0_1 l0_1.length c0_1] 24 (0, 0)) (upK BK525) hb); have n5_ := YL (YD (upB HB) hb); have n6_ := YL (hbox); have n7_ := YL ((by rw [hg]; exact (YE (upB HB)) : w.heap.size ≤ gb532)); have n8_ := YL ((by rw [hg]; exact (YE (upB HB)) : w.heap.size ≤ gb532)); have n9_ := YL ((by rw [hg]; exact Nat.ne_of_lt (blk_lt (g := gb525) (o := .cells #[.int .i64 a0_0, .slice A0_1 l0_1.length c0_1] 24 (0, 0)) (upK BK525)) : gb525 ≠ gb532)); have n10_ := YL ((by rw [hg]; exact Nat.ne_of_gt (blk_lt (g := gb525) (o := .cells #[.int .i64 a0_0, .slice A0_1 l0_1.length c0_1] 24 (0, 0)) (upK BK525)) : gb532 ≠ gb525)); clear HO_1; clear HO_2; clear HO_526001; clear HO529; clear BK525; clear HB; have HO_1 := n0_; have HO_2 := n1_; have HO_526001 := n2_; have HO529 := n3_; have BK525 := n4_; have HB := n5_; have BK532 := n6_; have GW532 := n7_; have GE532 := n8_; have NB525_532 := n9_; have NB532_525 := n10_; clear n0_ n1_ n2_ n3_ n4_ n5_ n6_ n7_ n8_ n9_ n10_; clear hb hbox hg; have hnb17 := NB532_525.out; have hnc17 := NB525_532.out; have q18_0 : w16.cell? ⟨gb532, 0, none⟩ = some (.int .i64 0) := (YI BK532.out 0).trans rfl; have q18_1 : w16.cell? ⟨gb532, 1, none⟩ = some (.slice none 0 0) := (YI BK532.out 1).trans rfl; have f18_0 := YJ BK532.out 0; have f18_1 := YJ BK532.out 1; obtain ⟨Ao19, co19, eo19⟩ := Kd.R_slice HO529.out; subst eo19) | (go_at_call 9; (with_reducible refine (batch_Bytes.calls kj3 t526 _ _ t527 t533 t536 _ ?side1 ?side2 A13.out).mono ?_); (case side1 => refine (Kd.R_reads' (e := 45) (base := w.heap.size) (ok := fun k_ => ((w.heap.size ≤ k_) ∧ True)) (n := t527.length) (c := co19) ?_).2.2; exact (by (with_reducible repeat (first | apply YM | apply YN | apply YO)); exact (Kd.R_mono (Kd.R_far (p := ⟨gb532, 1, none⟩) (Kd.R_far (p := ⟨gb532, 0, none⟩) (Kd.R_types HO529.out BK532.out (by decide)) (fun _ hk => hk.2) (.int .i64 t526)) (fun _ hk => hk.2) (.slice Ao19 t527.length co19)) (fun _ h_ => h_.1)))); (case side2 => exact (Kd.R_reads' HO529.out).2.1); rintro e w20 ⟨v534, rfl, ho0, hb⟩; have n0_ := YL (Kd.V_elder' (by (with_reducible repeat (first | apply Kd.V_alloc | apply Kd.V_drewN | apply Kd.V_drew)); exact (Kd.V_mono (Kd.V_far (p := ⟨gb532, 1, none⟩) (Kd.V_far (p := ⟨gb532, 0, none⟩) (Kd.V_mono HO_1.out (fun k_ hk => (⟨hk, hk.2⟩ : _ ∧ k_ ≠ gb532))) (fun _ hk => hk.2) (.int .i64 t526)) (fun _ hk => hk.2) (.slice Ao19 t527.length co19)) (fun _ h_ => h_.1))) (Kd.R_base ho0) hb); have n1_ := YL (Kd.V_elder' (by (with_reducible repeat (first | apply Kd.V_alloc | apply Kd.V_drewN | apply Kd.V_drew)); exact (Kd.V_mono (Kd.V_far (p := ⟨gb532, 1, none⟩) (Kd.V_far (p := ⟨gb532, 0, none⟩) (Kd.V_mono HO_2.out (fun k_ hk => (⟨hk, hk.2⟩ : _ ∧ k_ ≠ gb532))) (fun _ hk => hk.2) (.int .i64 t526)) (fun _ hk => hk.2) (.slice Ao19 t527.length co19)) (fun _ h_ => h_.1))) (Kd.R_base ho0) hb); have n2_ := YL (Kd.V_elder' (by (with_reducible repeat (first | apply Kd.V_alloc | apply Kd.V_drewN | apply Kd.V_drew)); exact (Kd.V_mono (Kd.V_far (p := ⟨gb532, 1, none⟩) (Kd.V_far (p := ⟨gb532, 0, none⟩) (Kd.V_mono HO_526001.out (fun k_ hk => (⟨hk, hk.2⟩ : _ ∧ k_ ≠ gb532))) (fun _ hk => hk.2) (.int .i64 t526)) (fun _ hk => hk.2) (.slice Ao19 t527.length co19)) (fun _ h_ => h_.1))) (Kd.R_base ho0) hb); have n3_ := YL (YP (by (with_reducible repeat (first | apply YM | apply YN | apply YO)); exact (Kd.R_mono (Kd.R_far (p := ⟨gb532, 1, none⟩) (Kd.R_far (p := ⟨gb532, 0, none⟩) (Kd.R_types HO529.out BK532.out (by decide)) (fun _ hk => hk.2) (.int .i64 t526)) (fun _ hk => hk.2) (.slice Ao19 t527.length co19)) (fun _ h_ => h_.1))) hb); have n4_ := YL (Kd.R_lower (Kd.R_newM (M := fun k_ => (w.heap.size ≤ k_)) ho0 (YE (upB HB)) (fun k_ h_ => h_)) (YE (upB HB))); have n5_ := YL (YK (g := gb525) (o := .cells #[.int .i64 a0_0, .slice A0_1 l0_1.length c0_1] 24 (0, 0)) (by (with_reducible repeat (first | refine YF ?_ _ | refine YG ?_ | refine YH ?_ _)); refine blk_far ?_ NB525_532.out _; (with_reducible repeat (first | refine YF ?_ _ | refine YG ?_ | refine YH ?_ _)); refine blk_far ?_ NB525_532.out _; (with_reducible repeat (first | refine YF ?_ _ | refine YG ?_ | refine YH ?_ _)); exact BK525.out) hb); have n6_ := YL (YK (g := gb532) (o := .cells #[.int .i64 t526, .slice Ao19 t527.length co19] 24 (0, 0)) (by (with_reducible repeat (first | refine YF ?_ _ | refine YG ?_ | refine YH ?_ _)); refine blk_put (cs := #[.int .i64 t526, .slice none 0 0]) ?_ 1 _ rfl; (with_reducible repeat (first | refine YF ?_ _ | refine YG ?_ | refine YH ?_ _)); refine blk_put (cs := #[.int .i64 0, .slice none 0 0]) ?_ 0 _ rfl; (with_reducible repeat (first | refine YF ?_ _ | refine YG ?_ | refine YH ?_ _)); exact BK532.out) hb); have n7_ := YL (YD (upB HB) hb); clear HO_1; clear HO_2; clear HO_526001; clear HO529; clear BK525; clear BK532; clear HB; have HO_1 := n0_; have HO_2 := n1_; have HO_526001 := n2_; have HO529 := n3_; have HO535 := n4_; have BK525 := n5_; have BK532 := n6_; have HB := n7_; clear n0_ n1_ n2_ n3_ n4_ n5_ n6_ n7_; (try clear hb); (try clear hb2); (try clear hk); (try clear hi); (try clear ho0)))
   repeat (go_quiet (first | (go_at_call 21; (with_reducible refine (batch_Parse.calls kj3 _ _ l2 0 t526 t527 t530 t531 _ ?side1 ?side2 A12.out).mono ?_); (case side1 => repeat (first | exact (Kd.V_reads' HO_2.out).2.2 | (with_reducible refine Kd.C_alloc ?_ _) | (with_reducible refine Kd.C_drewN ?_ _) | (with_reducible refine Kd.C_drew ?_))); (case side2 => exact (Kd.V_reads' HO_2.out).2.1); rintro e w15 ⟨v528, rfl, ho0, hb⟩; have n0_ := YL (Kd.V_elder' (upV HO_1) (Kd.R_base ho0) hb); have n1_ := YL (Kd.V_elder' (upV HO_2) (Kd.R_base ho0) hb); have n2_ := YL (Kd.V_elder' (upV HO_526001) (Kd.R_base ho0) hb); have n3_ := YL (Kd.R_lower (Kd.R_newM (M := fun k_ => (w.heap.size ≤ k_)) ho0 (YE (upB HB)) (fun k_ h_ => h_)) (YE (upB HB))); have n4_ := YL (YK (g := gb525) (o := .cells #[.int .i64 a0_0, .slice A0_1 l0_1.length c0_1] 24 (0, 0)) (upK BK525) hb); have n5_ := YL (YD (upB HB) hb); clear HO_1; clear HO_2; clear HO_526001; clear BK525; clear HB; have HO_1 := n0_; have HO_2 := n1_; have HO_526001 := n2_; have HO529 := n3_; have BK525 := n4_; have HB := n5_; clear n0_ n1_ n2_ n3_ n4_ n5_; (try clear hb); (try clear hb2); (try clear hk); (try clear hi); (try clear ho0)) | ((with_reducible refine gate_dst (N := 7) rfl ?_); (try (refine gate_guard (by rfl) ?_; dsimp only)); refine box_event ?hg (N := 7) ?hd (cs := #[.int .i64 0, .slice none 0 0]) (t := 24) ?hr ?_; (case hd => rfl); (case hg => rfl); (case hr => first | (go_simp; done) | (go_simp; rfl)); intro gb532 hg w16 hbox hb; have n0_ := YL (Kd.V_below (Kd.V_elderB (upV HO_1) gb532 (Nat.le_of_eq hg.symm)) hb); have n1_ := YL (Kd.V_below (Kd.V_elderB (upV HO_2) gb532 (Nat.le_of_eq hg.symm)) hb); have n2_ := YL (Kd.V_below (Kd.V_elderB (upV HO_526001) gb532 (Nat.le_of_eq hg.symm)) hb); have n3_ := YL (YP (upR HO529) hb); have n4_ := YL (YK (g := gb525) (o := .cells #[.int .i64 a0_0, .slice A0_1 l0_1.length c0_1] 24 (0, 0)) (upK BK525) hb); have n5_ := YL (YD (upB HB) hb); have n6_ := YL (hbox); have n7_ := YL ((by rw [hg]; exact (YE (upB HB)) : w.heap.size ≤ gb532)); have n8_ := YL ((by rw [hg]; exact (YE (upB HB)) : w.heap.size ≤ gb532)); have n9_ := YL ((by rw [hg]; exact Nat.ne_of_lt (blk_lt (g := gb525) (o := .cells #[.int .i64 a0_0, .slice A0_1 l0_1.length c0_1] 24 (0, 0)) (upK BK525)) : gb525 ≠ gb532)); have n10_ := YL ((by rw [hg]; exact Nat.ne_of_gt (blk_lt (g := gb525) (o := .cells #[.int .i64 a0_0, .slice A0_1 l0_1.length c0_1] 24 (0, 0)) (upK BK525)) : gb532 ≠ gb525)); clear HO_1; clear HO_2; clear HO_526001; clear HO529; clear BK525; clear HB; have HO_1 := n0_; have HO_2 := n1_; have HO_526001 := n2_; have HO529 := n3_; have BK525 := n4_; have HB := n5_; have BK532 := n6_; have GW532 := n7_; have GE532 := n8_; have NB525_532 := n9_; have NB532_525 := n10_; clear n0_ n1_ n2_ n3_ n4_ n5_ n6_ n7_ n8_ n9_ n10_; clear hb hbox hg; have hnb17 := NB532_525.out; have hnc17 := NB525_532.out; have q18_0 : w16.cell? ⟨gb532, 0, none⟩ = some (.int .i64 0) := (YI BK532.out 0).trans rfl; have q18_1 : w16.cell? ⟨gb532, 1, none⟩ = some (.slice none 0 0) := (YI BK532.out 1).trans rfl; have f18_0 := YJ BK532.out 0; have f18_1 := YJ BK532.out 1; obtain ⟨Ao19, co19, eo19⟩ := Kd.R_slice HO529.out; subst eo19) | (go_at_call 9; (with_reducible refine (batch_Bytes.calls kj3 t526 _ _ t527 t533 t536 _ ?side1 ?side2 A13.out).mono ?_); (case side1 => refine (Kd.R_reads' (e := 45) (base := w.heap.size) (ok := fun k_ => ((w.heap.size ≤ k_) ∧ True)) (n := t527.length) (c := co19) ?_).2.2; exact (by (with_reducible repeat (first | apply YM | apply YN | apply YO)); exact (Kd.R_mono (Kd.R_far (p := ⟨gb532, 1, none⟩) (Kd.R_far (p := ⟨gb532, 0, none⟩) (Kd.R_types HO529.out BK532.out (by decide)) (fun _ hk => hk.2) (.int .i64 t526)) (fun _ hk => hk.2) (.slice Ao19 t527.length co19)) (fun _ h_ => h_.1)))); (case side2 => exact (Kd.R_reads' HO529.out).2.1); rintro e w20 ⟨v534, rfl, ho0, hb⟩; have n0_ := YL (Kd.V_elder' (by (with_reducible repeat (first | apply Kd.V_alloc | apply Kd.V_drewN | apply Kd.V_drew)); exact (Kd.V_mono (Kd.V_far (p := ⟨gb532, 1, none⟩) (Kd.V_far (p := ⟨gb532, 0, none⟩) (Kd.V_mono HO_1.out (fun k_ hk => (⟨hk, hk.2⟩ : _ ∧ k_ ≠ gb532))) (fun _ hk => hk.2) (.int .i64 t526)) (fun _ hk => hk.2) (.slice Ao19 t527.length co19)) (fun _ h_ => h_.1))) (Kd.R_base ho0) hb); have n1_ := YL (Kd.V_elder' (by (with_reducible repeat (first | apply Kd.V_alloc | apply Kd.V_drewN | apply Kd.V_drew)); exact (Kd.V_mono (Kd.V_far (p := ⟨gb532, 1, none⟩) (Kd.V_far (p := ⟨gb532, 0, none⟩) (Kd.V_mono HO_2.out (fun k_ hk => (⟨hk, hk.2⟩ : _ ∧ k_ ≠ gb532))) (fun _ hk => hk.2) (.int .i64 t526)) (fun _ hk => hk.2) (.slice Ao19 t527.length co19)) (fun _ h_ => h_.1))) (Kd.R_base ho0) hb); have n2_ := YL (Kd.V_elder' (by (with_reducible repeat (first | apply Kd.V_alloc | apply Kd.V_drewN | apply Kd.V_drew)); exact (Kd.V_mono (Kd.V_far (p := ⟨gb532, 1, none⟩) (Kd.V_far (p := ⟨gb532, 0, none⟩) (Kd.V_mono HO_526001.out (fun k_ hk => (⟨hk, hk.2⟩ : _ ∧ k_ ≠ gb532))) (fun _ hk => hk.2) (.int .i64 t526)) (fun _ hk => hk.2) (.slice Ao19 t527.length co19)) (fun _ h_ => h_.1))) (Kd.R_base ho0) hb); have n3_ := YL (YP (by (with_reducible repeat (first | apply YM | apply YN | apply YO)); exact (Kd.R_mono (Kd.R_far (p := ⟨gb532, 1, none⟩) (Kd.R_far (p := ⟨gb532, 0, none⟩) (Kd.R_types HO529.out BK532.out (by decide)) (fun _ hk => hk.2) (.int .i64 t526)) (fun _ hk => hk.2) (.slice Ao19 t527.length co19)) (fun _ h_ => h_.1))) hb); have n4_ := YL (Kd.R_lower (Kd.R_newM (M := fun k_ => (w.heap.size ≤ k_)) ho0 (YE (upB HB)) (fun k_ h_ => h_)) (YE (upB HB))); have n5_ := YL (YK (g := gb525) (o := .cells #[.int .i64 a0_0, .slice A0_1 l0_1.length c0_1] 24 (0, 0)) (by (with_reducible repeat (first | refine YF ?_ _ | refine YG ?_ | refine YH ?_ _)); refine blk_far ?_ NB525_532.out _; (with_reducible repeat (first | refine YF ?_ _ | refine YG ?_ | refine YH ?_ _)); refine blk_far ?_ NB525_532.out _; (with_reducible repeat (first | refine YF ?_ _ | refine YG ?_ | refine YH ?_ _)); exact BK525.out) hb); have n6_ := YL (YK (g := gb532) (o := .cells #[.int .i64 t526, .slice Ao19 t527.length co19] 24 (0, 0)) (by (with_reducible repeat (first | refine YF ?_ _ | refine YG ?_ | refine YH ?_ _)); refine blk_put (cs := #[.int .i64 t526, .slice none 0 0]) ?_ 1 _ rfl; (with_reducible repeat (first | refine YF ?_ _ | refine YG ?_ | refine YH ?_ _)); refine blk_put (cs := #[.int .i64 0, .slice none 0 0]) ?_ 0 _ rfl; (with_reducible repeat (first | refine YF ?_ _ | refine YG ?_ | refine YH ?_ _)); exact BK532.out) hb); have n7_ := YL (YD (upB HB) hb); clear HO_1; clear HO_2; clear HO_526001; clear HO529; clear BK525; clear BK532; clear HB; have HO_1 := n0_; have HO_2 := n1_; have HO_526001 := n2_; have HO529 := n3_; have HO535 := n4_; have BK525 := n5_; have BK532 := n6_; have HB := n7_; clear n0_ n1_ n2_ n3_ n4_ n5_ n6_ n7_; (try clear hb); (try clear hb2); (try clear hk); (try clear hi); (try clear ho0))); go_upto_region 5 with (first | (go_at_call 21; (with_reducible refine (batch_Parse.calls kj3 _ _ l2 0 t526 t527 t530 t531 _ ?side1 ?side2 A12.out).mono ?_); (case side1 => repeat (first | exact (Kd.V_reads' HO_2.out).2.2 | (with_reducible refine Kd.C_alloc ?_ _) | (with_reducible refine Kd.C_drewN ?_ _) | (with_reducible refine Kd.C_drew ?_))); (case side2 => exact (Kd.V_reads' HO_2.out).2.1); rintro e w15 ⟨v528, rfl, ho0, hb⟩; have n0_ := YL (Kd.V_elder' (upV HO_1) (Kd.R_base ho0) hb); have n1_ := YL (Kd.V_elder' (upV HO_2) (Kd.R_base ho0) hb); have n2_ := YL (Kd.V_elder' (upV HO_526001) (Kd.R_base ho0) hb); have n3_ := YL (Kd.R_lower (Kd.R_newM (M := fun k_ => (w.heap.size ≤ k_)) ho0 (YE (upB HB)) (fun k_ h_ => h_)) (YE (upB HB))); have n4_ := YL (YK (g := gb525) (o := .cells #[.int .i64 a0_0, .slice A0_1 l0_1.length c0_1] 24 (0, 0)) (upK BK525) hb); have n5_ := YL (YD (upB HB) hb); clear HO_1; clear HO_2; clear HO_526001; clear BK525; clear HB; have HO_1 := n0_; have HO_2 := n1_; have HO_526001 := n2_; have HO529 := n3_; have BK525 := n4_; have HB := n5_; clear n0_ n1_ n2_ n3_ n4_ n5_; (try clear hb); (try clear hb2); (try clear hk); (try clear hi); (try clear ho0)) | ((with_reducible refine gate_dst (N := 7) rfl ?_); (try (refine gate_guard (by rfl) ?_; dsimp only)); refine box_event ?hg (N := 7) ?hd (cs := #[.int .i64 0, .slice none 0 0]) (t := 24) ?hr ?_; (case hd => rfl); (case hg => rfl); (case hr => first | (go_simp; done) | (go_simp; rfl)); intro gb532 hg w16 hbox hb; have n0_ := YL (Kd.V_below (Kd.V_elderB (upV HO_1) gb532 (Nat.le_of_eq hg.symm)) hb); have n1_ := YL (Kd.V_below (Kd.V_elderB (upV HO_2) gb532 (Nat.le_of_eq hg.symm)) hb); have n2_ := YL (Kd.V_below (Kd.V_elderB (upV HO_526001) gb532 (Nat.le_of_eq hg.symm)) hb); have n3_ := YL (YP (upR HO529) hb); have n4_ := YL (YK (g := gb525) (o := .cells #[.int .i64 a0_0, .slice A0_1 l0_1.length c0_1] 24 (0, 0)) (upK BK525) hb); have n5_ := YL (YD (upB HB) hb); have n6_ := YL (hbox); have n7_ := YL ((by rw [hg]; exact (YE (upB HB)) : w.heap.size ≤ gb532)); have n8_ := YL ((by rw [hg]; exact (YE (upB HB)) : w.heap.size ≤ gb532)); have n9_ := YL ((by rw [hg]; exact Nat.ne_of_lt (blk_lt (g := gb525) (o := .cells #[.int .i64 a0_0, .slice A0_1 l0_1.length c0_1] 24 (0, 0)) (upK BK525)) : gb525 ≠ gb532)); have n10_ := YL ((by rw [hg]; exact Nat.ne_of_gt (blk_lt (g := gb525) (o := .cells #[.int .i64 a0_0, .slice A0_1 l0_1.length c0_1] 24 (0, 0)) (upK BK525)) : gb532 ≠ gb525)); clear HO_1; clear HO_2; clear HO_526001; clear HO529; clear BK525; clear HB; have HO_1 := n0_; have HO_2 := n1_; have HO_526001 := n2_; have HO529 := n3_; have BK525 := n4_; have HB := n5_; have BK532 := n6_; have GW532 := n7_; have GE532 := n8_; have NB525_532 := n9_; have NB532_525 := n10_; clear n0_ n1_ n2_ n3_ n4_ n5_ n6_ n7_ n8_ n9_ n10_; clear hb hbox hg; have hnb17 := NB532_525.out; have hnc17 := NB525_532.out; have q18_0 : w16.cell? ⟨gb532, 0, none⟩ = some (.int .i64 0) := (YI BK532.out 0).trans rfl; have q18_1 : w16.cell? ⟨gb532, 1, none⟩ = some (.slice none 0 0) := (YI BK532.out 1).trans rfl; have f18_0 := YJ BK532.out 0; have f18_1 := YJ BK532.out 1; obtain ⟨Ao19, co19, eo19⟩ := Kd.R_slice HO529.out; subst eo19) | (go_at_call 9; (with_reducible refine (batch_Bytes.calls kj3 t526 _ _ t527 t533 t536 _ ?side1 ?side2 A13.out).mono ?_); (case side1 => refine (Kd.R_reads' (e := 45) (base := w.heap.size) (ok := fun k_ => ((w.heap.size ≤ k_) ∧ True)) (n := t527.length) (c := co19) ?_).2.2; exact (by (with_reducible repeat (first | apply YM | apply YN | apply YO)); exact (Kd.R_mono (Kd.R_far (p := ⟨gb532, 1, none⟩) (Kd.R_far (p := ⟨gb532, 0, none⟩) (Kd.R_types HO529.out BK532.out (by decide)) (fun _ hk => hk.2) (.int .i64 t526)) (fun _ hk => hk.2) (.slice Ao19 t527.length co19)) (fun _ h_ => h_.1)))); (case side2 => exact (Kd.R_reads' HO529.out).2.1); rintro e w20 ⟨v534, rfl, ho0, hb⟩; have n0_ := YL (Kd.V_elder' (by (with_reducible repeat (first | apply Kd.V_alloc | apply Kd.V_drewN | apply Kd.V_drew)); exact (Kd.V_mono (Kd.V_far (p := ⟨gb532, 1, none⟩) (Kd.V_far (p := ⟨gb532, 0, none⟩) (Kd.V_mono HO_1.out (fun k_ hk => (⟨hk, hk.2⟩ : _ ∧ k_ ≠ gb532))) (fun _ hk => hk.2) (.int .i64 t526)) (fun _ hk => hk.2) (.slice Ao19 t527.length co19)) (fun _ h_ => h_.1))) (Kd.R_base ho0) hb); have n1_ := YL (Kd.V_elder' (by (with_reducible repeat (first | apply Kd.V_alloc | apply Kd.V_drewN | apply Kd.V_drew)); exact (Kd.V_mono (Kd.V_far (p := ⟨gb532, 1, none⟩) (Kd.V_far (p := ⟨gb532, 0, none⟩) (Kd.V_mono HO_2.out (fun k_ hk => (⟨hk, hk.2⟩ : _ ∧ k_ ≠ gb532))) (fun _ hk => hk.2) (.int .i64 t526)) (fun _ hk => hk.2) (.slice Ao19 t527.length co19)) (fun _ h_ => h_.1))) (Kd.R_base ho0) hb); have n2_ := YL (Kd.V_elder' (by (with_reducible repeat (first | apply Kd.V_alloc | apply Kd.V_drewN | apply Kd.V_drew)); exact (Kd.V_mono (Kd.V_far (p := ⟨gb532, 1, none⟩) (Kd.V_far (p := ⟨gb532, 0, none⟩) (Kd.V_mono HO_526001.out (fun k_ hk => (⟨hk, hk.2⟩ : _ ∧ k_ ≠ gb532))) (fun _ hk => hk.2) (.int .i64 t526)) (fun _ hk => hk.2) (.slice Ao19 t527.length co19)) (fun _ h_ => h_.1))) (Kd.R_base ho0) hb); have n3_ := YL (YP (by (with_reducible repeat (first | apply YM | apply YN | apply YO)); exact (Kd.R_mono (Kd.R_far (p := ⟨gb532, 1, none⟩) (Kd.R_far (p := ⟨gb532, 0, none⟩) (Kd.R_types HO529.out BK532.out (by decide)) (fun _ hk => hk.2) (.int .i64 t526)) (fun _ hk => hk.2) (.slice Ao19 t527.length co19)) (fun _ h_ => h_.1))) hb); have n4_ := YL (Kd.R_lower (Kd.R_newM (M := fun k_ => (w.heap.size ≤ k_)) ho0 (YE (upB HB)) (fun k_ h_ => h_)) (YE (upB HB))); have n5_ := YL (YK (g := gb525) (o := .cells #[.int .i64 a0_0, .slice A0_1 l0_1.length c0_1] 24 (0, 0)) (by (with_reducible repeat (first | refine YF ?_ _ | refine YG ?_ | refine YH ?_ _)); refine blk_far ?_ NB525_532.out _; (with_reducible repeat (first | refine YF ?_ _ | refine YG ?_ | refine YH ?_ _)); refine blk_far ?_ NB525_532.out _; (with_reducible repeat (first | refine YF ?_ _ | refine YG ?_ | refine YH ?_ _)); exact BK525.out) hb); have n6_ := YL (YK (g := gb532) (o := .cells #[.int .i64 t526, .slice Ao19 t527.length co19] 24 (0, 0)) (by (with_reducible repeat (first | refine YF ?_ _ | refine YG ?_ | refine YH ?_ _)); refine blk_put (cs := #[.int .i64 t526, .slice none 0 0]) ?_ 1 _ rfl; (with_reducible repeat (first | refine YF ?_ _ | refine YG ?_ | refine YH ?_ _)); refine blk_put (cs := #[.int .i64 0, .slice none 0 0]) ?_ 0 _ rfl; (with_reducible repeat (first | refine YF ?_ _ | refine YG ?_ | refine YH ?_ _)); exact BK532.out) hb); have n7_ := YL (YD (upB HB) hb); clear HO_1; clear HO_2; clear HO_526001; clear HO529; clear BK525; clear BK532; clear HB; have HO_1 := n0_; have HO_2 := n1_; have HO_526001 := n2_; have HO529 := n3_; have HO535 := n4_; have BK525 := n5_; have BK532 := n6_; have HB := n7_; clear n0_ n1_ n2_ n3_ n4_ n5_ n6_ n7_; (try clear hb); (try clear hb2); (try clear hk); (try clear hi); (try clear ho0))))
   (try simp only [Act.put, List.setIfInBounds_toArray, List.set_cons_zero, List.set_cons_succ])
   go_cut [67] (fun v67 wc => ∃ (kq : Nat) (x67_13 : Bool), v67 = .bool x67_13 ∧ Aside0 (thalweglaw05_BatchBack.j1 kq l1 l2 x67_13 a0_0 l0_1 = some r) ∧ Aside0 (kq ≤ kj3) ∧ Aside0 (Kd.V (Kd.int .u8) 5 wc w.heap.size (fun k_ => ((P0_1_ k_ ∨ P1_ k_ ∨ P2_ k_) ∨ w.heap.size ≤ k_) ∧ some k_ ≠ ((.slice Ao19 t527.length co19) : Value).ownBlock ∧ k_ ≠ gb525 ∧ k_ ≠ gb532) (.slice A1 l1.length c1) l1) ∧ Aside0 (Kd.V (Kd.int .u8) 5 wc w.heap.size (fun k_ => ((P0_1_ k_ ∨ P1_ k_ ∨ P2_ k_) ∨ w.heap.size ≤ k_) ∧ some k_ ≠ ((.slice Ao19 t527.length co19) : Value).ownBlock ∧ k_ ≠ gb525 ∧ k_ ≠ gb532) (.slice A2 l2.length c2) l2) ∧ Aside0 (Kd.V k45 45 wc w.heap.size (fun k_ => ((P0_1_ k_ ∨ P1_ k_ ∨ P2_ k_) ∨ w.heap.size ≤ k_) ∧ some k_ ≠ ((.slice Ao19 t527.length co19) : Value).ownBlock ∧ k_ ≠ gb525 ∧ k_ ≠ gb532) (.slice A0_1 l0_1.length c0_1) l0_1) ∧ Aside0 (Kd.R k45 45 wc w.heap.size (fun k_ => (w.heap.size ≤ k_)) (.slice Ao19 t527.length co19) t527) ∧ Aside0 (wc.heap[gb525]? = some (.cells #[.int .i64 a0_0, (.slice A0_1 l0_1.length c0_1)] 24 (0, 0))) ∧ Aside0 (wc.heap[gb532]? = some (.cells #[.int .i64 t526, (.slice Ao19 t527.length co19)] 24 (0, 0))) ∧ Aside0 (Below w.heap.size w wc))
   case first =>
    have H := HC14.out
    clear HC14
    by_cases c21 : t531 = 0
    ·rw [if_pos c21] at H
     have c21b0 : (t531 == 0) = true := beq_iff_eq.mpr c21
     have c21b1 : (t531 != 0) = false := bne_eq_false_iff_eq.mpr c21
     clear c21
     (first | rw [c21b0] | (simp only [i64_w, i32_w]; rw [c21b0]) | rw [c21b1] | skip)
     by_cases c22 : t536 = t531
     ·rw [if_pos c22] at H
      have c22b0 : (t536 == t531) = true := beq_iff_eq.mpr c22
      have c22b1 : (t536 != t531) = false := bne_eq_false_iff_eq.mpr c22
      clear c22
      by_cases c23 : t530 < 5
      ·rw [if_pos c23] at H
       have c23b0 : decide (t530 < 5) = true := decide_eq_true c23; clear c23
       have H' := YL H
       clear H
       go_wp2
       repeat (go_quiet (fail); try go_wp2)
       go_meet
       case rel => exact ⟨_, (true), (by first | rfl | (simp; done) | (simp [*]; done)), H', ⟨by have := HJ3.out; first | omega | exact Nat.le_refl _⟩, ⟨by (with_reducible repeat (first | apply Kd.V_alloc | apply Kd.V_drewN | apply Kd.V_drew)); exact Kd.V_mono HO_1.out (fun _ hk => by first | exact ⟨hk.1.1.1.1, ⟨hk.1.1.2, ⟨hk.1.1.1.2, hk.1.2⟩⟩⟩ | exact trivial | (simp [hk]; done) | simp_all)⟩, ⟨by (with_reducible repeat (first | apply Kd.V_alloc | apply Kd.V_drewN | apply Kd.V_drew)); exact Kd.V_mono HO_2.out (fun _ hk => by first | exact ⟨hk.1.1.1.1, ⟨hk.1.1.2, ⟨hk.1.1.1.2, hk.1.2⟩⟩⟩ | exact trivial | (simp [hk]; done) | simp_all)⟩, ⟨by (with_reducible repeat (first | apply Kd.V_alloc | apply Kd.V_drewN | apply Kd.V_drew)); exact Kd.V_mono HO_526001.out (fun _ hk => by first | exact ⟨hk.1.1.1.1, ⟨hk.1.1.2, ⟨hk.1.1.1.2, hk.1.2⟩⟩⟩ | exact trivial | (simp [hk]; done) | simp_all)⟩, ⟨by (with_reducible repeat (first | apply YM | apply YN | apply YO)); exact Kd.R_mono HO529.out (fun _ hk => by first | exact hk.1 | exact trivial | (simp [hk]; done) | simp_all)⟩, ⟨by (with_reducible repeat (first | refine YF ?_ _ | refine YG ?_ | refine YH ?_ _)); exact BK525.out⟩, ⟨by (with_reducible repeat (first | refine YF ?_ _ | refine YG ?_ | refine YH ?_ _)); exact BK532.out⟩, ⟨by repeat (first | (with_reducible first | exact HB.out | apply YA | apply YB | apply YC | refine below_set ?_ GE525.out | refine below_set ?_ GE532.out) | exact HB.out)⟩⟩
      rw [if_neg c23] at H; have c23b0 : decide (t530 < 5) = false := decide_eq_false c23; clear c23
      by_cases c24 : t530 > (l2.length : Int)
      ·rw [if_pos c24] at H
       have c24b0 : decide ((l2.length : Int) < t530) = true := decide_eq_true c24
       clear c24
       have H' := YL H
       clear H
       go_wp2
       repeat (go_quiet (fail); try go_wp2)
       go_meet
       case rel => exact ⟨_, (true), (by first | rfl | (simp; done) | (simp [*]; done)), H', ⟨by have := HJ3.out; first | omega | exact Nat.le_refl _⟩, ⟨by (with_reducible repeat (first | apply Kd.V_alloc | apply Kd.V_drewN | apply Kd.V_drew)); exact Kd.V_mono HO_1.out (fun _ hk => by first | exact ⟨hk.1.1.1.1, ⟨hk.1.1.2, ⟨hk.1.1.1.2, hk.1.2⟩⟩⟩ | exact trivial | (simp [hk]; done) | simp_all)⟩, ⟨by (with_reducible repeat (first | apply Kd.V_alloc | apply Kd.V_drewN | apply Kd.V_drew)); exact Kd.V_mono HO_2.out (fun _ hk => by first | exact ⟨hk.1.1.1.1, ⟨hk.1.1.2, ⟨hk.1.1.1.2, hk.1.2⟩⟩⟩ | exact trivial | (simp [hk]; done) | simp_all)⟩, ⟨by (with_reducible repeat (first | apply Kd.V_alloc | apply Kd.V_drewN | apply Kd.V_drew)); exact Kd.V_mono HO_526001.out (fun _ hk => by first | exact ⟨hk.1.1.1.1, ⟨hk.1.1.2, ⟨hk.1.1.1.2, hk.1.2⟩⟩⟩ | exact trivial | (simp [hk]; done) | simp_all)⟩, ⟨by (with_reducible repeat (first | apply YM | apply YN | apply YO)); exact Kd.R_mono HO529.out (fun _ hk => by first | exact hk.1 | exact trivial | (simp [hk]; done) | simp_all)⟩, ⟨by (with_reducible repeat (first | refine YF ?_ _ | refine YG ?_ | refine YH ?_ _)); exact BK525.out⟩, ⟨by (with_reducible repeat (first | refine YF ?_ _ | refine YG ?_ | refine YH ?_ _)); exact BK532.out⟩, ⟨by repeat (first | (with_reducible first | exact HB.out | apply YA | apply YB | apply YC | refine below_set ?_ GE525.out | refine below_set ?_ GE532.out) | exact HB.out)⟩⟩
      rw [if_neg c24] at H
      have c24b0 : decide ((l2.length : Int) < t530) = false := decide_eq_false c24
      clear c24
      by_cases c25 : 0 ≤ t530
      rotate_left
      ·rw [if_neg c25] at H
       exact absurd H (by simp)
      rw [if_pos c25] at H
      have c25b0 := eq_true c25
      have c25b1 : decide (0 ≤ t530) = true := decide_eq_true c25; clear c25
      by_cases c26 : t530 ≤ (l2.length : Int)
      rotate_left
      ·rw [if_neg c26] at H
       exact absurd H (by simp)
      rw [if_pos c26] at H
      have c26b0 := eq_true c26
      have c26b1 : decide (t530 ≤ (l2.length : Int)) = true := decide_eq_true c26
      clear c26
      obtain ⟨y537, hy537⟩ : ∃ y_ : List Int, y_ = (l2.take (t530 : Int).toNat) := ⟨_, rfl⟩
      replace H : (thalweglaw05_BatchBack.j1 kj3 l1 l2 ((strOfNums t533).toList != (strOfNums y537).toList) a0_0 l0_1) = some r := by first | (rw [hy537]; with_reducible exact H) | (have H2_ := (Option.bind_some _ _).symm.trans H; rw [hy537]; with_reducible exact H2_) | (have H2_ := (Option.bind_some _ _).symm.trans H; with_reducible exact H2_) | with_reducible exact H | (rw [hy537]; exact H) | exact H
      have Ny537 := YL hy537; clear hy537
      have H' := YL H
      clear H
      have hcv27 := own_string (P := Try.prog) Try.underlying26 Try.underlying5 Try.underlying9 (Kd.own_of_R HO535.out)
      have q28 : (t530 : Int) ≤ ((l2.length : Int) : Int) := of_decide_eq_true (by first | (with_reducible assumption) | assumption)
      obtain ⟨i028, hi028, _, hsz28, _⟩ := info_parts info5
      have hroom28 : l2.length ≤ c2 := (Kd.V_reads' HO_2.out).2.1
      have hC28 : Kd.F (Kd.int .u8) _ _ A2 l2.length l2 := (Kd.V_at (base := w.heap.size) HO_2.out).2.2
      have hcut28 := cut_to (P := Try.prog) 26 5 .i64 Try.underlying26 hi028 A2 l2.length c2 t530 (of_decide_eq_true (by first | (with_reducible assumption) | assumption)) q28 hroom28
      have hr28 := Kd.F_take (m := (t530 : Int).toNat) hC28 (by omega)
      have hy28 : y537.length = (t530 : Int).toNat := (by rw [Ny537.out, List.length_take]; omega)
      rw [← Ny537.out] at hr28
      rw [← hy28] at hcut28
      have HO541 := YL (show Kd.V (Kd.int .u8) 5 _ w.heap.size _ (.slice A2 y537.length c2) y537 from Kd.V_mk (by omega) hr28)
      have HC541 := YL (show y537.length ≤ c2 from by omega)
      clear hr28 hC28 hroom28 hi028 hsz28; have KY28 := YL hy28; clear hy28
      replace q28 := eq_true q28
      have hcv29 := Kd.C_string (P := Try.prog) (A := A2) (c := c2) Try.underlying26 Try.underlying5 Try.underlying9 (Kd.V_reads' HO541.out).2.2
      have hcvA := fun n : Nat => own_string (P := Try.prog) Try.underlying26 Try.underlying5 Try.underlying9 (Kd.own_of_R (YN HO535.out n))
      have hcvB := fun n : Nat => Kd.C_string (P := Try.prog) (A := A2) (c := c2) Try.underlying26 Try.underlying5 Try.underlying9 (Kd.V_reads' (Kd.V_drewN HO541.out n)).2.2
      go_wp2
      repeat (go_quiet (fail); try go_wp2)
      go_meet
      case rel => exact ⟨_, (((strOfNums t533).toList != (strOfNums y537).toList)), (by first | rfl | (simp; done) | (simp [*]; done)), H', ⟨by have := HJ3.out; first | omega | exact Nat.le_refl _⟩, ⟨by (with_reducible repeat (first | apply Kd.V_alloc | apply Kd.V_drewN | apply Kd.V_drew)); exact Kd.V_mono HO_1.out (fun _ hk => by first | exact ⟨hk.1.1.1.1, ⟨hk.1.1.2, ⟨hk.1.1.1.2, hk.1.2⟩⟩⟩ | exact trivial | (simp [hk]; done) | simp_all)⟩, ⟨by (with_reducible repeat (first | apply Kd.V_alloc | apply Kd.V_drewN | apply Kd.V_drew)); exact Kd.V_mono HO_2.out (fun _ hk => by first | exact ⟨hk.1.1.1.1, ⟨hk.1.1.2, ⟨hk.1.1.1.2, hk.1.2⟩⟩⟩ | exact trivial | (simp [hk]; done) | simp_all)⟩, ⟨by (with_reducible repeat (first | apply Kd.V_alloc | apply Kd.V_drewN | apply Kd.V_drew)); exact Kd.V_mono HO_526001.out (fun _ hk => by first | exact ⟨hk.1.1.1.1, ⟨hk.1.1.2, ⟨hk.1.1.1.2, hk.1.2⟩⟩⟩ | exact trivial | (simp [hk]; done) | simp_all)⟩, ⟨by (with_reducible repeat (first | apply YM | apply YN | apply YO)); exact Kd.R_mono HO529.out (fun _ hk => by first | exact hk.1 | exact trivial | (simp [hk]; done) | simp_all)⟩, ⟨by (with_reducible repeat (first | refine YF ?_ _ | refine YG ?_ | refine YH ?_ _)); exact BK525.out⟩, ⟨by (with_reducible repeat (first | refine YF ?_ _ | refine YG ?_ | refine YH ?_ _)); exact BK532.out⟩, ⟨by repeat (first | (with_reducible first | exact HB.out | apply YA | apply YB | apply YC | refine below_set ?_ GE525.out | refine below_set ?_ GE532.out) | exact HB.out)⟩⟩
     rw [if_neg c22] at H
     have c22b0 : (t536 == t531) = false := beq_eq_false_iff_ne.mpr c22
     have c22b1 : (t536 != t531) = true := bne_iff_ne.mpr c22
     have H' := YL H
     clear H
     go_wp2
     repeat (go_quiet (fail); try go_wp2)
     go_meet
     case rel => exact ⟨_, (true), (by first | rfl | (simp; done) | (simp [*]; done)), H', ⟨by have := HJ3.out; first | omega | exact Nat.le_refl _⟩, ⟨by (with_reducible repeat (first | apply Kd.V_alloc | apply Kd.V_drewN | apply Kd.V_drew)); exact Kd.V_mono HO_1.out (fun _ hk => by first | exact ⟨hk.1.1.1.1, ⟨hk.1.1.2, ⟨hk.1.1.1.2, hk.1.2⟩⟩⟩ | exact trivial | (simp [hk]; done) | simp_all)⟩, ⟨by (with_reducible repeat (first | apply Kd.V_alloc | apply Kd.V_drewN | apply Kd.V_drew)); exact Kd.V_mono HO_2.out (fun _ hk => by first | exact ⟨hk.1.1.1.1, ⟨hk.1.1.2, ⟨hk.1.1.1.2, hk.1.2⟩⟩⟩ | exact trivial | (simp [hk]; done) | simp_all)⟩, ⟨by (with_reducible repeat (first | apply Kd.V_alloc | apply Kd.V_drewN | apply Kd.V_drew)); exact Kd.V_mono HO_526001.out (fun _ hk => by first | exact ⟨hk.1.1.1.1, ⟨hk.1.1.2, ⟨hk.1.1.1.2, hk.1.2⟩⟩⟩ | exact trivial | (simp [hk]; done) | simp_all)⟩, ⟨by (with_reducible repeat (first | apply YM | apply YN | apply YO)); exact Kd.R_mono HO529.out (fun _ hk => by first | exact hk.1 | exact trivial | (simp [hk]; done) | simp_all)⟩, ⟨by (with_reducible repeat (first | refine YF ?_ _ | refine YG ?_ | refine YH ?_ _)); exact BK525.out⟩, ⟨by (with_reducible repeat (first | refine YF ?_ _ | refine YG ?_ | refine YH ?_ _)); exact BK532.out⟩, ⟨by repeat (first | (with_reducible first | exact HB.out | apply YA | apply YB | apply YC | refine below_set ?_ GE525.out | refine below_set ?_ GE532.out) | exact HB.out)⟩⟩
    rw [if_neg c21] at H
    have c21b0 : (t531 == 0) = false := beq_eq_false_iff_ne.mpr c21
    have c21b1 : (t531 != 0) = true := bne_iff_ne.mpr c21
    (first | rw [c21b0] | (simp only [i64_w, i32_w]; rw [c21b0]) | rw [c21b1] | skip)
    have H' := YL H
    clear H
    go_wp2
    repeat (go_quiet (fail); try go_wp2)
    go_meet
    case rel => exact ⟨_, (false), (by first | rfl | (simp; done) | (simp [*]; done)), H', ⟨by have := HJ3.out; first | omega | exact Nat.le_refl _⟩, ⟨by (with_reducible repeat (first | apply Kd.V_alloc | apply Kd.V_drewN | apply Kd.V_drew)); exact Kd.V_mono HO_1.out (fun _ hk => by first | exact ⟨hk.1.1.1.1, ⟨hk.1.1.2, ⟨hk.1.1.1.2, hk.1.2⟩⟩⟩ | exact trivial | (simp [hk]; done) | simp_all)⟩, ⟨by (with_reducible repeat (first | apply Kd.V_alloc | apply Kd.V_drewN | apply Kd.V_drew)); exact Kd.V_mono HO_2.out (fun _ hk => by first | exact ⟨hk.1.1.1.1, ⟨hk.1.1.2, ⟨hk.1.1.1.2, hk.1.2⟩⟩⟩ | exact trivial | (simp [hk]; done) | simp_all)⟩, ⟨by (with_reducible repeat (first | apply Kd.V_alloc | apply Kd.V_drewN | apply Kd.V_drew)); exact Kd.V_mono HO_526001.out (fun _ hk => by first | exact ⟨hk.1.1.1.1, ⟨hk.1.1.2, ⟨hk.1.1.1.2, hk.1.2⟩⟩⟩ | exact trivial | (simp [hk]; done) | simp_all)⟩, ⟨by (with_reducible repeat (first | apply YM | apply YN | apply YO)); exact Kd.R_mono HO529.out (fun _ hk => by first | exact hk.1 | exact trivial | (simp [hk]; done) | simp_all)⟩, ⟨by (with_reducible repeat (first | refine YF ?_ _ | refine YG ?_ | refine YH ?_ _)); exact BK525.out⟩, ⟨by (with_reducible repeat (first | refine YF ?_ _ | refine YG ?_ | refine YH ?_ _)); exact BK532.out⟩, ⟨by repeat (first | (with_reducible first | exact HB.out | apply YA | apply YB | apply YC | refine below_set ?_ GE525.out | refine below_set ?_ GE532.out) | exact HB.out)⟩⟩
   case rest =>
    clear HC14
    try clear c1; try clear c2
    try clear p2; try clear q2
    try clear hcv2; try clear c6
    try clear c6b0; try clear c6b1
    try clear c7; try clear c8
    try clear c8b0; try clear c8b1
    try clear c11; try clear c17
    try clear c21; try clear c21b0
    try clear c21b1; try clear c22
    try clear c22b0; try clear c22b1
    try clear c23; try clear c23b0
    try clear c24; try clear c24b0
    try clear c25; try clear c25b0
    try clear c25b1; try clear c26
    try clear c26b0; try clear c26b1
    try clear hcv27; try clear q28
    try clear hcv29; try clear q10_0
    try clear q10_1; try clear q18_0
    try clear q18_1; try clear q7_0
    try clear q7_1; try clear q9_0
    try clear q9_1; try clear f10_0
    try clear f10_1; try clear f18_0
    try clear f18_1; try clear f7_0
    try clear f7_1; try clear f9_0
    try clear f9_1; try clear p2; try clear q28
    obtain ⟨kq, x67_13, rfl, HA, HJ13, HO_1, HO_2, HO_526001, HO_533001, BK525, BK532, HB⟩ := hcut
    cases kq with
    | zero => exact absurd HA.out (by simp [thalweglaw05_BatchBack.j1])
    | succ kj13 =>
     have H := HA.out
     clear HA
     simp only [thalweglaw05_BatchBack.j1] at H
     by_cases c30 : x67_13 = true
     ·subst c30
      have H1 : (none) = some r := by rw [if_pos rfl] at H; exact H
      clear H
      have H := H1
      clear H1
      exact absurd H (by simp)
     replace c30 := Bool.eq_false_iff.mpr c30
     subst c30
     have H1 : ((batch_Bytes.f kj13 a0_0 l0_1).bind fun bt542 => ((thalwegref01_Both.f kj13 (([l1, bt542.1, l2] : List (List Int)))).bind fun t549 => ((batch_Parse.f kj13 t549 (l1.length : Int)).bind fun bt552 => (if bt542.2 = 0 then ((thalweglaw05_awake.f kj13).bind fun t559 => (if t559 = true then (if bt552.2.2.2 = 0 then ((thalwegref05_Same.f kj13 (([(⟨bt552.1, bt552.2.1⟩ : S24)] : List (S24))) (([(⟨a0_0, l0_1⟩ : S24)] : List (S24)))).bind fun t566 => (if t566 = true then (some (bt552.2.2.1 == (wrap64 ((l1.length : Int) + (bt542.1.length : Int))))) else (none))) else (none)) else (none))) else ((thalweglaw05_awake.f kj13).bind fun t567 => (if t567 = true then (some ((bt542.1.length : Int) == 0)) else (none))))))) = some r := by rw [if_neg (show ¬ (false = true) by decide)] at H; exact H
     clear H
     have H := H1
     clear H1; replace H := Option.bind_eq_some_iff.mp H
     obtain ⟨⟨t542, t545⟩, A310, H⟩ := H
     replace H : ((thalwegref01_Both.f kj13 (([l1, t542, l2] : List (List Int)))).bind fun t549 => ((batch_Parse.f kj13 t549 (l1.length : Int)).bind fun bt552 => (if t545 = 0 then ((thalweglaw05_awake.f kj13).bind fun t559 => (if t559 = true then (if bt552.2.2.2 = 0 then ((thalwegref05_Same.f kj13 (([(⟨bt552.1, bt552.2.1⟩ : S24)] : List (S24))) (([(⟨a0_0, l0_1⟩ : S24)] : List (S24)))).bind fun t566 => (if t566 = true then (some (bt552.2.2.1 == (wrap64 ((l1.length : Int) + (t542.length : Int))))) else (none))) else (none)) else (none))) else ((thalweglaw05_awake.f kj13).bind fun t567 => (if t567 = true then (some ((t542.length : Int) == 0)) else (none)))))) = some r := H
     have A31 := YL A310; clear A310
     obtain ⟨y546, hy546⟩ : ∃ y_ : List (List Int), y_ = (([l1, t542, l2] : List (List Int))) := ⟨_, rfl⟩
     replace H : ((thalwegref01_Both.f kj13 y546).bind fun t549 => ((batch_Parse.f kj13 t549 (l1.length : Int)).bind fun bt552 => (if t545 = 0 then ((thalweglaw05_awake.f kj13).bind fun t559 => (if t559 = true then (if bt552.2.2.2 = 0 then ((thalwegref05_Same.f kj13 (([(⟨bt552.1, bt552.2.1⟩ : S24)] : List (S24))) (([(⟨a0_0, l0_1⟩ : S24)] : List (S24)))).bind fun t566 => (if t566 = true then (some (bt552.2.2.1 == (wrap64 ((l1.length : Int) + (t542.length : Int))))) else (none))) else (none)) else (none))) else ((thalweglaw05_awake.f kj13).bind fun t567 => (if t567 = true then (some ((t542.length : Int) == 0)) else (none)))))) = some r := by first | (rw [hy546]; with_reducible exact H) | (have H2_ := (Option.bind_some _ _).symm.trans H; rw [hy546]; with_reducible exact H2_) | (have H2_ := (Option.bind_some _ _).symm.trans H; with_reducible exact H2_) | with_reducible exact H | (rw [hy546]; exact H) | exact H
     have Ny546 := YL hy546; clear hy546; replace H := Option.bind_eq_some_iff.mp H; obtain ⟨t549, A320, H⟩ := H
     replace H : ((batch_Parse.f kj13 t549 (l1.length : Int)).bind fun bt552 => (if t545 = 0 then ((thalweglaw05_awake.f kj13).bind fun t559 => (if t559 = true then (if bt552.2.2.2 = 0 then ((thalwegref05_Same.f kj13 (([(⟨bt552.1, bt552.2.1⟩ : S24)] : List (S24))) (([(⟨a0_0, l0_1⟩ : S24)] : List (S24)))).bind fun t566 => (if t566 = true then (some (bt552.2.2.1 == (wrap64 ((l1.length : Int) + (t542.length : Int))))) else (none))) else (none)) else (none))) else ((thalweglaw05_awake.f kj13).bind fun t567 => (if t567 = true then (some ((t542.length : Int) == 0)) else (none))))) = some r := H
     have A32 := YL A320; clear A320; replace H := Option.bind_eq_some_iff.mp H
     obtain ⟨⟨t552, t553, t556, t557⟩, A330, H⟩ := H
     replace H : (if t545 = 0 then ((thalweglaw05_awake.f kj13).bind fun t559 => (if t559 = true then (if t557 = 0 then ((thalwegref05_Same.f kj13 (([(⟨t552, t553⟩ : S24)] : List (S24))) (([(⟨a0_0, l0_1⟩ : S24)] : List (S24)))).bind fun t566 => (if t566 = true then (some (t556 == (wrap64 ((l1.length : Int) + (t542.length : Int))))) else (none))) else (none)) else (none))) else ((thalweglaw05_awake.f kj13).bind fun t567 => (if t567 = true then (some ((t542.length : Int) == 0)) else (none)))) = some r := H
     have A33 := YL A330; clear A330
     by_cases c34 : t545 = 0
     ·rw [if_pos c34] at H
      have c34b0 : (t545 == 0) = true := beq_iff_eq.mpr c34
      have c34b1 : (t545 != 0) = false := bne_eq_false_iff_eq.mpr c34
      clear c34; replace H := Option.bind_eq_some_iff.mp H; obtain ⟨t559, A350, H⟩ := H
      replace H : (if t559 = true then (if t557 = 0 then ((thalwegref05_Same.f kj13 (([(⟨t552, t553⟩ : S24)] : List (S24))) (([(⟨a0_0, l0_1⟩ : S24)] : List (S24)))).bind fun t566 => (if t566 = true then (some (t556 == (wrap64 ((l1.length : Int) + (t542.length : Int))))) else (none))) else (none)) else (none)) = some r := H
      have A35 := YL A350; clear A350
      by_cases c36 : t559 = true
      ·subst c36
       have H1 : (if t557 = 0 then ((thalwegref05_Same.f kj13 (([(⟨t552, t553⟩ : S24)] : List (S24))) (([(⟨a0_0, l0_1⟩ : S24)] : List (S24)))).bind fun t566 => (if t566 = true then (some (t556 == (wrap64 ((l1.length : Int) + (t542.length : Int))))) else (none))) else (none)) = some r := by rw [if_pos rfl] at H; exact H
       clear H
       have H := H1
       clear H1
       by_cases c37 : t557 = 0
       rotate_left
       ·rw [if_neg c37] at H
        exact absurd H (by simp)
       rw [if_pos c37] at H
       have c37b0 : (t557 == 0) = true := beq_iff_eq.mpr c37
       have c37b1 : (t557 != 0) = false := bne_eq_false_iff_eq.mpr c37
       clear c37
       obtain ⟨y560, hy560⟩ : ∃ y_ : List (S24), y_ = (([(⟨t552, t553⟩ : S24)] : List (S24))) := ⟨_, rfl⟩
       replace H : ((thalwegref05_Same.f kj13 y560 (([(⟨a0_0, l0_1⟩ : S24)] : List (S24)))).bind fun t566 => (if t566 = true then (some (t556 == (wrap64 ((l1.length : Int) + (t542.length : Int))))) else (none))) = some r := by first | (rw [hy560]; with_reducible exact H) | (have H2_ := (Option.bind_some _ _).symm.trans H; rw [hy560]; with_reducible exact H2_) | (have H2_ := (Option.bind_some _ _).symm.trans H; with_reducible exact H2_) | with_reducible exact H | (rw [hy560]; exact H) | exact H
       have Ny560 := YL hy560; clear hy560
       obtain ⟨y563, hy563⟩ : ∃ y_ : List (S24), y_ = (([(⟨a0_0, l0_1⟩ : S24)] : List (S24))) := ⟨_, rfl⟩
       replace H : ((thalwegref05_Same.f kj13 y560 y563).bind fun t566 => (if t566 = true then (some (t556 == (wrap64 ((l1.length : Int) + (t542.length : Int))))) else (none))) = some r := by first | (rw [hy563]; with_reducible exact H) | (have H2_ := (Option.bind_some _ _).symm.trans H; rw [hy563]; with_reducible exact H2_) | (have H2_ := (Option.bind_some _ _).symm.trans H; with_reducible exact H2_) | with_reducible exact H | (rw [hy563]; exact H) | exact H
       have Ny563 := YL hy563; clear hy563; replace H := Option.bind_eq_some_iff.mp H; obtain ⟨t566, A380, H⟩ := H
       replace H : (if t566 = true then (some (t556 == (wrap64 ((l1.length : Int) + (t542.length : Int))))) else (none)) = some r := H
       have A38 := YL A380; clear A380
       by_cases c39 : t566 = true
       ·subst c39
        have H1 : (some (t556 == (wrap64 ((l1.length : Int) + (t542.length : Int))))) = some r := by rw [if_pos rfl] at H; exact H
        clear H
        have H := H1
        clear H1
        obtain rfl := Option.some.inj H
        have hnb40 := NB525_532.out
        have hnc40 := NB532_525.out
        have q41_0 : wc.cell? ⟨gb525, 0, none⟩ = some (.int .i64 a0_0) := (YI BK525.out 0).trans rfl
        have q41_1 : wc.cell? ⟨gb525, 1, none⟩ = some (.slice A0_1 l0_1.length c0_1) := (YI BK525.out 1).trans rfl
        have f41_0 := YJ BK525.out 0
        have f41_1 := YJ BK525.out 1
        go_wp2_with (first | (go_at_call 9; (with_reducible refine (batch_Bytes.calls kj13 a0_0 _ _ l0_1 t542 t545 _ ?side1 ?side2 A31.out).mono ?_); (case side1 => repeat (first | exact (Kd.V_reads' HO_526001.out).2.2 | (with_reducible refine Kd.C_alloc ?_ _) | (with_reducible refine Kd.C_drewN ?_ _) | (with_reducible refine Kd.C_drew ?_))); (case side2 => exact (Kd.V_reads' HO_526001.out).2.1); rintro e w42 ⟨v543, rfl, ho0, hb⟩; have n0_ := YL (Kd.V_elder' (upV HO_1) (Kd.R_base ho0) hb); have n1_ := YL (Kd.V_elder' (upV HO_2) (Kd.R_base ho0) hb); have n2_ := YL (Kd.V_elder' (upV HO_526001) (Kd.R_base ho0) hb); have n3_ := YL (YP (upR HO_533001) hb); have n4_ := YL (Kd.R_lower (Kd.R_newM (M := fun k_ => (w.heap.size ≤ k_)) ho0 (YE (upB HB)) (fun k_ h_ => h_)) (YE (upB HB))); have n5_ := YL (YK (g := gb525) (o := .cells #[.int .i64 a0_0, .slice A0_1 l0_1.length c0_1] 24 (0, 0)) (upK BK525) hb); have n6_ := YL (YK (g := gb532) (o := .cells #[.int .i64 t526, .slice Ao19 t527.length co19] 24 (0, 0)) (upK BK532) hb); have n7_ := YL (YD (upB HB) hb); clear HO_1; clear HO_2; clear HO_526001; clear HO_533001; clear BK525; clear BK532; clear HB; have HO_1 := n0_; have HO_2 := n1_; have HO_526001 := n2_; have HO_533001 := n3_; have HO544 := n4_; have BK525 := n5_; have BK532 := n6_; have HB := n7_; clear n0_ n1_ n2_ n3_ n4_ n5_ n6_ n7_; (try clear hb); (try clear hb2); (try clear hk); (try clear hi); (try clear ho0); obtain ⟨Ao43, co43, eo43⟩ := Kd.R_slice HO544.out; subst eo43) | ((with_reducible refine gate_dst (N := 77) rfl ?_); (try (refine gate_guard (by rfl) ?_; dsimp only)); refine Kd.N_lit (Kd.slice 5 (Kd.int .u8)) _ 26 ?hg (N' := 77) ?hd (xs := ([l1, t542, l2] : List (List Int))) (inner := [.slice A1 l1.length c1, .slice Ao43 t542.length co43, .slice A2 l2.length c2]) (ok := (fun k_ => ((P0_1_ k_ ∨ P1_ k_ ∨ P2_ k_) ∨ w.heap.size ≤ k_) ∧ some k_ ≠ (.slice Ao19 t527.length co19 : Value).ownBlock ∧ k_ ≠ gb525 ∧ k_ ≠ gb532)) (okp := (fun k_ => ((P0_1_ k_ ∨ P1_ k_ ∨ P2_ k_) ∨ w.heap.size ≤ k_) ∧ some k_ ≠ (.slice Ao19 t527.length co19 : Value).ownBlock ∧ k_ ≠ gb525 ∧ k_ ≠ gb532)) ?hr ?hp (fun _ hk => hk) ((show ∀ k_, w42.heap.size ≤ k_ → (fun k_ => ((P0_1_ k_ ∨ P1_ k_ ∨ P2_ k_) ∨ w.heap.size ≤ k_) ∧ some k_ ≠ (.slice Ao19 t527.length co19 : Value).ownBlock ∧ k_ ≠ gb525 ∧ k_ ≠ gb532) k_ from fun k_ hk => ⟨(.inr (Nat.le_trans (YE (upB HB)) hk)), Kd.fresh' (Kd.R_lt (upR HO_533001)) k_ hk, Kd.freshB (g := gb525) (o := .cells #[.int .i64 a0_0, .slice A0_1 l0_1.length c0_1] 24 (0, 0)) (upK BK525) k_ hk, Kd.freshB (g := gb532) (o := .cells #[.int .i64 t526, .slice Ao19 t527.length co19] 24 (0, 0)) (upK BK532) k_ hk⟩) _ (Nat.le_refl _)) (Below.refl _ _) (Nat.le_refl _) (by simp) ?_; (case hd => rfl); (case hg => rfl); (case hr => first | (go_simp; done) | (go_simp; rfl)); (case hp => exact (Reps.one (show Kd.FK (Kd.slice 5 (Kd.int .u8)) _ _ l1 [.slice A1 l1.length c1] from (Kd.FK_slice_mk (Kd.V_reads' (Kd.V_mono (ok' := (fun k_ => ((P0_1_ k_ ∨ P1_ k_ ∨ P2_ k_) ∨ w.heap.size ≤ k_) ∧ some k_ ≠ (.slice Ao19 t527.length co19 : Value).ownBlock ∧ k_ ≠ gb525 ∧ k_ ≠ gb532)) (HO_1.out) (fun k_ hk => ⟨hk.1.1, ⟨hk.1.2.1, ⟨hk.1.2.2.1, hk.1.2.2.2⟩⟩⟩))).2.1 (Kd.V_F (Kd.V_mono (ok' := (fun k_ => ((P0_1_ k_ ∨ P1_ k_ ∨ P2_ k_) ∨ w.heap.size ≤ k_) ∧ some k_ ≠ (.slice Ao19 t527.length co19 : Value).ownBlock ∧ k_ ≠ gb525 ∧ k_ ≠ gb532)) (upV HO_1) (fun k_ hk => by exact ⟨hk.1.1, ⟨hk.1.2.1, ⟨hk.1.2.2.1, hk.1.2.2.2⟩⟩⟩))))) (Reps.one (show Kd.FK (Kd.slice 5 (Kd.int .u8)) _ _ t542 [.slice Ao43 t542.length co43] from (Kd.FK_slice_mk (Kd.R_reads' (Kd.R_mono (ok' := (fun k_ => ((P0_1_ k_ ∨ P1_ k_ ∨ P2_ k_) ∨ w.heap.size ≤ k_) ∧ some k_ ≠ (.slice Ao19 t527.length co19 : Value).ownBlock ∧ k_ ≠ gb525 ∧ k_ ≠ gb532)) (Kd.R_types (Kd.R_types (Kd.R_apart' (HO544.out) (Kd.R_typed HO_533001.out) (by decide)) BK525.out (by decide)) BK532.out (by decide)) (fun k_ hk => ⟨(.inr (hk.1.1.1.1)), ⟨hk.1.1.2, ⟨hk.1.2, hk.2⟩⟩⟩))).2.1 (Kd.R_F (Kd.R_mono (ok' := (fun k_ => ((P0_1_ k_ ∨ P1_ k_ ∨ P2_ k_) ∨ w.heap.size ≤ k_) ∧ some k_ ≠ (.slice Ao19 t527.length co19 : Value).ownBlock ∧ k_ ≠ gb525 ∧ k_ ≠ gb532)) (Kd.R_types (Kd.R_types (Kd.R_apart' (HO544.out) (Kd.R_typed HO_533001.out) (by decide)) BK525.out (by decide)) BK532.out (by decide)) (fun k_ hk => ⟨(.inr (hk.1.1.1.1)), ⟨hk.1.1.2, ⟨hk.1.2, hk.2⟩⟩⟩))))) (Reps.one (show Kd.FK (Kd.slice 5 (Kd.int .u8)) _ _ l2 [.slice A2 l2.length c2] from (Kd.FK_slice_mk (Kd.V_reads' (Kd.V_mono (ok' := (fun k_ => ((P0_1_ k_ ∨ P1_ k_ ∨ P2_ k_) ∨ w.heap.size ≤ k_) ∧ some k_ ≠ (.slice Ao19 t527.length co19 : Value).ownBlock ∧ k_ ≠ gb525 ∧ k_ ≠ gb532)) (upR HO_2) (fun k_ hk => by exact ⟨hk.1.1, ⟨hk.1.2.1, ⟨hk.1.2.2.1, hk.1.2.2.2⟩⟩⟩))).2.1 (Kd.V_F (Kd.V_mono (ok' := (fun k_ => ((P0_1_ k_ ∨ P1_ k_ ∨ P2_ k_) ∨ w.heap.size ≤ k_) ∧ some k_ ≠ (.slice Ao19 t527.length co19 : Value).ownBlock ∧ k_ ≠ gb525 ∧ k_ ≠ gb532)) (upV HO_2) (fun k_ hk => by exact ⟨hk.1.1, ⟨hk.1.2.1, ⟨hk.1.2.2.1, hk.1.2.2.2⟩⟩⟩))))) (Reps.none _ _))))); intro v547 w44 ho45 hb hg_ hnew_; clear hg_ hnew_; (first | rw [← Ny546.out] at ho45 | (simp only [Int.reduceToNat] at ho45; rw [← Ny546.out] at ho45)); have n0_ := YL (Kd.V_elder' (upV HO_1) (Kd.N_base ho45) hb); have n1_ := YL (Kd.V_elder' (upV HO_2) (Kd.N_base ho45) hb); have n2_ := YL (Kd.V_elder' (upV HO_526001) (Kd.N_base ho45) hb); have n3_ := YL (YP (upR HO_533001) hb); have n4_ := YL (Kd.N_lower ho45 (YE (upB HB))); have n5_ := YL (YK (g := gb525) (o := .cells #[.int .i64 a0_0, .slice A0_1 l0_1.length c0_1] 24 (0, 0)) (upK BK525) hb); have n6_ := YL (YK (g := gb532) (o := .cells #[.int .i64 t526, .slice Ao19 t527.length co19] 24 (0, 0)) (upK BK532) hb); have n7_ := YL (YD (upB HB) hb); clear HO_1; clear HO_2; clear HO_526001; clear HO_533001; clear BK525; clear BK532; clear HB; clear HO544; have HO_1 := n0_; have HO_2 := n1_; have HO_526001 := n2_; have HO_533001 := n3_; have HO548 := n4_; have BK525 := n5_; have BK532 := n6_; have HB := n7_; clear n0_ n1_ n2_ n3_ n4_ n5_ n6_ n7_; clear hb ho45; obtain ⟨Ao46, co46, eo46⟩ := Kd.N_slice HO548.out; subst eo46) | (go_at_call 22; (with_reducible refine (thalwegref01_Both.calls kj13 _ _ y546 t549 _ ?side1 ?side2 A32.out).mono ?_); (case side1 => repeat (first | exact (Kd.N_reads' HO548.out).2.2 | (with_reducible refine Kd.C_alloc ?_ _) | (with_reducible refine Kd.C_drewN ?_ _) | (with_reducible refine Kd.C_drew ?_))); (case side2 => exact (Kd.N_reads' HO548.out).2.1); rintro e w47 ⟨v550, rfl, ho0, hb⟩; have n0_ := YL (Kd.V_elder' (upV HO_1) (Kd.R_base ho0) hb); have n1_ := YL (Kd.V_elder' (upV HO_2) (Kd.R_base ho0) hb); have n2_ := YL (Kd.V_elder' (upV HO_526001) (Kd.R_base ho0) hb); have n3_ := YL (YP (upR HO_533001) hb); have n4_ := YL (Kd.N_elder' (upN HO548) (Kd.R_base ho0) hb); have n5_ := YL (Kd.R_lower (Kd.R_newM (M := fun k_ => (w.heap.size ≤ k_)) ho0 (YE (upB HB)) (fun k_ h_ => h_)) (YE (upB HB))); have n6_ := YL (YK (g := gb525) (o := .cells #[.int .i64 a0_0, .slice A0_1 l0_1.length c0_1] 24 (0, 0)) (upK BK525) hb); have n7_ := YL (YK (g := gb532) (o := .cells #[.int .i64 t526, .slice Ao19 t527.length co19] 24 (0, 0)) (upK BK532) hb); have n8_ := YL (YD (upB HB) hb); clear HO_1; clear HO_2; clear HO_526001; clear HO_533001; clear HO548; clear BK525; clear BK532; clear HB; have HO_1 := n0_; have HO_2 := n1_; have HO_526001 := n2_; have HO_533001 := n3_; have HO548 := n4_; have HO551 := n5_; have BK525 := n6_; have BK532 := n7_; have HB := n8_; clear n0_ n1_ n2_ n3_ n4_ n5_ n6_ n7_ n8_; (try clear hb); (try clear hb2); (try clear hk); (try clear hi); (try clear ho0); obtain ⟨Ao48, co48, eo48⟩ := Kd.R_slice HO551.out; subst eo48) | (go_at_call 21; (with_reducible refine (batch_Parse.calls kj13 _ _ t549 (l1.length : Int) t552 t553 t556 t557 _ ?side1 ?side2 A33.out).mono ?_); (case side1 => repeat (first | exact (Kd.R_reads' HO551.out).2.2 | (with_reducible refine Kd.C_alloc ?_ _) | (with_reducible refine Kd.C_drewN ?_ _) | (with_reducible refine Kd.C_drew ?_))); (case side2 => exact (Kd.R_reads' HO551.out).2.1); rintro e w49 ⟨v554, rfl, ho0, hb⟩; have n0_ := YL (Kd.V_elder' (upV HO_1) (Kd.R_base ho0) hb); have n1_ := YL (Kd.V_elder' (upV HO_2) (Kd.R_base ho0) hb); have n2_ := YL (Kd.V_elder' (upV HO_526001) (Kd.R_base ho0) hb); have n3_ := YL (Kd.R_elder' (upR HO_533001) (Kd.R_base ho0) hb); have n4_ := YL (Kd.N_elder' (upN HO548) (Kd.R_base ho0) hb); have n5_ := YL (YP (upR HO551) hb); have n6_ := YL (Kd.R_lower (Kd.R_new' (Kd.R_newM (M := fun k_ => (w.heap.size ≤ k_)) ho0 (YE (upB HB)) (fun k_ h_ => h_)) (Kd.R_lt (upR HO_533001))) (YE (upB HB))); have n7_ := YL (YK (g := gb525) (o := .cells #[.int .i64 a0_0, .slice A0_1 l0_1.length c0_1] 24 (0, 0)) (upK BK525) hb); have n8_ := YL (YK (g := gb532) (o := .cells #[.int .i64 t526, .slice Ao19 t527.length co19] 24 (0, 0)) (upK BK532) hb); have n9_ := YL (YD (upB HB) hb); clear HO_1; clear HO_2; clear HO_526001; clear HO_533001; clear HO548; clear HO551; clear BK525; clear BK532; clear HB; have HO_1 := n0_; have HO_2 := n1_; have HO_526001 := n2_; have HO_533001 := n3_; have HO548 := n4_; have HO551 := n5_; have HO555 := n6_; have BK525 := n7_; have BK532 := n8_; have HB := n9_; clear n0_ n1_ n2_ n3_ n4_ n5_ n6_ n7_ n8_ n9_; (try clear hb); (try clear hb2); (try clear hk); (try clear hi); (try clear ho0)) | ((with_reducible refine gate_dst (N := 14) rfl ?_); (try (refine gate_guard (by rfl) ?_; dsimp only)); refine box_event ?hg (N := 14) ?hd (cs := #[.int .i64 0, .slice none 0 0]) (t := 24) ?hr ?_; (case hd => rfl); (case hg => rfl); (case hr => first | (go_simp; done) | (go_simp; rfl)); intro gb558 hg w50 hbox hb; have n0_ := YL (Kd.V_below (Kd.V_elderB (upV HO_1) gb558 (Nat.le_of_eq hg.symm)) hb); have n1_ := YL (Kd.V_below (Kd.V_elderB (upV HO_2) gb558 (Nat.le_of_eq hg.symm)) hb); have n2_ := YL (Kd.V_below (Kd.V_elderB (upV HO_526001) gb558 (Nat.le_of_eq hg.symm)) hb); have n3_ := YL (YP (upR HO_533001) hb); have n4_ := YL (Kd.N_below (Kd.N_elderB (upN HO548) gb558 (Nat.le_of_eq hg.symm)) hb); have n5_ := YL (YP (upR HO551) hb); have n6_ := YL (YP (upR HO555) hb); have n7_ := YL (YK (g := gb525) (o := .cells #[.int .i64 a0_0, .slice A0_1 l0_1.length c0_1] 24 (0, 0)) (upK BK525) hb); have n8_ := YL (YK (g := gb532) (o := .cells #[.int .i64 t526, .slice Ao19 t527.length co19] 24 (0, 0)) (upK BK532) hb); have n9_ := YL (YD (upB HB) hb); have n10_ := YL (hbox); have n11_ := YL ((by rw [hg]; exact (YE (upB HB)) : w.heap.size ≤ gb558)); have n12_ := YL ((by rw [hg]; exact (YE (upB HB)) : w.heap.size ≤ gb558)); have n13_ := YL ((by rw [hg]; exact Nat.ne_of_lt (blk_lt (g := gb525) (o := .cells #[.int .i64 a0_0, .slice A0_1 l0_1.length c0_1] 24 (0, 0)) (upK BK525)) : gb525 ≠ gb558)); have n14_ := YL ((by rw [hg]; exact Nat.ne_of_gt (blk_lt (g := gb525) (o := .cells #[.int .i64 a0_0, .slice A0_1 l0_1.length c0_1] 24 (0, 0)) (upK BK525)) : gb558 ≠ gb525)); have n15_ := YL ((by rw [hg]; exact Nat.ne_of_lt (blk_lt (g := gb532) (o := .cells #[.int .i64 t526, .slice Ao19 t527.length co19] 24 (0, 0)) (upK BK532)) : gb532 ≠ gb558)); have n16_ := YL ((by rw [hg]; exact Nat.ne_of_gt (blk_lt (g := gb532) (o := .cells #[.int .i64 t526, .slice Ao19 t527.length co19] 24 (0, 0)) (upK BK532)) : gb558 ≠ gb532)); clear HO_1; clear HO_2; clear HO_526001; clear HO_533001; clear HO548; clear HO551; clear HO555; clear BK525; clear BK532; clear HB; have HO_1 := n0_; have HO_2 := n1_; have HO_526001 := n2_; have HO_533001 := n3_; have HO548 := n4_; have HO551 := n5_; have HO555 := n6_; have BK525 := n7_; have BK532 := n8_; have HB := n9_; have BK558 := n10_; have GW558 := n11_; have GE558 := n12_; have NB525_558 := n13_; have NB558_525 := n14_; have NB532_558 := n15_; have NB558_532 := n16_; clear n0_ n1_ n2_ n3_ n4_ n5_ n6_ n7_ n8_ n9_ n10_ n11_ n12_ n13_ n14_ n15_ n16_; clear hb hbox hg; have hnb51 := NB558_525.out; have hnc51 := NB525_558.out; have hnb52 := NB558_532.out; have hnc52 := NB532_558.out; have q53_0 : w50.cell? ⟨gb558, 0, none⟩ = some (.int .i64 0) := (YI BK558.out 0).trans rfl; have q53_1 : w50.cell? ⟨gb558, 1, none⟩ = some (.slice none 0 0) := (YI BK558.out 1).trans rfl; have f53_0 := YJ BK558.out 0; have f53_1 := YJ BK558.out 1; obtain ⟨Ao54, co54, eo54⟩ := Kd.R_slice HO555.out; subst eo54) | (go_at_call 11; (with_reducible refine (thalweglaw05_awake.calls kj13  true _ A35.out).mono ?_); rintro e w55 ⟨rfl, hb⟩; have n0_ := YL (Kd.V_below (by (with_reducible repeat (first | apply Kd.V_alloc | apply Kd.V_drewN | apply Kd.V_drew)); exact (Kd.V_mono (Kd.V_far (p := ⟨gb558, 1, none⟩) (Kd.V_far (p := ⟨gb558, 0, none⟩) (Kd.V_mono HO_1.out (fun k_ hk => (⟨hk, hk.2⟩ : _ ∧ k_ ≠ gb558))) (fun _ hk => hk.2) (.int .i64 t552)) (fun _ hk => hk.2) (.slice Ao54 t553.length co54)) (fun _ h_ => h_.1))) hb); have n1_ := YL (Kd.V_below (by (with_reducible repeat (first | apply Kd.V_alloc | apply Kd.V_drewN | apply Kd.V_drew)); exact (Kd.V_mono (Kd.V_far (p := ⟨gb558, 1, none⟩) (Kd.V_far (p := ⟨gb558, 0, none⟩) (Kd.V_mono HO_2.out (fun k_ hk => (⟨hk, hk.2⟩ : _ ∧ k_ ≠ gb558))) (fun _ hk => hk.2) (.int .i64 t552)) (fun _ hk => hk.2) (.slice Ao54 t553.length co54)) (fun _ h_ => h_.1))) hb); have n2_ := YL (Kd.V_below (by (with_reducible repeat (first | apply Kd.V_alloc | apply Kd.V_drewN | apply Kd.V_drew)); exact (Kd.V_mono (Kd.V_far (p := ⟨gb558, 1, none⟩) (Kd.V_far (p := ⟨gb558, 0, none⟩) (Kd.V_mono HO_526001.out (fun k_ hk => (⟨hk, hk.2⟩ : _ ∧ k_ ≠ gb558))) (fun _ hk => hk.2) (.int .i64 t552)) (fun _ hk => hk.2) (.slice Ao54 t553.length co54)) (fun _ h_ => h_.1))) hb); have n3_ := YL (YP (by (with_reducible repeat (first | apply YM | apply YN | apply YO)); exact (Kd.R_mono (Kd.R_far (p := ⟨gb558, 1, none⟩) (Kd.R_far (p := ⟨gb558, 0, none⟩) (Kd.R_types HO_533001.out BK558.out (by decide)) (fun _ hk => hk.2) (.int .i64 t552)) (fun _ hk => hk.2) (.slice Ao54 t553.length co54)) (fun _ h_ => h_.1))) hb); have n4_ := YL (Kd.N_below (by (with_reducible repeat (first | apply Kd.N_alloc | apply Kd.N_drewN | apply Kd.N_drew)); exact (Kd.N_mono (Kd.N_far (p := ⟨gb558, 1, none⟩) (Kd.N_far (p := ⟨gb558, 0, none⟩) (Kd.N_mono HO548.out (fun k_ hk => (⟨hk, hk.2⟩ : _ ∧ k_ ≠ gb558))) (fun _ hk => hk.2) (.int .i64 t552)) (fun _ hk => hk.2) (.slice Ao54 t553.length co54)) (fun _ h_ => h_.1))) hb); have n5_ := YL (YP (by (with_reducible repeat (first | apply YM | apply YN | apply YO)); exact (Kd.R_mono (Kd.R_far (p := ⟨gb558, 1, none⟩) (Kd.R_far (p := ⟨gb558, 0, none⟩) (Kd.R_types HO551.out BK558.out (by decide)) (fun _ hk => hk.2) (.int .i64 t552)) (fun _ hk => hk.2) (.slice Ao54 t553.length co54)) (fun _ h_ => h_.1))) hb); have n6_ := YL (YP (by (with_reducible repeat (first | apply YM | apply YN | apply YO)); exact (Kd.R_mono (Kd.R_far (p := ⟨gb558, 1, none⟩) (Kd.R_far (p := ⟨gb558, 0, none⟩) (Kd.R_types HO555.out BK558.out (by decide)) (fun _ hk => hk.2) (.int .i64 t552)) (fun _ hk => hk.2) (.slice Ao54 t553.length co54)) (fun _ h_ => h_.1))) hb); have n7_ := YL (YK (g := gb525) (o := .cells #[.int .i64 a0_0, .slice A0_1 l0_1.length c0_1] 24 (0, 0)) (by (with_reducible repeat (first | refine YF ?_ _ | refine YG ?_ | refine YH ?_ _)); refine blk_far ?_ NB525_558.out _; (with_reducible repeat (first | refine YF ?_ _ | refine YG ?_ | refine YH ?_ _)); refine blk_far ?_ NB525_558.out _; (with_reducible repeat (first | refine YF ?_ _ | refine YG ?_ | refine YH ?_ _)); exact BK525.out) hb); have n8_ := YL (YK (g := gb532) (o := .cells #[.int .i64 t526, .slice Ao19 t527.length co19] 24 (0, 0)) (by (with_reducible repeat (first | refine YF ?_ _ | refine YG ?_ | refine YH ?_ _)); refine blk_far ?_ NB532_558.out _; (with_reducible repeat (first | refine YF ?_ _ | refine YG ?_ | refine YH ?_ _)); refine blk_far ?_ NB532_558.out _; (with_reducible repeat (first | refine YF ?_ _ | refine YG ?_ | refine YH ?_ _)); exact BK532.out) hb); have n9_ := YL (YK (g := gb558) (o := .cells #[.int .i64 t552, .slice Ao54 t553.length co54] 24 (0, 0)) (by (with_reducible repeat (first | refine YF ?_ _ | refine YG ?_ | refine YH ?_ _)); refine blk_put (cs := #[.int .i64 t552, .slice none 0 0]) ?_ 1 _ rfl; (with_reducible repeat (first | refine YF ?_ _ | refine YG ?_ | refine YH ?_ _)); refine blk_put (cs := #[.int .i64 0, .slice none 0 0]) ?_ 0 _ rfl; (with_reducible repeat (first | refine YF ?_ _ | refine YG ?_ | refine YH ?_ _)); exact BK558.out) hb); have n10_ := YL (YD (upB HB) hb); clear HO_1; clear HO_2; clear HO_526001; clear HO_533001; clear HO548; clear HO551; clear HO555; clear BK525; clear BK532; clear BK558; clear HB; have HO_1 := n0_; have HO_2 := n1_; have HO_526001 := n2_; have HO_533001 := n3_; have HO548 := n4_; have HO551 := n5_; have HO555 := n6_; have BK525 := n7_; have BK532 := n8_; have BK558 := n9_; have HB := n10_; clear n0_ n1_ n2_ n3_ n4_ n5_ n6_ n7_ n8_ n9_ n10_; (try clear hb); (try clear hb2); (try clear hk); (try clear hi); have q56_0 : w55.cell? ⟨gb558, 0, none⟩ = some (.int .i64 t552) := (YI BK558.out 0).trans rfl; have q56_1 : w55.cell? ⟨gb558, 1, none⟩ = some (.slice Ao54 t553.length co54) := (YI BK558.out 1).trans rfl; have f56_0 := YJ BK558.out 0; have f56_1 := YJ BK558.out 1) | ((with_reducible refine gate_dst (N := 100) rfl ?_); (try (refine gate_guard (by rfl) ?_; dsimp only)); refine Kd.N_lit k24 _ 24 ?hg (N' := 100) ?hd (xs := ([(⟨t552, t553⟩ : S24)] : List (S24))) (inner := [.int .i64 t552, .slice Ao54 t553.length co54]) (ok := (fun k_ => ((P0_1_ k_ ∨ P1_ k_ ∨ P2_ k_) ∨ w.heap.size ≤ k_) ∧ some k_ ≠ (.slice Ao19 t527.length co19 : Value).ownBlock ∧ some k_ ≠ (.slice Ao46 y546.length co46 : Value).ownBlock ∧ some k_ ≠ (.slice Ao48 t549.length co48 : Value).ownBlock ∧ k_ ≠ gb525 ∧ k_ ≠ gb532 ∧ k_ ≠ gb558)) (okp := (fun k_ => ((P0_1_ k_ ∨ P1_ k_ ∨ P2_ k_) ∨ w.heap.size ≤ k_) ∧ some k_ ≠ (.slice Ao19 t527.length co19 : Value).ownBlock ∧ some k_ ≠ (.slice Ao46 y546.length co46 : Value).ownBlock ∧ some k_ ≠ (.slice Ao48 t549.length co48 : Value).ownBlock ∧ k_ ≠ gb525 ∧ k_ ≠ gb532 ∧ k_ ≠ gb558)) ?hr ?hp (fun _ hk => hk) ((show ∀ k_, w55.heap.size ≤ k_ → (fun k_ => ((P0_1_ k_ ∨ P1_ k_ ∨ P2_ k_) ∨ w.heap.size ≤ k_) ∧ some k_ ≠ (.slice Ao19 t527.length co19 : Value).ownBlock ∧ some k_ ≠ (.slice Ao46 y546.length co46 : Value).ownBlock ∧ some k_ ≠ (.slice Ao48 t549.length co48 : Value).ownBlock ∧ k_ ≠ gb525 ∧ k_ ≠ gb532 ∧ k_ ≠ gb558) k_ from fun k_ hk => ⟨(.inr (Nat.le_trans (YE (upB HB)) hk)), Kd.fresh' (Kd.R_lt (upR HO_533001)) k_ hk, Kd.fresh' (Kd.N_lt (upN HO548)) k_ hk, Kd.fresh' (Kd.R_lt (upR HO551)) k_ hk, Kd.freshB (g := gb525) (o := .cells #[.int .i64 a0_0, .slice A0_1 l0_1.length c0_1] 24 (0, 0)) (upK BK525) k_ hk, Kd.freshB (g := gb532) (o := .cells #[.int .i64 t526, .slice Ao19 t527.length co19] 24 (0, 0)) (upK BK532) k_ hk, Kd.freshB (g := gb558) (o := .cells #[.int .i64 t552, .slice Ao54 t553.length co54] 24 (0, 0)) (upK BK558) k_ hk⟩) _ (Nat.le_refl _)) (Below.refl _ _) (Nat.le_refl _) (by simp) ?_; (case hd => rfl); (case hg => rfl); (case hr => first | (go_simp; done) | (go_simp; rfl)); (case hp => exact (Reps.c2 (show Kd.FK k24 _ _ (⟨t552, t553⟩ : S24) [.int .i64 t552, .slice Ao54 t553.length co54] from (k24_mkF _ _ (⟨t552, t553⟩ : S24) (Kd.R_reads' (Kd.R_mono (ok' := (fun k_ => ((P0_1_ k_ ∨ P1_ k_ ∨ P2_ k_) ∨ w.heap.size ≤ k_) ∧ some k_ ≠ (.slice Ao19 t527.length co19 : Value).ownBlock ∧ some k_ ≠ (.slice Ao46 y546.length co46 : Value).ownBlock ∧ some k_ ≠ (.slice Ao48 t549.length co48 : Value).ownBlock ∧ k_ ≠ gb525 ∧ k_ ≠ gb532 ∧ k_ ≠ gb558)) (Kd.R_types (Kd.R_types (Kd.R_types (Kd.R_apart' (Kd.R_apart' (HO555.out) (Kd.N_typed HO548.out) (by decide)) (Kd.R_typed HO551.out) (by decide)) BK525.out (by decide)) BK532.out (by decide)) BK558.out (by decide)) (fun k_ hk => ⟨(.inr (hk.1.1.1.1.1.1.1)), ⟨hk.1.1.1.1.1.2, ⟨hk.1.1.1.1.2, ⟨hk.1.1.1.2, ⟨hk.1.1.2, ⟨hk.1.2, hk.2⟩⟩⟩⟩⟩⟩))).2.1 (Kd.R_F (Kd.R_mono (ok' := (fun k_ => ((P0_1_ k_ ∨ P1_ k_ ∨ P2_ k_) ∨ w.heap.size ≤ k_) ∧ some k_ ≠ (.slice Ao19 t527.length co19 : Value).ownBlock ∧ some k_ ≠ (.slice Ao46 y546.length co46 : Value).ownBlock ∧ some k_ ≠ (.slice Ao48 t549.length co48 : Value).ownBlock ∧ k_ ≠ gb525 ∧ k_ ≠ gb532 ∧ k_ ≠ gb558)) (Kd.R_types (Kd.R_types (Kd.R_types (Kd.R_apart' (Kd.R_apart' (HO555.out) (Kd.N_typed HO548.out) (by decide)) (Kd.R_typed HO551.out) (by decide)) BK525.out (by decide)) BK532.out (by decide)) BK558.out (by decide)) (fun k_ hk => ⟨(.inr (hk.1.1.1.1.1.1.1)), ⟨hk.1.1.1.1.1.2, ⟨hk.1.1.1.1.2, ⟨hk.1.1.1.2, ⟨hk.1.1.2, ⟨hk.1.2, hk.2⟩⟩⟩⟩⟩⟩))))) (Reps.none _ _))); intro v561 w57 ho58 hb hg_ hnew_; clear hg_ hnew_; (first | rw [← Ny560.out] at ho58 | (simp only [Int.reduceToNat] at ho58; rw [← Ny560.out] at ho58)); have n0_ := YL (Kd.V_elder' (upV HO_1) (Kd.N_base ho58) hb); have n1_ := YL (Kd.V_elder' (upV HO_2) (Kd.N_base ho58) hb); have n2_ := YL (Kd.V_elder' (upV HO_526001) (Kd.N_base ho58) hb); have n3_ := YL (YP (upR HO_533001) hb); have n4_ := YL (Kd.N_elder' (upN HO548) (Kd.N_base ho58) hb); have n5_ := YL (YP (upR HO551) hb); have n6_ := YL (Kd.N_lower ho58 (YE (upB HB))); have n7_ := YL (YK (g := gb525) (o := .cells #[.int .i64 a0_0, .slice A0_1 l0_1.length c0_1] 24 (0, 0)) (upK BK525) hb); have n8_ := YL (YK (g := gb532) (o := .cells #[.int .i64 t526, .slice Ao19 t527.length co19] 24 (0, 0)) (upK BK532) hb); have n9_ := YL (YK (g := gb558) (o := .cells #[.int .i64 t552, .slice Ao54 t553.length co54] 24 (0, 0)) (upK BK558) hb); have n10_ := YL (YD (upB HB) hb); clear HO_1; clear HO_2; clear HO_526001; clear HO_533001; clear HO548; clear HO551; clear BK525; clear BK532; clear BK558; clear HB; clear HO555; have HO_1 := n0_; have HO_2 := n1_; have HO_526001 := n2_; have HO_533001 := n3_; have HO548 := n4_; have HO551 := n5_; have HO562 := n6_; have BK525 := n7_; have BK532 := n8_; have BK558 := n9_; have HB := n10_; clear n0_ n1_ n2_ n3_ n4_ n5_ n6_ n7_ n8_ n9_ n10_; clear hb ho58; have q59_0 : w57.cell? ⟨gb525, 0, none⟩ = some (.int .i64 a0_0) := (YI BK525.out 0).trans rfl; have q59_1 : w57.cell? ⟨gb525, 1, none⟩ = some (.slice A0_1 l0_1.length c0_1) := (YI BK525.out 1).trans rfl; have f59_0 := YJ BK525.out 0; have f59_1 := YJ BK525.out 1) | ((with_reducible refine gate_dst (N := 102) rfl ?_); (try (refine gate_guard (by rfl) ?_; dsimp only)); refine Kd.N_lit k24 _ 24 ?hg (N' := 102) ?hd (xs := ([(⟨a0_0, l0_1⟩ : S24)] : List (S24))) (inner := [.int .i64 a0_0, .slice A0_1 l0_1.length c0_1]) (ok := (fun k_ => ((P0_1_ k_ ∨ P1_ k_ ∨ P2_ k_) ∨ w.heap.size ≤ k_) ∧ some k_ ≠ (.slice Ao19 t527.length co19 : Value).ownBlock ∧ some k_ ≠ (.slice Ao46 y546.length co46 : Value).ownBlock ∧ some k_ ≠ (.slice Ao48 t549.length co48 : Value).ownBlock ∧ some k_ ≠ (v561 : Value).ownBlock ∧ k_ ≠ gb525 ∧ k_ ≠ gb532 ∧ k_ ≠ gb558)) (okp := (fun k_ => ((P0_1_ k_ ∨ P1_ k_ ∨ P2_ k_) ∨ w.heap.size ≤ k_) ∧ some k_ ≠ (.slice Ao19 t527.length co19 : Value).ownBlock ∧ some k_ ≠ (.slice Ao46 y546.length co46 : Value).ownBlock ∧ some k_ ≠ (.slice Ao48 t549.length co48 : Value).ownBlock ∧ some k_ ≠ (v561 : Value).ownBlock ∧ k_ ≠ gb525 ∧ k_ ≠ gb532 ∧ k_ ≠ gb558)) ?hr ?hp (fun _ hk => hk) ((show ∀ k_, w57.heap.size ≤ k_ → (fun k_ => ((P0_1_ k_ ∨ P1_ k_ ∨ P2_ k_) ∨ w.heap.size ≤ k_) ∧ some k_ ≠ (.slice Ao19 t527.length co19 : Value).ownBlock ∧ some k_ ≠ (.slice Ao46 y546.length co46 : Value).ownBlock ∧ some k_ ≠ (.slice Ao48 t549.length co48 : Value).ownBlock ∧ some k_ ≠ (v561 : Value).ownBlock ∧ k_ ≠ gb525 ∧ k_ ≠ gb532 ∧ k_ ≠ gb558) k_ from fun k_ hk => ⟨(.inr (Nat.le_trans (YE (upB HB)) hk)), Kd.fresh' (Kd.R_lt (upR HO_533001)) k_ hk, Kd.fresh' (Kd.N_lt (upN HO548)) k_ hk, Kd.fresh' (Kd.R_lt (upR HO551)) k_ hk, Kd.fresh' (Kd.N_lt (upN HO562)) k_ hk, Kd.freshB (g := gb525) (o := .cells #[.int .i64 a0_0, .slice A0_1 l0_1.length c0_1] 24 (0, 0)) (upK BK525) k_ hk, Kd.freshB (g := gb532) (o := .cells #[.int .i64 t526, .slice Ao19 t527.length co19] 24 (0, 0)) (upK BK532) k_ hk, Kd.freshB (g := gb558) (o := .cells #[.int .i64 t552, .slice Ao54 t553.length co54] 24 (0, 0)) (upK BK558) k_ hk⟩) _ (Nat.le_refl _)) (Below.refl _ _) (Nat.le_refl _) (by simp) ?_; (case hd => rfl); (case hg => rfl); (case hr => first | (go_simp; done) | (go_simp; rfl)); (case hp => exact (Reps.c2 (show Kd.FK k24 _ _ (⟨a0_0, l0_1⟩ : S24) [.int .i64 a0_0, .slice A0_1 l0_1.length c0_1] from (k24_mkF _ _ (⟨a0_0, l0_1⟩ : S24) (Kd.V_reads' (Kd.V_mono (ok' := (fun k_ => ((P0_1_ k_ ∨ P1_ k_ ∨ P2_ k_) ∨ w.heap.size ≤ k_) ∧ some k_ ≠ (.slice Ao19 t527.length co19 : Value).ownBlock ∧ some k_ ≠ (.slice Ao46 y546.length co46 : Value).ownBlock ∧ some k_ ≠ (.slice Ao48 t549.length co48 : Value).ownBlock ∧ some k_ ≠ (v561 : Value).ownBlock ∧ k_ ≠ gb525 ∧ k_ ≠ gb532 ∧ k_ ≠ gb558)) (HO_526001.out) (fun k_ hk => ⟨hk.1.1.1.1.1.1.1, ⟨hk.1.1.1.1.1.1.2.1, ⟨hk.1.1.1.1.2, ⟨hk.1.1.1.2, ⟨hk.2, ⟨hk.1.1.1.1.1.1.2.2.1, ⟨hk.1.1.1.1.1.1.2.2.2, hk.1.2⟩⟩⟩⟩⟩⟩⟩))).2.1 (Kd.V_F (Kd.V_mono (ok' := (fun k_ => ((P0_1_ k_ ∨ P1_ k_ ∨ P2_ k_) ∨ w.heap.size ≤ k_) ∧ some k_ ≠ (.slice Ao19 t527.length co19 : Value).ownBlock ∧ some k_ ≠ (.slice Ao46 y546.length co46 : Value).ownBlock ∧ some k_ ≠ (.slice Ao48 t549.length co48 : Value).ownBlock ∧ some k_ ≠ (v561 : Value).ownBlock ∧ k_ ≠ gb525 ∧ k_ ≠ gb532 ∧ k_ ≠ gb558)) (upV HO_526001) (fun k_ hk => by exact ⟨hk.1.1.1.1.1.1.1, ⟨hk.1.1.1.1.1.1.2.1, ⟨hk.1.1.1.1.2, ⟨hk.1.1.1.2, ⟨hk.2, ⟨hk.1.1.1.1.1.1.2.2.1, ⟨hk.1.1.1.1.1.1.2.2.2, hk.1.2⟩⟩⟩⟩⟩⟩⟩))))) (Reps.none _ _))); intro v564 w60 ho61 hb hg_ hnew_; clear hg_ hnew_; (first | rw [← Ny563.out] at ho61 | (simp only [Int.reduceToNat] at ho61; rw [← Ny563.out] at ho61)); have n0_ := YL (Kd.V_elder' (upV HO_1) (Kd.N_base ho61) hb); have n1_ := YL (Kd.V_elder' (upV HO_2) (Kd.N_base ho61) hb); have n2_ := YL (Kd.V_elder' (upV HO_526001) (Kd.N_base ho61) hb); have n3_ := YL (YP (upR HO_533001) hb); have n4_ := YL (Kd.N_elder' (upN HO548) (Kd.N_base ho61) hb); have n5_ := YL (YP (upR HO551) hb); have n6_ := YL (Kd.N_elder' (upN HO562) (Kd.N_base ho61) hb); have n7_ := YL (Kd.N_lower ho61 (YE (upB HB))); have n8_ := YL (YK (g := gb525) (o := .cells #[.int .i64 a0_0, .slice A0_1 l0_1.length c0_1] 24 (0, 0)) (upK BK525) hb); have n9_ := YL (YK (g := gb532) (o := .cells #[.int .i64 t526, .slice Ao19 t527.length co19] 24 (0, 0)) (upK BK532) hb); have n10_ := YL (YK (g := gb558) (o := .cells #[.int .i64 t552, .slice Ao54 t553.length co54] 24 (0, 0)) (upK BK558) hb); have n11_ := YL (YD (upB HB) hb); clear HO_1; clear HO_2; clear HO_526001; clear HO_533001; clear HO548; clear HO551; clear HO562; clear BK525; clear BK532; clear BK558; clear HB; have HO_1 := n0_; have HO_2 := n1_; have HO_526001 := n2_; have HO_533001 := n3_; have HO548 := n4_; have HO551 := n5_; have HO562 := n6_; have HO565 := n7_; have BK525 := n8_; have BK532 := n9_; have BK558 := n10_; have HB := n11_; clear n0_ n1_ n2_ n3_ n4_ n5_ n6_ n7_ n8_ n9_ n10_ n11_; clear hb ho61; obtain ⟨Ao62, co62, eo62⟩ := Kd.N_slice HO562.out; subst eo62; obtain ⟨Ao63, co63, eo63⟩ := Kd.N_slice HO565.out; subst eo63) | (go_at_call 17; (with_reducible refine (thalwegref05_Same.calls kj13 _ _ y560 _ _ y563 true _ ?side1 ?side2 ?side3 ?side4 A38.out).mono ?_); (case side1 => repeat (first | exact (Kd.N_reads' HO562.out).2.2 | (with_reducible refine Kd.C_alloc ?_ _) | (with_reducible refine Kd.C_drewN ?_ _) | (with_reducible refine Kd.C_drew ?_))); (case side2 => exact (Kd.N_reads' HO562.out).2.1); (case side3 => repeat (first | exact (Kd.N_reads' HO565.out).2.2 | (with_reducible refine Kd.C_alloc ?_ _) | (with_reducible refine Kd.C_drewN ?_ _) | (with_reducible refine Kd.C_drew ?_))); (case side4 => exact (Kd.N_reads' HO565.out).2.1); rintro e w' ⟨rfl, ⟨nd, rfl⟩⟩; (try first | exact ⟨rfl, _, World.drewN_drewN _ _ _⟩ | exact ⟨rfl, _, Eq.trans (World.drewN_drewN _ _ _) (congrArg (World.drewN _) (Nat.add_assoc _ _ _))⟩)))
        repeat (go_quiet (first | (go_at_call 9; (with_reducible refine (batch_Bytes.calls kj13 a0_0 _ _ l0_1 t542 t545 _ ?side1 ?side2 A31.out).mono ?_); (case side1 => repeat (first | exact (Kd.V_reads' HO_526001.out).2.2 | (with_reducible refine Kd.C_alloc ?_ _) | (with_reducible refine Kd.C_drewN ?_ _) | (with_reducible refine Kd.C_drew ?_))); (case side2 => exact (Kd.V_reads' HO_526001.out).2.1); rintro e w42 ⟨v543, rfl, ho0, hb⟩; have n0_ := YL (Kd.V_elder' (upV HO_1) (Kd.R_base ho0) hb); have n1_ := YL (Kd.V_elder' (upV HO_2) (Kd.R_base ho0) hb); have n2_ := YL (Kd.V_elder' (upV HO_526001) (Kd.R_base ho0) hb); have n3_ := YL (YP (upR HO_533001) hb); have n4_ := YL (Kd.R_lower (Kd.R_newM (M := fun k_ => (w.heap.size ≤ k_)) ho0 (YE (upB HB)) (fun k_ h_ => h_)) (YE (upB HB))); have n5_ := YL (YK (g := gb525) (o := .cells #[.int .i64 a0_0, .slice A0_1 l0_1.length c0_1] 24 (0, 0)) (upK BK525) hb); have n6_ := YL (YK (g := gb532) (o := .cells #[.int .i64 t526, .slice Ao19 t527.length co19] 24 (0, 0)) (upK BK532) hb); have n7_ := YL (YD (upB HB) hb); clear HO_1; clear HO_2; clear HO_526001; clear HO_533001; clear BK525; clear BK532; clear HB; have HO_1 := n0_; have HO_2 := n1_; have HO_526001 := n2_; have HO_533001 := n3_; have HO544 := n4_; have BK525 := n5_; have BK532 := n6_; have HB := n7_; clear n0_ n1_ n2_ n3_ n4_ n5_ n6_ n7_; (try clear hb); (try clear hb2); (try clear hk); (try clear hi); (try clear ho0); obtain ⟨Ao43, co43, eo43⟩ := Kd.R_slice HO544.out; subst eo43) | ((with_reducible refine gate_dst (N := 77) rfl ?_); (try (refine gate_guard (by rfl) ?_; dsimp only)); refine Kd.N_lit (Kd.slice 5 (Kd.int .u8)) _ 26 ?hg (N' := 77) ?hd (xs := ([l1, t542, l2] : List (List Int))) (inner := [.slice A1 l1.length c1, .slice Ao43 t542.length co43, .slice A2 l2.length c2]) (ok := (fun k_ => ((P0_1_ k_ ∨ P1_ k_ ∨ P2_ k_) ∨ w.heap.size ≤ k_) ∧ some k_ ≠ (.slice Ao19 t527.length co19 : Value).ownBlock ∧ k_ ≠ gb525 ∧ k_ ≠ gb532)) (okp := (fun k_ => ((P0_1_ k_ ∨ P1_ k_ ∨ P2_ k_) ∨ w.heap.size ≤ k_) ∧ some k_ ≠ (.slice Ao19 t527.length co19 : Value).ownBlock ∧ k_ ≠ gb525 ∧ k_ ≠ gb532)) ?hr ?hp (fun _ hk => hk) ((show ∀ k_, w42.heap.size ≤ k_ → (fun k_ => ((P0_1_ k_ ∨ P1_ k_ ∨ P2_ k_) ∨ w.heap.size ≤ k_) ∧ some k_ ≠ (.slice Ao19 t527.length co19 : Value).ownBlock ∧ k_ ≠ gb525 ∧ k_ ≠ gb532) k_ from fun k_ hk => ⟨(.inr (Nat.le_trans (YE (upB HB)) hk)), Kd.fresh' (Kd.R_lt (upR HO_533001)) k_ hk, Kd.freshB (g := gb525) (o := .cells #[.int .i64 a0_0, .slice A0_1 l0_1.length c0_1] 24 (0, 0)) (upK BK525) k_ hk, Kd.freshB (g := gb532) (o := .cells #[.int .i64 t526, .slice Ao19 t527.length co19] 24 (0, 0)) (upK BK532) k_ hk⟩) _ (Nat.le_refl _)) (Below.refl _ _) (Nat.le_refl _) (by simp) ?_; (case hd => rfl); (case hg => rfl); (case hr => first | (go_simp; done) | (go_simp; rfl)); (case hp => exact (Reps.one (show Kd.FK (Kd.slice 5 (Kd.int .u8)) _ _ l1 [.slice A1 l1.length c1] from (Kd.FK_slice_mk (Kd.V_reads' (Kd.V_mono (ok' := (fun k_ => ((P0_1_ k_ ∨ P1_ k_ ∨ P2_ k_) ∨ w.heap.size ≤ k_) ∧ some k_ ≠ (.slice Ao19 t527.length co19 : Value).ownBlock ∧ k_ ≠ gb525 ∧ k_ ≠ gb532)) (HO_1.out) (fun k_ hk => ⟨hk.1.1, ⟨hk.1.2.1, ⟨hk.1.2.2.1, hk.1.2.2.2⟩⟩⟩))).2.1 (Kd.V_F (Kd.V_mono (ok' := (fun k_ => ((P0_1_ k_ ∨ P1_ k_ ∨ P2_ k_) ∨ w.heap.size ≤ k_) ∧ some k_ ≠ (.slice Ao19 t527.length co19 : Value).ownBlock ∧ k_ ≠ gb525 ∧ k_ ≠ gb532)) (upV HO_1) (fun k_ hk => by exact ⟨hk.1.1, ⟨hk.1.2.1, ⟨hk.1.2.2.1, hk.1.2.2.2⟩⟩⟩))))) (Reps.one (show Kd.FK (Kd.slice 5 (Kd.int .u8)) _ _ t542 [.slice Ao43 t542.length co43] from (Kd.FK_slice_mk (Kd.R_reads' (Kd.R_mono (ok' := (fun k_ => ((P0_1_ k_ ∨ P1_ k_ ∨ P2_ k_) ∨ w.heap.size ≤ k_) ∧ some k_ ≠ (.slice Ao19 t527.length co19 : Value).ownBlock ∧ k_ ≠ gb525 ∧ k_ ≠ gb532)) (Kd.R_types (Kd.R_types (Kd.R_apart' (HO544.out) (Kd.R_typed HO_533001.out) (by decide)) BK525.out (by decide)) BK532.out (by decide)) (fun k_ hk => ⟨(.inr (hk.1.1.1.1)), ⟨hk.1.1.2, ⟨hk.1.2, hk.2⟩⟩⟩))).2.1 (Kd.R_F (Kd.R_mono (ok' := (fun k_ => ((P0_1_ k_ ∨ P1_ k_ ∨ P2_ k_) ∨ w.heap.size ≤ k_) ∧ some k_ ≠ (.slice Ao19 t527.length co19 : Value).ownBlock ∧ k_ ≠ gb525 ∧ k_ ≠ gb532)) (Kd.R_types (Kd.R_types (Kd.R_apart' (HO544.out) (Kd.R_typed HO_533001.out) (by decide)) BK525.out (by decide)) BK532.out (by decide)) (fun k_ hk => ⟨(.inr (hk.1.1.1.1)), ⟨hk.1.1.2, ⟨hk.1.2, hk.2⟩⟩⟩))))) (Reps.one (show Kd.FK (Kd.slice 5 (Kd.int .u8)) _ _ l2 [.slice A2 l2.length c2] from (Kd.FK_slice_mk (Kd.V_reads' (Kd.V_mono (ok' := (fun k_ => ((P0_1_ k_ ∨ P1_ k_ ∨ P2_ k_) ∨ w.heap.size ≤ k_) ∧ some k_ ≠ (.slice Ao19 t527.length co19 : Value).ownBlock ∧ k_ ≠ gb525 ∧ k_ ≠ gb532)) (upR HO_2) (fun k_ hk => by exact ⟨hk.1.1, ⟨hk.1.2.1, ⟨hk.1.2.2.1, hk.1.2.2.2⟩⟩⟩))).2.1 (Kd.V_F (Kd.V_mono (ok' := (fun k_ => ((P0_1_ k_ ∨ P1_ k_ ∨ P2_ k_) ∨ w.heap.size ≤ k_) ∧ some k_ ≠ (.slice Ao19 t527.length co19 : Value).ownBlock ∧ k_ ≠ gb525 ∧ k_ ≠ gb532)) (upV HO_2) (fun k_ hk => by exact ⟨hk.1.1, ⟨hk.1.2.1, ⟨hk.1.2.2.1, hk.1.2.2.2⟩⟩⟩))))) (Reps.none _ _))))); intro v547 w44 ho45 hb hg_ hnew_; clear hg_ hnew_; (first | rw [← Ny546.out] at ho45 | (simp only [Int.reduceToNat] at ho45; rw [← Ny546.out] at ho45)); have n0_ := YL (Kd.V_elder' (upV HO_1) (Kd.N_base ho45) hb); have n1_ := YL (Kd.V_elder' (upV HO_2) (Kd.N_base ho45) hb); have n2_ := YL (Kd.V_elder' (upV HO_526001) (Kd.N_base ho45) hb); have n3_ := YL (YP (upR HO_533001) hb); have n4_ := YL (Kd.N_lower ho45 (YE (upB HB))); have n5_ := YL (YK (g := gb525) (o := .cells #[.int .i64 a0_0, .slice A0_1 l0_1.length c0_1] 24 (0, 0)) (upK BK525) hb); have n6_ := YL (YK (g := gb532) (o := .cells #[.int .i64 t526, .slice Ao19 t527.length co19] 24 (0, 0)) (upK BK532) hb); have n7_ := YL (YD (upB HB) hb); clear HO_1; clear HO_2; clear HO_526001; clear HO_533001; clear BK525; clear BK532; clear HB; clear HO544; have HO_1 := n0_; have HO_2 := n1_; have HO_526001 := n2_; have HO_533001 := n3_; have HO548 := n4_; have BK525 := n5_; have BK532 := n6_; have HB := n7_; clear n0_ n1_ n2_ n3_ n4_ n5_ n6_ n7_; clear hb ho45; obtain ⟨Ao46, co46, eo46⟩ := Kd.N_slice HO548.out; subst eo46) | (go_at_call 22; (with_reducible refine (thalwegref01_Both.calls kj13 _ _ y546 t549 _ ?side1 ?side2 A32.out).mono ?_); (case side1 => repeat (first | exact (Kd.N_reads' HO548.out).2.2 | (with_reducible refine Kd.C_alloc ?_ _) | (with_reducible refine Kd.C_drewN ?_ _) | (with_reducible refine Kd.C_drew ?_))); (case side2 => exact (Kd.N_reads' HO548.out).2.1); rintro e w47 ⟨v550, rfl, ho0, hb⟩; have n0_ := YL (Kd.V_elder' (upV HO_1) (Kd.R_base ho0) hb); have n1_ := YL (Kd.V_elder' (upV HO_2) (Kd.R_base ho0) hb); have n2_ := YL (Kd.V_elder' (upV HO_526001) (Kd.R_base ho0) hb); have n3_ := YL (YP (upR HO_533001) hb); have n4_ := YL (Kd.N_elder' (upN HO548) (Kd.R_base ho0) hb); have n5_ := YL (Kd.R_lower (Kd.R_newM (M := fun k_ => (w.heap.size ≤ k_)) ho0 (YE (upB HB)) (fun k_ h_ => h_)) (YE (upB HB))); have n6_ := YL (YK (g := gb525) (o := .cells #[.int .i64 a0_0, .slice A0_1 l0_1.length c0_1] 24 (0, 0)) (upK BK525) hb); have n7_ := YL (YK (g := gb532) (o := .cells #[.int .i64 t526, .slice Ao19 t527.length co19] 24 (0, 0)) (upK BK532) hb); have n8_ := YL (YD (upB HB) hb); clear HO_1; clear HO_2; clear HO_526001; clear HO_533001; clear HO548; clear BK525; clear BK532; clear HB; have HO_1 := n0_; have HO_2 := n1_; have HO_526001 := n2_; have HO_533001 := n3_; have HO548 := n4_; have HO551 := n5_; have BK525 := n6_; have BK532 := n7_; have HB := n8_; clear n0_ n1_ n2_ n3_ n4_ n5_ n6_ n7_ n8_; (try clear hb); (try clear hb2); (try clear hk); (try clear hi); (try clear ho0); obtain ⟨Ao48, co48, eo48⟩ := Kd.R_slice HO551.out; subst eo48) | (go_at_call 21; (with_reducible refine (batch_Parse.calls kj13 _ _ t549 (l1.length : Int) t552 t553 t556 t557 _ ?side1 ?side2 A33.out).mono ?_); (case side1 => repeat (first | exact (Kd.R_reads' HO551.out).2.2 | (with_reducible refine Kd.C_alloc ?_ _) | (with_reducible refine Kd.C_drewN ?_ _) | (with_reducible refine Kd.C_drew ?_))); (case side2 => exact (Kd.R_reads' HO551.out).2.1); rintro e w49 ⟨v554, rfl, ho0, hb⟩; have n0_ := YL (Kd.V_elder' (upV HO_1) (Kd.R_base ho0) hb); have n1_ := YL (Kd.V_elder' (upV HO_2) (Kd.R_base ho0) hb); have n2_ := YL (Kd.V_elder' (upV HO_526001) (Kd.R_base ho0) hb); have n3_ := YL (Kd.R_elder' (upR HO_533001) (Kd.R_base ho0) hb); have n4_ := YL (Kd.N_elder' (upN HO548) (Kd.R_base ho0) hb); have n5_ := YL (YP (upR HO551) hb); have n6_ := YL (Kd.R_lower (Kd.R_new' (Kd.R_newM (M := fun k_ => (w.heap.size ≤ k_)) ho0 (YE (upB HB)) (fun k_ h_ => h_)) (Kd.R_lt (upR HO_533001))) (YE (upB HB))); have n7_ := YL (YK (g := gb525) (o := .cells #[.int .i64 a0_0, .slice A0_1 l0_1.length c0_1] 24 (0, 0)) (upK BK525) hb); have n8_ := YL (YK (g := gb532) (o := .cells #[.int .i64 t526, .slice Ao19 t527.length co19] 24 (0, 0)) (upK BK532) hb); have n9_ := YL (YD (upB HB) hb); clear HO_1; clear HO_2; clear HO_526001; clear HO_533001; clear HO548; clear HO551; clear BK525; clear BK532; clear HB; have HO_1 := n0_; have HO_2 := n1_; have HO_526001 := n2_; have HO_533001 := n3_; have HO548 := n4_; have HO551 := n5_; have HO555 := n6_; have BK525 := n7_; have BK532 := n8_; have HB := n9_; clear n0_ n1_ n2_ n3_ n4_ n5_ n6_ n7_ n8_ n9_; (try clear hb); (try clear hb2); (try clear hk); (try clear hi); (try clear ho0)) | ((with_reducible refine gate_dst (N := 14) rfl ?_); (try (refine gate_guard (by rfl) ?_; dsimp only)); refine box_event ?hg (N := 14) ?hd (cs := #[.int .i64 0, .slice none 0 0]) (t := 24) ?hr ?_; (case hd => rfl); (case hg => rfl); (case hr => first | (go_simp; done) | (go_simp; rfl)); intro gb558 hg w50 hbox hb; have n0_ := YL (Kd.V_below (Kd.V_elderB (upV HO_1) gb558 (Nat.le_of_eq hg.symm)) hb); have n1_ := YL (Kd.V_below (Kd.V_elderB (upV HO_2) gb558 (Nat.le_of_eq hg.symm)) hb); have n2_ := YL (Kd.V_below (Kd.V_elderB (upV HO_526001) gb558 (Nat.le_of_eq hg.symm)) hb); have n3_ := YL (YP (upR HO_533001) hb); have n4_ := YL (Kd.N_below (Kd.N_elderB (upN HO548) gb558 (Nat.le_of_eq hg.symm)) hb); have n5_ := YL (YP (upR HO551) hb); have n6_ := YL (YP (upR HO555) hb); have n7_ := YL (YK (g := gb525) (o := .cells #[.int .i64 a0_0, .slice A0_1 l0_1.length c0_1] 24 (0, 0)) (upK BK525) hb); have n8_ := YL (YK (g := gb532) (o := .cells #[.int .i64 t526, .slice Ao19 t527.length co19] 24 (0, 0)) (upK BK532) hb); have n9_ := YL (YD (upB HB) hb); have n10_ := YL (hbox); have n11_ := YL ((by rw [hg]; exact (YE (upB HB)) : w.heap.size ≤ gb558)); have n12_ := YL ((by rw [hg]; exact (YE (upB HB)) : w.heap.size ≤ gb558)); have n13_ := YL ((by rw [hg]; exact Nat.ne_of_lt (blk_lt (g := gb525) (o := .cells #[.int .i64 a0_0, .slice A0_1 l0_1.length c0_1] 24 (0, 0)) (upK BK525)) : gb525 ≠ gb558)); have n14_ := YL ((by rw [hg]; exact Nat.ne_of_gt (blk_lt (g := gb525) (o := .cells #[.int .i64 a0_0, .slice A0_1 l0_1.length c0_1] 24 (0, 0)) (upK BK525)) : gb558 ≠ gb525)); have n15_ := YL ((by rw [hg]; exact Nat.ne_of_lt (blk_lt (g := gb532) (o := .cells #[.int .i64 t526, .slice Ao19 t527.length co19] 24 (0, 0)) (upK BK532)) : gb532 ≠ gb558)); have n16_ := YL ((by rw [hg]; exact Nat.ne_of_gt (blk_lt (g := gb532) (o := .cells #[.int .i64 t526, .slice Ao19 t527.length co19] 24 (0, 0)) (upK BK532)) : gb558 ≠ gb532)); clear HO_1; clear HO_2; clear HO_526001; clear HO_533001; clear HO548; clear HO551; clear HO555; clear BK525; clear BK532; clear HB; have HO_1 := n0_; have HO_2 := n1_; have HO_526001 := n2_; have HO_533001 := n3_; have HO548 := n4_; have HO551 := n5_; have HO555 := n6_; have BK525 := n7_; have BK532 := n8_; have HB := n9_; have BK558 := n10_; have GW558 := n11_; have GE558 := n12_; have NB525_558 := n13_; have NB558_525 := n14_; have NB532_558 := n15_; have NB558_532 := n16_; clear n0_ n1_ n2_ n3_ n4_ n5_ n6_ n7_ n8_ n9_ n10_ n11_ n12_ n13_ n14_ n15_ n16_; clear hb hbox hg; have hnb51 := NB558_525.out; have hnc51 := NB525_558.out; have hnb52 := NB558_532.out; have hnc52 := NB532_558.out; have q53_0 : w50.cell? ⟨gb558, 0, none⟩ = some (.int .i64 0) := (YI BK558.out 0).trans rfl; have q53_1 : w50.cell? ⟨gb558, 1, none⟩ = some (.slice none 0 0) := (YI BK558.out 1).trans rfl; have f53_0 := YJ BK558.out 0; have f53_1 := YJ BK558.out 1; obtain ⟨Ao54, co54, eo54⟩ := Kd.R_slice HO555.out; subst eo54) | (go_at_call 11; (with_reducible refine (thalweglaw05_awake.calls kj13  true _ A35.out).mono ?_); rintro e w55 ⟨rfl, hb⟩; have n0_ := YL (Kd.V_below (by (with_reducible repeat (first | apply Kd.V_alloc | apply Kd.V_drewN | apply Kd.V_drew)); exact (Kd.V_mono (Kd.V_far (p := ⟨gb558, 1, none⟩) (Kd.V_far (p := ⟨gb558, 0, none⟩) (Kd.V_mono HO_1.out (fun k_ hk => (⟨hk, hk.2⟩ : _ ∧ k_ ≠ gb558))) (fun _ hk => hk.2) (.int .i64 t552)) (fun _ hk => hk.2) (.slice Ao54 t553.length co54)) (fun _ h_ => h_.1))) hb); have n1_ := YL (Kd.V_below (by (with_reducible repeat (first | apply Kd.V_alloc | apply Kd.V_drewN | apply Kd.V_drew)); exact (Kd.V_mono (Kd.V_far (p := ⟨gb558, 1, none⟩) (Kd.V_far (p := ⟨gb558, 0, none⟩) (Kd.V_mono HO_2.out (fun k_ hk => (⟨hk, hk.2⟩ : _ ∧ k_ ≠ gb558))) (fun _ hk => hk.2) (.int .i64 t552)) (fun _ hk => hk.2) (.slice Ao54 t553.length co54)) (fun _ h_ => h_.1))) hb); have n2_ := YL (Kd.V_below (by (with_reducible repeat (first | apply Kd.V_alloc | apply Kd.V_drewN | apply Kd.V_drew)); exact (Kd.V_mono (Kd.V_far (p := ⟨gb558, 1, none⟩) (Kd.V_far (p := ⟨gb558, 0, none⟩) (Kd.V_mono HO_526001.out (fun k_ hk => (⟨hk, hk.2⟩ : _ ∧ k_ ≠ gb558))) (fun _ hk => hk.2) (.int .i64 t552)) (fun _ hk => hk.2) (.slice Ao54 t553.length co54)) (fun _ h_ => h_.1))) hb); have n3_ := YL (YP (by (with_reducible repeat (first | apply YM | apply YN | apply YO)); exact (Kd.R_mono (Kd.R_far (p := ⟨gb558, 1, none⟩) (Kd.R_far (p := ⟨gb558, 0, none⟩) (Kd.R_types HO_533001.out BK558.out (by decide)) (fun _ hk => hk.2) (.int .i64 t552)) (fun _ hk => hk.2) (.slice Ao54 t553.length co54)) (fun _ h_ => h_.1))) hb); have n4_ := YL (Kd.N_below (by (with_reducible repeat (first | apply Kd.N_alloc | apply Kd.N_drewN | apply Kd.N_drew)); exact (Kd.N_mono (Kd.N_far (p := ⟨gb558, 1, none⟩) (Kd.N_far (p := ⟨gb558, 0, none⟩) (Kd.N_mono HO548.out (fun k_ hk => (⟨hk, hk.2⟩ : _ ∧ k_ ≠ gb558))) (fun _ hk => hk.2) (.int .i64 t552)) (fun _ hk => hk.2) (.slice Ao54 t553.length co54)) (fun _ h_ => h_.1))) hb); have n5_ := YL (YP (by (with_reducible repeat (first | apply YM | apply YN | apply YO)); exact (Kd.R_mono (Kd.R_far (p := ⟨gb558, 1, none⟩) (Kd.R_far (p := ⟨gb558, 0, none⟩) (Kd.R_types HO551.out BK558.out (by decide)) (fun _ hk => hk.2) (.int .i64 t552)) (fun _ hk => hk.2) (.slice Ao54 t553.length co54)) (fun _ h_ => h_.1))) hb); have n6_ := YL (YP (by (with_reducible repeat (first | apply YM | apply YN | apply YO)); exact (Kd.R_mono (Kd.R_far (p := ⟨gb558, 1, none⟩) (Kd.R_far (p := ⟨gb558, 0, none⟩) (Kd.R_types HO555.out BK558.out (by decide)) (fun _ hk => hk.2) (.int .i64 t552)) (fun _ hk => hk.2) (.slice Ao54 t553.length co54)) (fun _ h_ => h_.1))) hb); have n7_ := YL (YK (g := gb525) (o := .cells #[.int .i64 a0_0, .slice A0_1 l0_1.length c0_1] 24 (0, 0)) (by (with_reducible repeat (first | refine YF ?_ _ | refine YG ?_ | refine YH ?_ _)); refine blk_far ?_ NB525_558.out _; (with_reducible repeat (first | refine YF ?_ _ | refine YG ?_ | refine YH ?_ _)); refine blk_far ?_ NB525_558.out _; (with_reducible repeat (first | refine YF ?_ _ | refine YG ?_ | refine YH ?_ _)); exact BK525.out) hb); have n8_ := YL (YK (g := gb532) (o := .cells #[.int .i64 t526, .slice Ao19 t527.length co19] 24 (0, 0)) (by (with_reducible repeat (first | refine YF ?_ _ | refine YG ?_ | refine YH ?_ _)); refine blk_far ?_ NB532_558.out _; (with_reducible repeat (first | refine YF ?_ _ | refine YG ?_ | refine YH ?_ _)); refine blk_far ?_ NB532_558.out _; (with_reducible repeat (first | refine YF ?_ _ | refine YG ?_ | refine YH ?_ _)); exact BK532.out) hb); have n9_ := YL (YK (g := gb558) (o := .cells #[.int .i64 t552, .slice Ao54 t553.length co54] 24 (0, 0)) (by (with_reducible repeat (first | refine YF ?_ _ | refine YG ?_ | refine YH ?_ _)); refine blk_put (cs := #[.int .i64 t552, .slice none 0 0]) ?_ 1 _ rfl; (with_reducible repeat (first | refine YF ?_ _ | refine YG ?_ | refine YH ?_ _)); refine blk_put (cs := #[.int .i64 0, .slice none 0 0]) ?_ 0 _ rfl; (with_reducible repeat (first | refine YF ?_ _ | refine YG ?_ | refine YH ?_ _)); exact BK558.out) hb); have n10_ := YL (YD (upB HB) hb); clear HO_1; clear HO_2; clear HO_526001; clear HO_533001; clear HO548; clear HO551; clear HO555; clear BK525; clear BK532; clear BK558; clear HB; have HO_1 := n0_; have HO_2 := n1_; have HO_526001 := n2_; have HO_533001 := n3_; have HO548 := n4_; have HO551 := n5_; have HO555 := n6_; have BK525 := n7_; have BK532 := n8_; have BK558 := n9_; have HB := n10_; clear n0_ n1_ n2_ n3_ n4_ n5_ n6_ n7_ n8_ n9_ n10_; (try clear hb); (try clear hb2); (try clear hk); (try clear hi); have q56_0 : w55.cell? ⟨gb558, 0, none⟩ = some (.int .i64 t552) := (YI BK558.out 0).trans rfl; have q56_1 : w55.cell? ⟨gb558, 1, none⟩ = some (.slice Ao54 t553.length co54) := (YI BK558.out 1).trans rfl; have f56_0 := YJ BK558.out 0; have f56_1 := YJ BK558.out 1) | ((with_reducible refine gate_dst (N := 100) rfl ?_); (try (refine gate_guard (by rfl) ?_; dsimp only)); refine Kd.N_lit k24 _ 24 ?hg (N' := 100) ?hd (xs := ([(⟨t552, t553⟩ : S24)] : List (S24))) (inner := [.int .i64 t552, .slice Ao54 t553.length co54]) (ok := (fun k_ => ((P0_1_ k_ ∨ P1_ k_ ∨ P2_ k_) ∨ w.heap.size ≤ k_) ∧ some k_ ≠ (.slice Ao19 t527.length co19 : Value).ownBlock ∧ some k_ ≠ (.slice Ao46 y546.length co46 : Value).ownBlock ∧ some k_ ≠ (.slice Ao48 t549.length co48 : Value).ownBlock ∧ k_ ≠ gb525 ∧ k_ ≠ gb532 ∧ k_ ≠ gb558)) (okp := (fun k_ => ((P0_1_ k_ ∨ P1_ k_ ∨ P2_ k_) ∨ w.heap.size ≤ k_) ∧ some k_ ≠ (.slice Ao19 t527.length co19 : Value).ownBlock ∧ some k_ ≠ (.slice Ao46 y546.length co46 : Value).ownBlock ∧ some k_ ≠ (.slice Ao48 t549.length co48 : Value).ownBlock ∧ k_ ≠ gb525 ∧ k_ ≠ gb532 ∧ k_ ≠ gb558)) ?hr ?hp (fun _ hk => hk) ((show ∀ k_, w55.heap.size ≤ k_ → (fun k_ => ((P0_1_ k_ ∨ P1_ k_ ∨ P2_ k_) ∨ w.heap.size ≤ k_) ∧ some k_ ≠ (.slice Ao19 t527.length co19 : Value).ownBlock ∧ some k_ ≠ (.slice Ao46 y546.length co46 : Value).ownBlock ∧ some k_ ≠ (.slice Ao48 t549.length co48 : Value).ownBlock ∧ k_ ≠ gb525 ∧ k_ ≠ gb532 ∧ k_ ≠ gb558) k_ from fun k_ hk => ⟨(.inr (Nat.le_trans (YE (upB HB)) hk)), Kd.fresh' (Kd.R_lt (upR HO_533001)) k_ hk, Kd.fresh' (Kd.N_lt (upN HO548)) k_ hk, Kd.fresh' (Kd.R_lt (upR HO551)) k_ hk, Kd.freshB (g := gb525) (o := .cells #[.int .i64 a0_0, .slice A0_1 l0_1.length c0_1] 24 (0, 0)) (upK BK525) k_ hk, Kd.freshB (g := gb532) (o := .cells #[.int .i64 t526, .slice Ao19 t527.length co19] 24 (0, 0)) (upK BK532) k_ hk, Kd.freshB (g := gb558) (o := .cells #[.int .i64 t552, .slice Ao54 t553.length co54] 24 (0, 0)) (upK BK558) k_ hk⟩) _ (Nat.le_refl _)) (Below.refl _ _) (Nat.le_refl _) (by simp) ?_; (case hd => rfl); (case hg => rfl); (case hr => first | (go_simp; done) | (go_simp; rfl)); (case hp => exact (Reps.c2 (show Kd.FK k24 _ _ (⟨t552, t553⟩ : S24) [.int .i64 t552, .slice Ao54 t553.length co54] from (k24_mkF _ _ (⟨t552, t553⟩ : S24) (Kd.R_reads' (Kd.R_mono (ok' := (fun k_ => ((P0_1_ k_ ∨ P1_ k_ ∨ P2_ k_) ∨ w.heap.size ≤ k_) ∧ some k_ ≠ (.slice Ao19 t527.length co19 : Value).ownBlock ∧ some k_ ≠ (.slice Ao46 y546.length co46 : Value).ownBlock ∧ some k_ ≠ (.slice Ao48 t549.length co48 : Value).ownBlock ∧ k_ ≠ gb525 ∧ k_ ≠ gb532 ∧ k_ ≠ gb558)) (Kd.R_types (Kd.R_types (Kd.R_types (Kd.R_apart' (Kd.R_apart' (HO555.out) (Kd.N_typed HO548.out) (by decide)) (Kd.R_typed HO551.out) (by decide)) BK525.out (by decide)) BK532.out (by decide)) BK558.out (by decide)) (fun k_ hk => ⟨(.inr (hk.1.1.1.1.1.1.1)), ⟨hk.1.1.1.1.1.2, ⟨hk.1.1.1.1.2, ⟨hk.1.1.1.2, ⟨hk.1.1.2, ⟨hk.1.2, hk.2⟩⟩⟩⟩⟩⟩))).2.1 (Kd.R_F (Kd.R_mono (ok' := (fun k_ => ((P0_1_ k_ ∨ P1_ k_ ∨ P2_ k_) ∨ w.heap.size ≤ k_) ∧ some k_ ≠ (.slice Ao19 t527.length co19 : Value).ownBlock ∧ some k_ ≠ (.slice Ao46 y546.length co46 : Value).ownBlock ∧ some k_ ≠ (.slice Ao48 t549.length co48 : Value).ownBlock ∧ k_ ≠ gb525 ∧ k_ ≠ gb532 ∧ k_ ≠ gb558)) (Kd.R_types (Kd.R_types (Kd.R_types (Kd.R_apart' (Kd.R_apart' (HO555.out) (Kd.N_typed HO548.out) (by decide)) (Kd.R_typed HO551.out) (by decide)) BK525.out (by decide)) BK532.out (by decide)) BK558.out (by decide)) (fun k_ hk => ⟨(.inr (hk.1.1.1.1.1.1.1)), ⟨hk.1.1.1.1.1.2, ⟨hk.1.1.1.1.2, ⟨hk.1.1.1.2, ⟨hk.1.1.2, ⟨hk.1.2, hk.2⟩⟩⟩⟩⟩⟩))))) (Reps.none _ _))); intro v561 w57 ho58 hb hg_ hnew_; clear hg_ hnew_; (first | rw [← Ny560.out] at ho58 | (simp only [Int.reduceToNat] at ho58; rw [← Ny560.out] at ho58)); have n0_ := YL (Kd.V_elder' (upV HO_1) (Kd.N_base ho58) hb); have n1_ := YL (Kd.V_elder' (upV HO_2) (Kd.N_base ho58) hb); have n2_ := YL (Kd.V_elder' (upV HO_526001) (Kd.N_base ho58) hb); have n3_ := YL (YP (upR HO_533001) hb); have n4_ := YL (Kd.N_elder' (upN HO548) (Kd.N_base ho58) hb); have n5_ := YL (YP (upR HO551) hb); have n6_ := YL (Kd.N_lower ho58 (YE (upB HB))); have n7_ := YL (YK (g := gb525) (o := .cells #[.int .i64 a0_0, .slice A0_1 l0_1.length c0_1] 24 (0, 0)) (upK BK525) hb); have n8_ := YL (YK (g := gb532) (o := .cells #[.int .i64 t526, .slice Ao19 t527.length co19] 24 (0, 0)) (upK BK532) hb); have n9_ := YL (YK (g := gb558) (o := .cells #[.int .i64 t552, .slice Ao54 t553.length co54] 24 (0, 0)) (upK BK558) hb); have n10_ := YL (YD (upB HB) hb); clear HO_1; clear HO_2; clear HO_526001; clear HO_533001; clear HO548; clear HO551; clear BK525; clear BK532; clear BK558; clear HB; clear HO555; have HO_1 := n0_; have HO_2 := n1_; have HO_526001 := n2_; have HO_533001 := n3_; have HO548 := n4_; have HO551 := n5_; have HO562 := n6_; have BK525 := n7_; have BK532 := n8_; have BK558 := n9_; have HB := n10_; clear n0_ n1_ n2_ n3_ n4_ n5_ n6_ n7_ n8_ n9_ n10_; clear hb ho58; have q59_0 : w57.cell? ⟨gb525, 0, none⟩ = some (.int .i64 a0_0) := (YI BK525.out 0).trans rfl; have q59_1 : w57.cell? ⟨gb525, 1, none⟩ = some (.slice A0_1 l0_1.length c0_1) := (YI BK525.out 1).trans rfl; have f59_0 := YJ BK525.out 0; have f59_1 := YJ BK525.out 1) | ((with_reducible refine gate_dst (N := 102) rfl ?_); (try (refine gate_guard (by rfl) ?_; dsimp only)); refine Kd.N_lit k24 _ 24 ?hg (N' := 102) ?hd (xs := ([(⟨a0_0, l0_1⟩ : S24)] : List (S24))) (inner := [.int .i64 a0_0, .slice A0_1 l0_1.length c0_1]) (ok := (fun k_ => ((P0_1_ k_ ∨ P1_ k_ ∨ P2_ k_) ∨ w.heap.size ≤ k_) ∧ some k_ ≠ (.slice Ao19 t527.length co19 : Value).ownBlock ∧ some k_ ≠ (.slice Ao46 y546.length co46 : Value).ownBlock ∧ some k_ ≠ (.slice Ao48 t549.length co48 : Value).ownBlock ∧ some k_ ≠ (v561 : Value).ownBlock ∧ k_ ≠ gb525 ∧ k_ ≠ gb532 ∧ k_ ≠ gb558)) (okp := (fun k_ => ((P0_1_ k_ ∨ P1_ k_ ∨ P2_ k_) ∨ w.heap.size ≤ k_) ∧ some k_ ≠ (.slice Ao19 t527.length co19 : Value).ownBlock ∧ some k_ ≠ (.slice Ao46 y546.length co46 : Value).ownBlock ∧ some k_ ≠ (.slice Ao48 t549.length co48 : Value).ownBlock ∧ some k_ ≠ (v561 : Value).ownBlock ∧ k_ ≠ gb525 ∧ k_ ≠ gb532 ∧ k_ ≠ gb558)) ?hr ?hp (fun _ hk => hk) ((show ∀ k_, w57.heap.size ≤ k_ → (fun k_ => ((P0_1_ k_ ∨ P1_ k_ ∨ P2_ k_) ∨ w.heap.size ≤ k_) ∧ some k_ ≠ (.slice Ao19 t527.length co19 : Value).ownBlock ∧ some k_ ≠ (.slice Ao46 y546.length co46 : Value).ownBlock ∧ some k_ ≠ (.slice Ao48 t549.length co48 : Value).ownBlock ∧ some k_ ≠ (v561 : Value).ownBlock ∧ k_ ≠ gb525 ∧ k_ ≠ gb532 ∧ k_ ≠ gb558) k_ from fun k_ hk => ⟨(.inr (Nat.le_trans (YE (upB HB)) hk)), Kd.fresh' (Kd.R_lt (upR HO_533001)) k_ hk, Kd.fresh' (Kd.N_lt (upN HO548)) k_ hk, Kd.fresh' (Kd.R_lt (upR HO551)) k_ hk, Kd.fresh' (Kd.N_lt (upN HO562)) k_ hk, Kd.freshB (g := gb525) (o := .cells #[.int .i64 a0_0, .slice A0_1 l0_1.length c0_1] 24 (0, 0)) (upK BK525) k_ hk, Kd.freshB (g := gb532) (o := .cells #[.int .i64 t526, .slice Ao19 t527.length co19] 24 (0, 0)) (upK BK532) k_ hk, Kd.freshB (g := gb558) (o := .cells #[.int .i64 t552, .slice Ao54 t553.length co54] 24 (0, 0)) (upK BK558) k_ hk⟩) _ (Nat.le_refl _)) (Below.refl _ _) (Nat.le_refl _) (by simp) ?_; (case hd => rfl); (case hg => rfl); (case hr => first | (go_simp; done) | (go_simp; rfl)); (case hp => exact (Reps.c2 (show Kd.FK k24 _ _ (⟨a0_0, l0_1⟩ : S24) [.int .i64 a0_0, .slice A0_1 l0_1.length c0_1] from (k24_mkF _ _ (⟨a0_0, l0_1⟩ : S24) (Kd.V_reads' (Kd.V_mono (ok' := (fun k_ => ((P0_1_ k_ ∨ P1_ k_ ∨ P2_ k_) ∨ w.heap.size ≤ k_) ∧ some k_ ≠ (.slice Ao19 t527.length co19 : Value).ownBlock ∧ some k_ ≠ (.slice Ao46 y546.length co46 : Value).ownBlock ∧ some k_ ≠ (.slice Ao48 t549.length co48 : Value).ownBlock ∧ some k_ ≠ (v561 : Value).ownBlock ∧ k_ ≠ gb525 ∧ k_ ≠ gb532 ∧ k_ ≠ gb558)) (HO_526001.out) (fun k_ hk => ⟨hk.1.1.1.1.1.1.1, ⟨hk.1.1.1.1.1.1.2.1, ⟨hk.1.1.1.1.2, ⟨hk.1.1.1.2, ⟨hk.2, ⟨hk.1.1.1.1.1.1.2.2.1, ⟨hk.1.1.1.1.1.1.2.2.2, hk.1.2⟩⟩⟩⟩⟩⟩⟩))).2.1 (Kd.V_F (Kd.V_mono (ok' := (fun k_ => ((P0_1_ k_ ∨ P1_ k_ ∨ P2_ k_) ∨ w.heap.size ≤ k_) ∧ some k_ ≠ (.slice Ao19 t527.length co19 : Value).ownBlock ∧ some k_ ≠ (.slice Ao46 y546.length co46 : Value).ownBlock ∧ some k_ ≠ (.slice Ao48 t549.length co48 : Value).ownBlock ∧ some k_ ≠ (v561 : Value).ownBlock ∧ k_ ≠ gb525 ∧ k_ ≠ gb532 ∧ k_ ≠ gb558)) (upV HO_526001) (fun k_ hk => by exact ⟨hk.1.1.1.1.1.1.1, ⟨hk.1.1.1.1.1.1.2.1, ⟨hk.1.1.1.1.2, ⟨hk.1.1.1.2, ⟨hk.2, ⟨hk.1.1.1.1.1.1.2.2.1, ⟨hk.1.1.1.1.1.1.2.2.2, hk.1.2⟩⟩⟩⟩⟩⟩⟩))))) (Reps.none _ _))); intro v564 w60 ho61 hb hg_ hnew_; clear hg_ hnew_; (first | rw [← Ny563.out] at ho61 | (simp only [Int.reduceToNat] at ho61; rw [← Ny563.out] at ho61)); have n0_ := YL (Kd.V_elder' (upV HO_1) (Kd.N_base ho61) hb); have n1_ := YL (Kd.V_elder' (upV HO_2) (Kd.N_base ho61) hb); have n2_ := YL (Kd.V_elder' (upV HO_526001) (Kd.N_base ho61) hb); have n3_ := YL (YP (upR HO_533001) hb); have n4_ := YL (Kd.N_elder' (upN HO548) (Kd.N_base ho61) hb); have n5_ := YL (YP (upR HO551) hb); have n6_ := YL (Kd.N_elder' (upN HO562) (Kd.N_base ho61) hb); have n7_ := YL (Kd.N_lower ho61 (YE (upB HB))); have n8_ := YL (YK (g := gb525) (o := .cells #[.int .i64 a0_0, .slice A0_1 l0_1.length c0_1] 24 (0, 0)) (upK BK525) hb); have n9_ := YL (YK (g := gb532) (o := .cells #[.int .i64 t526, .slice Ao19 t527.length co19] 24 (0, 0)) (upK BK532) hb); have n10_ := YL (YK (g := gb558) (o := .cells #[.int .i64 t552, .slice Ao54 t553.length co54] 24 (0, 0)) (upK BK558) hb); have n11_ := YL (YD (upB HB) hb); clear HO_1; clear HO_2; clear HO_526001; clear HO_533001; clear HO548; clear HO551; clear HO562; clear BK525; clear BK532; clear BK558; clear HB; have HO_1 := n0_; have HO_2 := n1_; have HO_526001 := n2_; have HO_533001 := n3_; have HO548 := n4_; have HO551 := n5_; have HO562 := n6_; have HO565 := n7_; have BK525 := n8_; have BK532 := n9_; have BK558 := n10_; have HB := n11_; clear n0_ n1_ n2_ n3_ n4_ n5_ n6_ n7_ n8_ n9_ n10_ n11_; clear hb ho61; obtain ⟨Ao62, co62, eo62⟩ := Kd.N_slice HO562.out; subst eo62; obtain ⟨Ao63, co63, eo63⟩ := Kd.N_slice HO565.out; subst eo63) | (go_at_call 17; (with_reducible refine (thalwegref05_Same.calls kj13 _ _ y560 _ _ y563 true _ ?side1 ?side2 ?side3 ?side4 A38.out).mono ?_); (case side1 => repeat (first | exact (Kd.N_reads' HO562.out).2.2 | (with_reducible refine Kd.C_alloc ?_ _) | (with_reducible refine Kd.C_drewN ?_ _) | (with_reducible refine Kd.C_drew ?_))); (case side2 => exact (Kd.N_reads' HO562.out).2.1); (case side3 => repeat (first | exact (Kd.N_reads' HO565.out).2.2 | (with_reducible refine Kd.C_alloc ?_ _) | (with_reducible refine Kd.C_drewN ?_ _) | (with_reducible refine Kd.C_drew ?_))); (case side4 => exact (Kd.N_reads' HO565.out).2.1); rintro e w' ⟨rfl, ⟨nd, rfl⟩⟩; (try first | exact ⟨rfl, _, World.drewN_drewN _ _ _⟩ | exact ⟨rfl, _, Eq.trans (World.drewN_drewN _ _ _) (congrArg (World.drewN _) (Nat.add_assoc _ _ _))⟩))); try go_wp2_with (first | (go_at_call 9; (with_reducible refine (batch_Bytes.calls kj13 a0_0 _ _ l0_1 t542 t545 _ ?side1 ?side2 A31.out).mono ?_); (case side1 => repeat (first | exact (Kd.V_reads' HO_526001.out).2.2 | (with_reducible refine Kd.C_alloc ?_ _) | (with_reducible refine Kd.C_drewN ?_ _) | (with_reducible refine Kd.C_drew ?_))); (case side2 => exact (Kd.V_reads' HO_526001.out).2.1); rintro e w42 ⟨v543, rfl, ho0, hb⟩; have n0_ := YL (Kd.V_elder' (upV HO_1) (Kd.R_base ho0) hb); have n1_ := YL (Kd.V_elder' (upV HO_2) (Kd.R_base ho0) hb); have n2_ := YL (Kd.V_elder' (upV HO_526001) (Kd.R_base ho0) hb); have n3_ := YL (YP (upR HO_533001) hb); have n4_ := YL (Kd.R_lower (Kd.R_newM (M := fun k_ => (w.heap.size ≤ k_)) ho0 (YE (upB HB)) (fun k_ h_ => h_)) (YE (upB HB))); have n5_ := YL (YK (g := gb525) (o := .cells #[.int .i64 a0_0, .slice A0_1 l0_1.length c0_1] 24 (0, 0)) (upK BK525) hb); have n6_ := YL (YK (g := gb532) (o := .cells #[.int .i64 t526, .slice Ao19 t527.length co19] 24 (0, 0)) (upK BK532) hb); have n7_ := YL (YD (upB HB) hb); clear HO_1; clear HO_2; clear HO_526001; clear HO_533001; clear BK525; clear BK532; clear HB; have HO_1 := n0_; have HO_2 := n1_; have HO_526001 := n2_; have HO_533001 := n3_; have HO544 := n4_; have BK525 := n5_; have BK532 := n6_; have HB := n7_; clear n0_ n1_ n2_ n3_ n4_ n5_ n6_ n7_; (try clear hb); (try clear hb2); (try clear hk); (try clear hi); (try clear ho0); obtain ⟨Ao43, co43, eo43⟩ := Kd.R_slice HO544.out; subst eo43) | ((with_reducible refine gate_dst (N := 77) rfl ?_); (try (refine gate_guard (by rfl) ?_; dsimp only)); refine Kd.N_lit (Kd.slice 5 (Kd.int .u8)) _ 26 ?hg (N' := 77) ?hd (xs := ([l1, t542, l2] : List (List Int))) (inner := [.slice A1 l1.length c1, .slice Ao43 t542.length co43, .slice A2 l2.length c2]) (ok := (fun k_ => ((P0_1_ k_ ∨ P1_ k_ ∨ P2_ k_) ∨ w.heap.size ≤ k_) ∧ some k_ ≠ (.slice Ao19 t527.length co19 : Value).ownBlock ∧ k_ ≠ gb525 ∧ k_ ≠ gb532)) (okp := (fun k_ => ((P0_1_ k_ ∨ P1_ k_ ∨ P2_ k_) ∨ w.heap.size ≤ k_) ∧ some k_ ≠ (.slice Ao19 t527.length co19 : Value).ownBlock ∧ k_ ≠ gb525 ∧ k_ ≠ gb532)) ?hr ?hp (fun _ hk => hk) ((show ∀ k_, w42.heap.size ≤ k_ → (fun k_ => ((P0_1_ k_ ∨ P1_ k_ ∨ P2_ k_) ∨ w.heap.size ≤ k_) ∧ some k_ ≠ (.slice Ao19 t527.length co19 : Value).ownBlock ∧ k_ ≠ gb525 ∧ k_ ≠ gb532) k_ from fun k_ hk => ⟨(.inr (Nat.le_trans (YE (upB HB)) hk)), Kd.fresh' (Kd.R_lt (upR HO_533001)) k_ hk, Kd.freshB (g := gb525) (o := .cells #[.int .i64 a0_0, .slice A0_1 l0_1.length c0_1] 24 (0, 0)) (upK BK525) k_ hk, Kd.freshB (g := gb532) (o := .cells #[.int .i64 t526, .slice Ao19 t527.length co19] 24 (0, 0)) (upK BK532) k_ hk⟩) _ (Nat.le_refl _)) (Below.refl _ _) (Nat.le_refl _) (by simp) ?_; (case hd => rfl); (case hg => rfl); (case hr => first | (go_simp; done) | (go_simp; rfl)); (case hp => exact (Reps.one (show Kd.FK (Kd.slice 5 (Kd.int .u8)) _ _ l1 [.slice A1 l1.length c1] from (Kd.FK_slice_mk (Kd.V_reads' (Kd.V_mono (ok' := (fun k_ => ((P0_1_ k_ ∨ P1_ k_ ∨ P2_ k_) ∨ w.heap.size ≤ k_) ∧ some k_ ≠ (.slice Ao19 t527.length co19 : Value).ownBlock ∧ k_ ≠ gb525 ∧ k_ ≠ gb532)) (HO_1.out) (fun k_ hk => ⟨hk.1.1, ⟨hk.1.2.1, ⟨hk.1.2.2.1, hk.1.2.2.2⟩⟩⟩))).2.1 (Kd.V_F (Kd.V_mono (ok' := (fun k_ => ((P0_1_ k_ ∨ P1_ k_ ∨ P2_ k_) ∨ w.heap.size ≤ k_) ∧ some k_ ≠ (.slice Ao19 t527.length co19 : Value).ownBlock ∧ k_ ≠ gb525 ∧ k_ ≠ gb532)) (upV HO_1) (fun k_ hk => by exact ⟨hk.1.1, ⟨hk.1.2.1, ⟨hk.1.2.2.1, hk.1.2.2.2⟩⟩⟩))))) (Reps.one (show Kd.FK (Kd.slice 5 (Kd.int .u8)) _ _ t542 [.slice Ao43 t542.length co43] from (Kd.FK_slice_mk (Kd.R_reads' (Kd.R_mono (ok' := (fun k_ => ((P0_1_ k_ ∨ P1_ k_ ∨ P2_ k_) ∨ w.heap.size ≤ k_) ∧ some k_ ≠ (.slice Ao19 t527.length co19 : Value).ownBlock ∧ k_ ≠ gb525 ∧ k_ ≠ gb532)) (Kd.R_types (Kd.R_types (Kd.R_apart' (HO544.out) (Kd.R_typed HO_533001.out) (by decide)) BK525.out (by decide)) BK532.out (by decide)) (fun k_ hk => ⟨(.inr (hk.1.1.1.1)), ⟨hk.1.1.2, ⟨hk.1.2, hk.2⟩⟩⟩))).2.1 (Kd.R_F (Kd.R_mono (ok' := (fun k_ => ((P0_1_ k_ ∨ P1_ k_ ∨ P2_ k_) ∨ w.heap.size ≤ k_) ∧ some k_ ≠ (.slice Ao19 t527.length co19 : Value).ownBlock ∧ k_ ≠ gb525 ∧ k_ ≠ gb532)) (Kd.R_types (Kd.R_types (Kd.R_apart' (HO544.out) (Kd.R_typed HO_533001.out) (by decide)) BK525.out (by decide)) BK532.out (by decide)) (fun k_ hk => ⟨(.inr (hk.1.1.1.1)), ⟨hk.1.1.2, ⟨hk.1.2, hk.2⟩⟩⟩))))) (Reps.one (show Kd.FK (Kd.slice 5 (Kd.int .u8)) _ _ l2 [.slice A2 l2.length c2] from (Kd.FK_slice_mk (Kd.V_reads' (Kd.V_mono (ok' := (fun k_ => ((P0_1_ k_ ∨ P1_ k_ ∨ P2_ k_) ∨ w.heap.size ≤ k_) ∧ some k_ ≠ (.slice Ao19 t527.length co19 : Value).ownBlock ∧ k_ ≠ gb525 ∧ k_ ≠ gb532)) (upR HO_2) (fun k_ hk => by exact ⟨hk.1.1, ⟨hk.1.2.1, ⟨hk.1.2.2.1, hk.1.2.2.2⟩⟩⟩))).2.1 (Kd.V_F (Kd.V_mono (ok' := (fun k_ => ((P0_1_ k_ ∨ P1_ k_ ∨ P2_ k_) ∨ w.heap.size ≤ k_) ∧ some k_ ≠ (.slice Ao19 t527.length co19 : Value).ownBlock ∧ k_ ≠ gb525 ∧ k_ ≠ gb532)) (upV HO_2) (fun k_ hk => by exact ⟨hk.1.1, ⟨hk.1.2.1, ⟨hk.1.2.2.1, hk.1.2.2.2⟩⟩⟩))))) (Reps.none _ _))))); intro v547 w44 ho45 hb hg_ hnew_; clear hg_ hnew_; (first | rw [← Ny546.out] at ho45 | (simp only [Int.reduceToNat] at ho45; rw [← Ny546.out] at ho45)); have n0_ := YL (Kd.V_elder' (upV HO_1) (Kd.N_base ho45) hb); have n1_ := YL (Kd.V_elder' (upV HO_2) (Kd.N_base ho45) hb); have n2_ := YL (Kd.V_elder' (upV HO_526001) (Kd.N_base ho45) hb); have n3_ := YL (YP (upR HO_533001) hb); have n4_ := YL (Kd.N_lower ho45 (YE (upB HB))); have n5_ := YL (YK (g := gb525) (o := .cells #[.int .i64 a0_0, .slice A0_1 l0_1.length c0_1] 24 (0, 0)) (upK BK525) hb); have n6_ := YL (YK (g := gb532) (o := .cells #[.int .i64 t526, .slice Ao19 t527.length co19] 24 (0, 0)) (upK BK532) hb); have n7_ := YL (YD (upB HB) hb); clear HO_1; clear HO_2; clear HO_526001; clear HO_533001; clear BK525; clear BK532; clear HB; clear HO544; have HO_1 := n0_; have HO_2 := n1_; have HO_526001 := n2_; have HO_533001 := n3_; have HO548 := n4_; have BK525 := n5_; have BK532 := n6_; have HB := n7_; clear n0_ n1_ n2_ n3_ n4_ n5_ n6_ n7_; clear hb ho45; obtain ⟨Ao46, co46, eo46⟩ := Kd.N_slice HO548.out; subst eo46) | (go_at_call 22; (with_reducible refine (thalwegref01_Both.calls kj13 _ _ y546 t549 _ ?side1 ?side2 A32.out).mono ?_); (case side1 => repeat (first | exact (Kd.N_reads' HO548.out).2.2 | (with_reducible refine Kd.C_alloc ?_ _) | (with_reducible refine Kd.C_drewN ?_ _) | (with_reducible refine Kd.C_drew ?_))); (case side2 => exact (Kd.N_reads' HO548.out).2.1); rintro e w47 ⟨v550, rfl, ho0, hb⟩; have n0_ := YL (Kd.V_elder' (upV HO_1) (Kd.R_base ho0) hb); have n1_ := YL (Kd.V_elder' (upV HO_2) (Kd.R_base ho0) hb); have n2_ := YL (Kd.V_elder' (upV HO_526001) (Kd.R_base ho0) hb); have n3_ := YL (YP (upR HO_533001) hb); have n4_ := YL (Kd.N_elder' (upN HO548) (Kd.R_base ho0) hb); have n5_ := YL (Kd.R_lower (Kd.R_newM (M := fun k_ => (w.heap.size ≤ k_)) ho0 (YE (upB HB)) (fun k_ h_ => h_)) (YE (upB HB))); have n6_ := YL (YK (g := gb525) (o := .cells #[.int .i64 a0_0, .slice A0_1 l0_1.length c0_1] 24 (0, 0)) (upK BK525) hb); have n7_ := YL (YK (g := gb532) (o := .cells #[.int .i64 t526, .slice Ao19 t527.length co19] 24 (0, 0)) (upK BK532) hb); have n8_ := YL (YD (upB HB) hb); clear HO_1; clear HO_2; clear HO_526001; clear HO_533001; clear HO548; clear BK525; clear BK532; clear HB; have HO_1 := n0_; have HO_2 := n1_; have HO_526001 := n2_; have HO_533001 := n3_; have HO548 := n4_; have HO551 := n5_; have BK525 := n6_; have BK532 := n7_; have HB := n8_; clear n0_ n1_ n2_ n3_ n4_ n5_ n6_ n7_ n8_; (try clear hb); (try clear hb2); (try clear hk); (try clear hi); (try clear ho0); obtain ⟨Ao48, co48, eo48⟩ := Kd.R_slice HO551.out; subst eo48) | (go_at_call 21; (with_reducible refine (batch_Parse.calls kj13 _ _ t549 (l1.length : Int) t552 t553 t556 t557 _ ?side1 ?side2 A33.out).mono ?_); (case side1 => repeat (first | exact (Kd.R_reads' HO551.out).2.2 | (with_reducible refine Kd.C_alloc ?_ _) | (with_reducible refine Kd.C_drewN ?_ _) | (with_reducible refine Kd.C_drew ?_))); (case side2 => exact (Kd.R_reads' HO551.out).2.1); rintro e w49 ⟨v554, rfl, ho0, hb⟩; have n0_ := YL (Kd.V_elder' (upV HO_1) (Kd.R_base ho0) hb); have n1_ := YL (Kd.V_elder' (upV HO_2) (Kd.R_base ho0) hb); have n2_ := YL (Kd.V_elder' (upV HO_526001) (Kd.R_base ho0) hb); have n3_ := YL (Kd.R_elder' (upR HO_533001) (Kd.R_base ho0) hb); have n4_ := YL (Kd.N_elder' (upN HO548) (Kd.R_base ho0) hb); have n5_ := YL (YP (upR HO551) hb); have n6_ := YL (Kd.R_lower (Kd.R_new' (Kd.R_newM (M := fun k_ => (w.heap.size ≤ k_)) ho0 (YE (upB HB)) (fun k_ h_ => h_)) (Kd.R_lt (upR HO_533001))) (YE (upB HB))); have n7_ := YL (YK (g := gb525) (o := .cells #[.int .i64 a0_0, .slice A0_1 l0_1.length c0_1] 24 (0, 0)) (upK BK525) hb); have n8_ := YL (YK (g := gb532) (o := .cells #[.int .i64 t526, .slice Ao19 t527.length co19] 24 (0, 0)) (upK BK532) hb); have n9_ := YL (YD (upB HB) hb); clear HO_1; clear HO_2; clear HO_526001; clear HO_533001; clear HO548; clear HO551; clear BK525; clear BK532; clear HB; have HO_1 := n0_; have HO_2 := n1_; have HO_526001 := n2_; have HO_533001 := n3_; have HO548 := n4_; have HO551 := n5_; have HO555 := n6_; have BK525 := n7_; have BK532 := n8_; have HB := n9_; clear n0_ n1_ n2_ n3_ n4_ n5_ n6_ n7_ n8_ n9_; (try clear hb); (try clear hb2); (try clear hk); (try clear hi); (try clear ho0)) | ((with_reducible refine gate_dst (N := 14) rfl ?_); (try (refine gate_guard (by rfl) ?_; dsimp only)); refine box_event ?hg (N := 14) ?hd (cs := #[.int .i64 0, .slice none 0 0]) (t := 24) ?hr ?_; (case hd => rfl); (case hg => rfl); (case hr => first | (go_simp; done) | (go_simp; rfl)); intro gb558 hg w50 hbox hb; have n0_ := YL (Kd.V_below (Kd.V_elderB (upV HO_1) gb558 (Nat.le_of_eq hg.symm)) hb); have n1_ := YL (Kd.V_below (Kd.V_elderB (upV HO_2) gb558 (Nat.le_of_eq hg.symm)) hb); have n2_ := YL (Kd.V_below (Kd.V_elderB (upV HO_526001) gb558 (Nat.le_of_eq hg.symm)) hb); have n3_ := YL (YP (upR HO_533001) hb); have n4_ := YL (Kd.N_below (Kd.N_elderB (upN HO548) gb558 (Nat.le_of_eq hg.symm)) hb); have n5_ := YL (YP (upR HO551) hb); have n6_ := YL (YP (upR HO555) hb); have n7_ := YL (YK (g := gb525) (o := .cells #[.int .i64 a0_0, .slice A0_1 l0_1.length c0_1] 24 (0, 0)) (upK BK525) hb); have n8_ := YL (YK (g := gb532) (o := .cells #[.int .i64 t526, .slice Ao19 t527.length co19] 24 (0, 0)) (upK BK532) hb); have n9_ := YL (YD (upB HB) hb); have n10_ := YL (hbox); have n11_ := YL ((by rw [hg]; exact (YE (upB HB)) : w.heap.size ≤ gb558)); have n12_ := YL ((by rw [hg]; exact (YE (upB HB)) : w.heap.size ≤ gb558)); have n13_ := YL ((by rw [hg]; exact Nat.ne_of_lt (blk_lt (g := gb525) (o := .cells #[.int .i64 a0_0, .slice A0_1 l0_1.length c0_1] 24 (0, 0)) (upK BK525)) : gb525 ≠ gb558)); have n14_ := YL ((by rw [hg]; exact Nat.ne_of_gt (blk_lt (g := gb525) (o := .cells #[.int .i64 a0_0, .slice A0_1 l0_1.length c0_1] 24 (0, 0)) (upK BK525)) : gb558 ≠ gb525)); have n15_ := YL ((by rw [hg]; exact Nat.ne_of_lt (blk_lt (g := gb532) (o := .cells #[.int .i64 t526, .slice Ao19 t527.length co19] 24 (0, 0)) (upK BK532)) : gb532 ≠ gb558)); have n16_ := YL ((by rw [hg]; exact Nat.ne_of_gt (blk_lt (g := gb532) (o := .cells #[.int .i64 t526, .slice Ao19 t527.length co19] 24 (0, 0)) (upK BK532)) : gb558 ≠ gb532)); clear HO_1; clear HO_2; clear HO_526001; clear HO_533001; clear HO548; clear HO551; clear HO555; clear BK525; clear BK532; clear HB; have HO_1 := n0_; have HO_2 := n1_; have HO_526001 := n2_; have HO_533001 := n3_; have HO548 := n4_; have HO551 := n5_; have HO555 := n6_; have BK525 := n7_; have BK532 := n8_; have HB := n9_; have BK558 := n10_; have GW558 := n11_; have GE558 := n12_; have NB525_558 := n13_; have NB558_525 := n14_; have NB532_558 := n15_; have NB558_532 := n16_; clear n0_ n1_ n2_ n3_ n4_ n5_ n6_ n7_ n8_ n9_ n10_ n11_ n12_ n13_ n14_ n15_ n16_; clear hb hbox hg; have hnb51 := NB558_525.out; have hnc51 := NB525_558.out; have hnb52 := NB558_532.out; have hnc52 := NB532_558.out; have q53_0 : w50.cell? ⟨gb558, 0, none⟩ = some (.int .i64 0) := (YI BK558.out 0).trans rfl; have q53_1 : w50.cell? ⟨gb558, 1, none⟩ = some (.slice none 0 0) := (YI BK558.out 1).trans rfl; have f53_0 := YJ BK558.out 0; have f53_1 := YJ BK558.out 1; obtain ⟨Ao54, co54, eo54⟩ := Kd.R_slice HO555.out; subst eo54) | (go_at_call 11; (with_reducible refine (thalweglaw05_awake.calls kj13  true _ A35.out).mono ?_); rintro e w55 ⟨rfl, hb⟩; have n0_ := YL (Kd.V_below (by (with_reducible repeat (first | apply Kd.V_alloc | apply Kd.V_drewN | apply Kd.V_drew)); exact (Kd.V_mono (Kd.V_far (p := ⟨gb558, 1, none⟩) (Kd.V_far (p := ⟨gb558, 0, none⟩) (Kd.V_mono HO_1.out (fun k_ hk => (⟨hk, hk.2⟩ : _ ∧ k_ ≠ gb558))) (fun _ hk => hk.2) (.int .i64 t552)) (fun _ hk => hk.2) (.slice Ao54 t553.length co54)) (fun _ h_ => h_.1))) hb); have n1_ := YL (Kd.V_below (by (with_reducible repeat (first | apply Kd.V_alloc | apply Kd.V_drewN | apply Kd.V_drew)); exact (Kd.V_mono (Kd.V_far (p := ⟨gb558, 1, none⟩) (Kd.V_far (p := ⟨gb558, 0, none⟩) (Kd.V_mono HO_2.out (fun k_ hk => (⟨hk, hk.2⟩ : _ ∧ k_ ≠ gb558))) (fun _ hk => hk.2) (.int .i64 t552)) (fun _ hk => hk.2) (.slice Ao54 t553.length co54)) (fun _ h_ => h_.1))) hb); have n2_ := YL (Kd.V_below (by (with_reducible repeat (first | apply Kd.V_alloc | apply Kd.V_drewN | apply Kd.V_drew)); exact (Kd.V_mono (Kd.V_far (p := ⟨gb558, 1, none⟩) (Kd.V_far (p := ⟨gb558, 0, none⟩) (Kd.V_mono HO_526001.out (fun k_ hk => (⟨hk, hk.2⟩ : _ ∧ k_ ≠ gb558))) (fun _ hk => hk.2) (.int .i64 t552)) (fun _ hk => hk.2) (.slice Ao54 t553.length co54)) (fun _ h_ => h_.1))) hb); have n3_ := YL (YP (by (with_reducible repeat (first | apply YM | apply YN | apply YO)); exact (Kd.R_mono (Kd.R_far (p := ⟨gb558, 1, none⟩) (Kd.R_far (p := ⟨gb558, 0, none⟩) (Kd.R_types HO_533001.out BK558.out (by decide)) (fun _ hk => hk.2) (.int .i64 t552)) (fun _ hk => hk.2) (.slice Ao54 t553.length co54)) (fun _ h_ => h_.1))) hb); have n4_ := YL (Kd.N_below (by (with_reducible repeat (first | apply Kd.N_alloc | apply Kd.N_drewN | apply Kd.N_drew)); exact (Kd.N_mono (Kd.N_far (p := ⟨gb558, 1, none⟩) (Kd.N_far (p := ⟨gb558, 0, none⟩) (Kd.N_mono HO548.out (fun k_ hk => (⟨hk, hk.2⟩ : _ ∧ k_ ≠ gb558))) (fun _ hk => hk.2) (.int .i64 t552)) (fun _ hk => hk.2) (.slice Ao54 t553.length co54)) (fun _ h_ => h_.1))) hb); have n5_ := YL (YP (by (with_reducible repeat (first | apply YM | apply YN | apply YO)); exact (Kd.R_mono (Kd.R_far (p := ⟨gb558, 1, none⟩) (Kd.R_far (p := ⟨gb558, 0, none⟩) (Kd.R_types HO551.out BK558.out (by decide)) (fun _ hk => hk.2) (.int .i64 t552)) (fun _ hk => hk.2) (.slice Ao54 t553.length co54)) (fun _ h_ => h_.1))) hb); have n6_ := YL (YP (by (with_reducible repeat (first | apply YM | apply YN | apply YO)); exact (Kd.R_mono (Kd.R_far (p := ⟨gb558, 1, none⟩) (Kd.R_far (p := ⟨gb558, 0, none⟩) (Kd.R_types HO555.out BK558.out (by decide)) (fun _ hk => hk.2) (.int .i64 t552)) (fun _ hk => hk.2) (.slice Ao54 t553.length co54)) (fun _ h_ => h_.1))) hb); have n7_ := YL (YK (g := gb525) (o := .cells #[.int .i64 a0_0, .slice A0_1 l0_1.length c0_1] 24 (0, 0)) (by (with_reducible repeat (first | refine YF ?_ _ | refine YG ?_ | refine YH ?_ _)); refine blk_far ?_ NB525_558.out _; (with_reducible repeat (first | refine YF ?_ _ | refine YG ?_ | refine YH ?_ _)); refine blk_far ?_ NB525_558.out _; (with_reducible repeat (first | refine YF ?_ _ | refine YG ?_ | refine YH ?_ _)); exact BK525.out) hb); have n8_ := YL (YK (g := gb532) (o := .cells #[.int .i64 t526, .slice Ao19 t527.length co19] 24 (0, 0)) (by (with_reducible repeat (first | refine YF ?_ _ | refine YG ?_ | refine YH ?_ _)); refine blk_far ?_ NB532_558.out _; (with_reducible repeat (first | refine YF ?_ _ | refine YG ?_ | refine YH ?_ _)); refine blk_far ?_ NB532_558.out _; (with_reducible repeat (first | refine YF ?_ _ | refine YG ?_ | refine YH ?_ _)); exact BK532.out) hb); have n9_ := YL (YK (g := gb558) (o := .cells #[.int .i64 t552, .slice Ao54 t553.length co54] 24 (0, 0)) (by (with_reducible repeat (first | refine YF ?_ _ | refine YG ?_ | refine YH ?_ _)); refine blk_put (cs := #[.int .i64 t552, .slice none 0 0]) ?_ 1 _ rfl; (with_reducible repeat (first | refine YF ?_ _ | refine YG ?_ | refine YH ?_ _)); refine blk_put (cs := #[.int .i64 0, .slice none 0 0]) ?_ 0 _ rfl; (with_reducible repeat (first | refine YF ?_ _ | refine YG ?_ | refine YH ?_ _)); exact BK558.out) hb); have n10_ := YL (YD (upB HB) hb); clear HO_1; clear HO_2; clear HO_526001; clear HO_533001; clear HO548; clear HO551; clear HO555; clear BK525; clear BK532; clear BK558; clear HB; have HO_1 := n0_; have HO_2 := n1_; have HO_526001 := n2_; have HO_533001 := n3_; have HO548 := n4_; have HO551 := n5_; have HO555 := n6_; have BK525 := n7_; have BK532 := n8_; have BK558 := n9_; have HB := n10_; clear n0_ n1_ n2_ n3_ n4_ n5_ n6_ n7_ n8_ n9_ n10_; (try clear hb); (try clear hb2); (try clear hk); (try clear hi); have q56_0 : w55.cell? ⟨gb558, 0, none⟩ = some (.int .i64 t552) := (YI BK558.out 0).trans rfl; have q56_1 : w55.cell? ⟨gb558, 1, none⟩ = some (.slice Ao54 t553.length co54) := (YI BK558.out 1).trans rfl; have f56_0 := YJ BK558.out 0; have f56_1 := YJ BK558.out 1) | ((with_reducible refine gate_dst (N := 100) rfl ?_); (try (refine gate_guard (by rfl) ?_; dsimp only)); refine Kd.N_lit k24 _ 24 ?hg (N' := 100) ?hd (xs := ([(⟨t552, t553⟩ : S24)] : List (S24))) (inner := [.int .i64 t552, .slice Ao54 t553.length co54]) (ok := (fun k_ => ((P0_1_ k_ ∨ P1_ k_ ∨ P2_ k_) ∨ w.heap.size ≤ k_) ∧ some k_ ≠ (.slice Ao19 t527.length co19 : Value).ownBlock ∧ some k_ ≠ (.slice Ao46 y546.length co46 : Value).ownBlock ∧ some k_ ≠ (.slice Ao48 t549.length co48 : Value).ownBlock ∧ k_ ≠ gb525 ∧ k_ ≠ gb532 ∧ k_ ≠ gb558)) (okp := (fun k_ => ((P0_1_ k_ ∨ P1_ k_ ∨ P2_ k_) ∨ w.heap.size ≤ k_) ∧ some k_ ≠ (.slice Ao19 t527.length co19 : Value).ownBlock ∧ some k_ ≠ (.slice Ao46 y546.length co46 : Value).ownBlock ∧ some k_ ≠ (.slice Ao48 t549.length co48 : Value).ownBlock ∧ k_ ≠ gb525 ∧ k_ ≠ gb532 ∧ k_ ≠ gb558)) ?hr ?hp (fun _ hk => hk) ((show ∀ k_, w55.heap.size ≤ k_ → (fun k_ => ((P0_1_ k_ ∨ P1_ k_ ∨ P2_ k_) ∨ w.heap.size ≤ k_) ∧ some k_ ≠ (.slice Ao19 t527.length co19 : Value).ownBlock ∧ some k_ ≠ (.slice Ao46 y546.length co46 : Value).ownBlock ∧ some k_ ≠ (.slice Ao48 t549.length co48 : Value).ownBlock ∧ k_ ≠ gb525 ∧ k_ ≠ gb532 ∧ k_ ≠ gb558) k_ from fun k_ hk => ⟨(.inr (Nat.le_trans (YE (upB HB)) hk)), Kd.fresh' (Kd.R_lt (upR HO_533001)) k_ hk, Kd.fresh' (Kd.N_lt (upN HO548)) k_ hk, Kd.fresh' (Kd.R_lt (upR HO551)) k_ hk, Kd.freshB (g := gb525) (o := .cells #[.int .i64 a0_0, .slice A0_1 l0_1.length c0_1] 24 (0, 0)) (upK BK525) k_ hk, Kd.freshB (g := gb532) (o := .cells #[.int .i64 t526, .slice Ao19 t527.length co19] 24 (0, 0)) (upK BK532) k_ hk, Kd.freshB (g := gb558) (o := .cells #[.int .i64 t552, .slice Ao54 t553.length co54] 24 (0, 0)) (upK BK558) k_ hk⟩) _ (Nat.le_refl _)) (Below.refl _ _) (Nat.le_refl _) (by simp) ?_; (case hd => rfl); (case hg => rfl); (case hr => first | (go_simp; done) | (go_simp; rfl)); (case hp => exact (Reps.c2 (show Kd.FK k24 _ _ (⟨t552, t553⟩ : S24) [.int .i64 t552, .slice Ao54 t553.length co54] from (k24_mkF _ _ (⟨t552, t553⟩ : S24) (Kd.R_reads' (Kd.R_mono (ok' := (fun k_ => ((P0_1_ k_ ∨ P1_ k_ ∨ P2_ k_) ∨ w.heap.size ≤ k_) ∧ some k_ ≠ (.slice Ao19 t527.length co19 : Value).ownBlock ∧ some k_ ≠ (.slice Ao46 y546.length co46 : Value).ownBlock ∧ some k_ ≠ (.slice Ao48 t549.length co48 : Value).ownBlock ∧ k_ ≠ gb525 ∧ k_ ≠ gb532 ∧ k_ ≠ gb558)) (Kd.R_types (Kd.R_types (Kd.R_types (Kd.R_apart' (Kd.R_apart' (HO555.out) (Kd.N_typed HO548.out) (by decide)) (Kd.R_typed HO551.out) (by decide)) BK525.out (by decide)) BK532.out (by decide)) BK558.out (by decide)) (fun k_ hk => ⟨(.inr (hk.1.1.1.1.1.1.1)), ⟨hk.1.1.1.1.1.2, ⟨hk.1.1.1.1.2, ⟨hk.1.1.1.2, ⟨hk.1.1.2, ⟨hk.1.2, hk.2⟩⟩⟩⟩⟩⟩))).2.1 (Kd.R_F (Kd.R_mono (ok' := (fun k_ => ((P0_1_ k_ ∨ P1_ k_ ∨ P2_ k_) ∨ w.heap.size ≤ k_) ∧ some k_ ≠ (.slice Ao19 t527.length co19 : Value).ownBlock ∧ some k_ ≠ (.slice Ao46 y546.length co46 : Value).ownBlock ∧ some k_ ≠ (.slice Ao48 t549.length co48 : Value).ownBlock ∧ k_ ≠ gb525 ∧ k_ ≠ gb532 ∧ k_ ≠ gb558)) (Kd.R_types (Kd.R_types (Kd.R_types (Kd.R_apart' (Kd.R_apart' (HO555.out) (Kd.N_typed HO548.out) (by decide)) (Kd.R_typed HO551.out) (by decide)) BK525.out (by decide)) BK532.out (by decide)) BK558.out (by decide)) (fun k_ hk => ⟨(.inr (hk.1.1.1.1.1.1.1)), ⟨hk.1.1.1.1.1.2, ⟨hk.1.1.1.1.2, ⟨hk.1.1.1.2, ⟨hk.1.1.2, ⟨hk.1.2, hk.2⟩⟩⟩⟩⟩⟩))))) (Reps.none _ _))); intro v561 w57 ho58 hb hg_ hnew_; clear hg_ hnew_; (first | rw [← Ny560.out] at ho58 | (simp only [Int.reduceToNat] at ho58; rw [← Ny560.out] at ho58)); have n0_ := YL (Kd.V_elder' (upV HO_1) (Kd.N_base ho58) hb); have n1_ := YL (Kd.V_elder' (upV HO_2) (Kd.N_base ho58) hb); have n2_ := YL (Kd.V_elder' (upV HO_526001) (Kd.N_base ho58) hb); have n3_ := YL (YP (upR HO_533001) hb); have n4_ := YL (Kd.N_elder' (upN HO548) (Kd.N_base ho58) hb); have n5_ := YL (YP (upR HO551) hb); have n6_ := YL (Kd.N_lower ho58 (YE (upB HB))); have n7_ := YL (YK (g := gb525) (o := .cells #[.int .i64 a0_0, .slice A0_1 l0_1.length c0_1] 24 (0, 0)) (upK BK525) hb); have n8_ := YL (YK (g := gb532) (o := .cells #[.int .i64 t526, .slice Ao19 t527.length co19] 24 (0, 0)) (upK BK532) hb); have n9_ := YL (YK (g := gb558) (o := .cells #[.int .i64 t552, .slice Ao54 t553.length co54] 24 (0, 0)) (upK BK558) hb); have n10_ := YL (YD (upB HB) hb); clear HO_1; clear HO_2; clear HO_526001; clear HO_533001; clear HO548; clear HO551; clear BK525; clear BK532; clear BK558; clear HB; clear HO555; have HO_1 := n0_; have HO_2 := n1_; have HO_526001 := n2_; have HO_533001 := n3_; have HO548 := n4_; have HO551 := n5_; have HO562 := n6_; have BK525 := n7_; have BK532 := n8_; have BK558 := n9_; have HB := n10_; clear n0_ n1_ n2_ n3_ n4_ n5_ n6_ n7_ n8_ n9_ n10_; clear hb ho58; have q59_0 : w57.cell? ⟨gb525, 0, none⟩ = some (.int .i64 a0_0) := (YI BK525.out 0).trans rfl; have q59_1 : w57.cell? ⟨gb525, 1, none⟩ = some (.slice A0_1 l0_1.length c0_1) := (YI BK525.out 1).trans rfl; have f59_0 := YJ BK525.out 0; have f59_1 := YJ BK525.out 1) | ((with_reducible refine gate_dst (N := 102) rfl ?_); (try (refine gate_guard (by rfl) ?_; dsimp only)); refine Kd.N_lit k24 _ 24 ?hg (N' := 102) ?hd (xs := ([(⟨a0_0, l0_1⟩ : S24)] : List (S24))) (inner := [.int .i64 a0_0, .slice A0_1 l0_1.length c0_1]) (ok := (fun k_ => ((P0_1_ k_ ∨ P1_ k_ ∨ P2_ k_) ∨ w.heap.size ≤ k_) ∧ some k_ ≠ (.slice Ao19 t527.length co19 : Value).ownBlock ∧ some k_ ≠ (.slice Ao46 y546.length co46 : Value).ownBlock ∧ some k_ ≠ (.slice Ao48 t549.length co48 : Value).ownBlock ∧ some k_ ≠ (v561 : Value).ownBlock ∧ k_ ≠ gb525 ∧ k_ ≠ gb532 ∧ k_ ≠ gb558)) (okp := (fun k_ => ((P0_1_ k_ ∨ P1_ k_ ∨ P2_ k_) ∨ w.heap.size ≤ k_) ∧ some k_ ≠ (.slice Ao19 t527.length co19 : Value).ownBlock ∧ some k_ ≠ (.slice Ao46 y546.length co46 : Value).ownBlock ∧ some k_ ≠ (.slice Ao48 t549.length co48 : Value).ownBlock ∧ some k_ ≠ (v561 : Value).ownBlock ∧ k_ ≠ gb525 ∧ k_ ≠ gb532 ∧ k_ ≠ gb558)) ?hr ?hp (fun _ hk => hk) ((show ∀ k_, w57.heap.size ≤ k_ → (fun k_ => ((P0_1_ k_ ∨ P1_ k_ ∨ P2_ k_) ∨ w.heap.size ≤ k_) ∧ some k_ ≠ (.slice Ao19 t527.length co19 : Value).ownBlock ∧ some k_ ≠ (.slice Ao46 y546.length co46 : Value).ownBlock ∧ some k_ ≠ (.slice Ao48 t549.length co48 : Value).ownBlock ∧ some k_ ≠ (v561 : Value).ownBlock ∧ k_ ≠ gb525 ∧ k_ ≠ gb532 ∧ k_ ≠ gb558) k_ from fun k_ hk => ⟨(.inr (Nat.le_trans (YE (upB HB)) hk)), Kd.fresh' (Kd.R_lt (upR HO_533001)) k_ hk, Kd.fresh' (Kd.N_lt (upN HO548)) k_ hk, Kd.fresh' (Kd.R_lt (upR HO551)) k_ hk, Kd.fresh' (Kd.N_lt (upN HO562)) k_ hk, Kd.freshB (g := gb525) (o := .cells #[.int .i64 a0_0, .slice A0_1 l0_1.length c0_1] 24 (0, 0)) (upK BK525) k_ hk, Kd.freshB (g := gb532) (o := .cells #[.int .i64 t526, .slice Ao19 t527.length co19] 24 (0, 0)) (upK BK532) k_ hk, Kd.freshB (g := gb558) (o := .cells #[.int .i64 t552, .slice Ao54 t553.length co54] 24 (0, 0)) (upK BK558) k_ hk⟩) _ (Nat.le_refl _)) (Below.refl _ _) (Nat.le_refl _) (by simp) ?_; (case hd => rfl); (case hg => rfl); (case hr => first | (go_simp; done) | (go_simp; rfl)); (case hp => exact (Reps.c2 (show Kd.FK k24 _ _ (⟨a0_0, l0_1⟩ : S24) [.int .i64 a0_0, .slice A0_1 l0_1.length c0_1] from (k24_mkF _ _ (⟨a0_0, l0_1⟩ : S24) (Kd.V_reads' (Kd.V_mono (ok' := (fun k_ => ((P0_1_ k_ ∨ P1_ k_ ∨ P2_ k_) ∨ w.heap.size ≤ k_) ∧ some k_ ≠ (.slice Ao19 t527.length co19 : Value).ownBlock ∧ some k_ ≠ (.slice Ao46 y546.length co46 : Value).ownBlock ∧ some k_ ≠ (.slice Ao48 t549.length co48 : Value).ownBlock ∧ some k_ ≠ (v561 : Value).ownBlock ∧ k_ ≠ gb525 ∧ k_ ≠ gb532 ∧ k_ ≠ gb558)) (HO_526001.out) (fun k_ hk => ⟨hk.1.1.1.1.1.1.1, ⟨hk.1.1.1.1.1.1.2.1, ⟨hk.1.1.1.1.2, ⟨hk.1.1.1.2, ⟨hk.2, ⟨hk.1.1.1.1.1.1.2.2.1, ⟨hk.1.1.1.1.1.1.2.2.2, hk.1.2⟩⟩⟩⟩⟩⟩⟩))).2.1 (Kd.V_F (Kd.V_mono (ok' := (fun k_ => ((P0_1_ k_ ∨ P1_ k_ ∨ P2_ k_) ∨ w.heap.size ≤ k_) ∧ some k_ ≠ (.slice Ao19 t527.length co19 : Value).ownBlock ∧ some k_ ≠ (.slice Ao46 y546.length co46 : Value).ownBlock ∧ some k_ ≠ (.slice Ao48 t549.length co48 : Value).ownBlock ∧ some k_ ≠ (v561 : Value).ownBlock ∧ k_ ≠ gb525 ∧ k_ ≠ gb532 ∧ k_ ≠ gb558)) (upV HO_526001) (fun k_ hk => by exact ⟨hk.1.1.1.1.1.1.1, ⟨hk.1.1.1.1.1.1.2.1, ⟨hk.1.1.1.1.2, ⟨hk.1.1.1.2, ⟨hk.2, ⟨hk.1.1.1.1.1.1.2.2.1, ⟨hk.1.1.1.1.1.1.2.2.2, hk.1.2⟩⟩⟩⟩⟩⟩⟩))))) (Reps.none _ _))); intro v564 w60 ho61 hb hg_ hnew_; clear hg_ hnew_; (first | rw [← Ny563.out] at ho61 | (simp only [Int.reduceToNat] at ho61; rw [← Ny563.out] at ho61)); have n0_ := YL (Kd.V_elder' (upV HO_1) (Kd.N_base ho61) hb); have n1_ := YL (Kd.V_elder' (upV HO_2) (Kd.N_base ho61) hb); have n2_ := YL (Kd.V_elder' (upV HO_526001) (Kd.N_base ho61) hb); have n3_ := YL (YP (upR HO_533001) hb); have n4_ := YL (Kd.N_elder' (upN HO548) (Kd.N_base ho61) hb); have n5_ := YL (YP (upR HO551) hb); have n6_ := YL (Kd.N_elder' (upN HO562) (Kd.N_base ho61) hb); have n7_ := YL (Kd.N_lower ho61 (YE (upB HB))); have n8_ := YL (YK (g := gb525) (o := .cells #[.int .i64 a0_0, .slice A0_1 l0_1.length c0_1] 24 (0, 0)) (upK BK525) hb); have n9_ := YL (YK (g := gb532) (o := .cells #[.int .i64 t526, .slice Ao19 t527.length co19] 24 (0, 0)) (upK BK532) hb); have n10_ := YL (YK (g := gb558) (o := .cells #[.int .i64 t552, .slice Ao54 t553.length co54] 24 (0, 0)) (upK BK558) hb); have n11_ := YL (YD (upB HB) hb); clear HO_1; clear HO_2; clear HO_526001; clear HO_533001; clear HO548; clear HO551; clear HO562; clear BK525; clear BK532; clear BK558; clear HB; have HO_1 := n0_; have HO_2 := n1_; have HO_526001 := n2_; have HO_533001 := n3_; have HO548 := n4_; have HO551 := n5_; have HO562 := n6_; have HO565 := n7_; have BK525 := n8_; have BK532 := n9_; have BK558 := n10_; have HB := n11_; clear n0_ n1_ n2_ n3_ n4_ n5_ n6_ n7_ n8_ n9_ n10_ n11_; clear hb ho61; obtain ⟨Ao62, co62, eo62⟩ := Kd.N_slice HO562.out; subst eo62; obtain ⟨Ao63, co63, eo63⟩ := Kd.N_slice HO565.out; subst eo63) | (go_at_call 17; (with_reducible refine (thalwegref05_Same.calls kj13 _ _ y560 _ _ y563 true _ ?side1 ?side2 ?side3 ?side4 A38.out).mono ?_); (case side1 => repeat (first | exact (Kd.N_reads' HO562.out).2.2 | (with_reducible refine Kd.C_alloc ?_ _) | (with_reducible refine Kd.C_drewN ?_ _) | (with_reducible refine Kd.C_drew ?_))); (case side2 => exact (Kd.N_reads' HO562.out).2.1); (case side3 => repeat (first | exact (Kd.N_reads' HO565.out).2.2 | (with_reducible refine Kd.C_alloc ?_ _) | (with_reducible refine Kd.C_drewN ?_ _) | (with_reducible refine Kd.C_drew ?_))); (case side4 => exact (Kd.N_reads' HO565.out).2.1); rintro e w' ⟨rfl, ⟨nd, rfl⟩⟩; (try first | exact ⟨rfl, _, World.drewN_drewN _ _ _⟩ | exact ⟨rfl, _, Eq.trans (World.drewN_drewN _ _ _) (congrArg (World.drewN _) (Nat.add_assoc _ _ _))⟩))))
        go_ret
        exact ⟨by first | rfl | (simp [errW_none, errW_some] <;> rfl) | (simp [*, errW_none, errW_some] <;> rfl), by repeat (first | (with_reducible first | exact HB.out | apply YA | apply YB | apply YC | refine below_set ?_ GE525.out | refine below_set ?_ GE532.out | refine below_set ?_ GE558.out) | exact HB.out)⟩
       replace c39 := Bool.eq_false_iff.mpr c39
       subst c39
       have H1 : (none) = some r := by rw [if_neg (show ¬ (false = true) by decide)] at H; exact H
       clear H
       have H := H1
       clear H1
       exact absurd H (by simp)
      replace c36 := Bool.eq_false_iff.mpr c36
      subst c36
      have H1 : (none) = some r := by rw [if_neg (show ¬ (false = true) by decide)] at H; exact H
      clear H
      have H := H1
      clear H1
      exact absurd H (by simp)
     rw [if_neg c34] at H
     have c34b0 : (t545 == 0) = false := beq_eq_false_iff_ne.mpr c34
     have c34b1 : (t545 != 0) = true := bne_iff_ne.mpr c34
     replace H := Option.bind_eq_some_iff.mp H; obtain ⟨t567, A640, H⟩ := H
     replace H : (if t567 = true then (some ((t542.length : Int) == 0)) else (none)) = some r := H
     have A64 := YL A640; clear A640
     by_cases c65 : t567 = true
     ·subst c65
      have H1 : (some ((t542.length : Int) == 0)) = some r := by rw [if_pos rfl] at H; exact H
      clear H
      have H := H1
      clear H1
      obtain rfl := Option.some.inj H
      have hnb66 := NB525_532.out
      have hnc66 := NB532_525.out
      have q67_0 : wc.cell? ⟨gb525, 0, none⟩ = some (.int .i64 a0_0) := (YI BK525.out 0).trans rfl
      have q67_1 : wc.cell? ⟨gb525, 1, none⟩ = some (.slice A0_1 l0_1.length c0_1) := (YI BK525.out 1).trans rfl
      have f67_0 := YJ BK525.out 0
      have f67_1 := YJ BK525.out 1
      go_wp2_with (first | (go_at_call 9; (with_reducible refine (batch_Bytes.calls kj13 a0_0 _ _ l0_1 t542 t545 _ ?side1 ?side2 A31.out).mono ?_); (case side1 => repeat (first | exact (Kd.V_reads' HO_526001.out).2.2 | (with_reducible refine Kd.C_alloc ?_ _) | (with_reducible refine Kd.C_drewN ?_ _) | (with_reducible refine Kd.C_drew ?_))); (case side2 => exact (Kd.V_reads' HO_526001.out).2.1); rintro e w68 ⟨v543, rfl, ho0, hb⟩; have n0_ := YL (Kd.V_elder' (upV HO_1) (Kd.R_base ho0) hb); have n1_ := YL (Kd.V_elder' (upV HO_2) (Kd.R_base ho0) hb); have n2_ := YL (Kd.V_elder' (upV HO_526001) (Kd.R_base ho0) hb); have n3_ := YL (YP (upR HO_533001) hb); have n4_ := YL (Kd.R_lower (Kd.R_newM (M := fun k_ => (w.heap.size ≤ k_)) ho0 (YE (upB HB)) (fun k_ h_ => h_)) (YE (upB HB))); have n5_ := YL (YK (g := gb525) (o := .cells #[.int .i64 a0_0, .slice A0_1 l0_1.length c0_1] 24 (0, 0)) (upK BK525) hb); have n6_ := YL (YK (g := gb532) (o := .cells #[.int .i64 t526, .slice Ao19 t527.length co19] 24 (0, 0)) (upK BK532) hb); have n7_ := YL (YD (upB HB) hb); clear HO_1; clear HO_2; clear HO_526001; clear HO_533001; clear BK525; clear BK532; clear HB; have HO_1 := n0_; have HO_2 := n1_; have HO_526001 := n2_; have HO_533001 := n3_; have HO544 := n4_; have BK525 := n5_; have BK532 := n6_; have HB := n7_; clear n0_ n1_ n2_ n3_ n4_ n5_ n6_ n7_; (try clear hb); (try clear hb2); (try clear hk); (try clear hi); (try clear ho0); obtain ⟨Ao69, co69, eo69⟩ := Kd.R_slice HO544.out; subst eo69) | ((with_reducible refine gate_dst (N := 77) rfl ?_); (try (refine gate_guard (by rfl) ?_; dsimp only)); refine Kd.N_lit (Kd.slice 5 (Kd.int .u8)) _ 26 ?hg (N' := 77) ?hd (xs := ([l1, t542, l2] : List (List Int))) (inner := [.slice A1 l1.length c1, .slice Ao69 t542.length co69, .slice A2 l2.length c2]) (ok := (fun k_ => ((P0_1_ k_ ∨ P1_ k_ ∨ P2_ k_) ∨ w.heap.size ≤ k_) ∧ some k_ ≠ (.slice Ao19 t527.length co19 : Value).ownBlock ∧ k_ ≠ gb525 ∧ k_ ≠ gb532)) (okp := (fun k_ => ((P0_1_ k_ ∨ P1_ k_ ∨ P2_ k_) ∨ w.heap.size ≤ k_) ∧ some k_ ≠ (.slice Ao19 t527.length co19 : Value).ownBlock ∧ k_ ≠ gb525 ∧ k_ ≠ gb532)) ?hr ?hp (fun _ hk => hk) ((show ∀ k_, w68.heap.size ≤ k_ → (fun k_ => ((P0_1_ k_ ∨ P1_ k_ ∨ P2_ k_) ∨ w.heap.size ≤ k_) ∧ some k_ ≠ (.slice Ao19 t527.length co19 : Value).ownBlock ∧ k_ ≠ gb525 ∧ k_ ≠ gb532) k_ from fun k_ hk => ⟨(.inr (Nat.le_trans (YE (upB HB)) hk)), Kd.fresh' (Kd.R_lt (upR HO_533001)) k_ hk, Kd.freshB (g := gb525) (o := .cells #[.int .i64 a0_0, .slice A0_1 l0_1.length c0_1] 24 (0, 0)) (upK BK525) k_ hk, Kd.freshB (g := gb532) (o := .cells #[.int .i64 t526, .slice Ao19 t527.length co19] 24 (0, 0)) (upK BK532) k_ hk⟩) _ (Nat.le_refl _)) (Below.refl _ _) (Nat.le_refl _) (by simp) ?_; (case hd => rfl); (case hg => rfl); (case hr => first | (go_simp; done) | (go_simp; rfl)); (case hp => exact (Reps.one (show Kd.FK (Kd.slice 5 (Kd.int .u8)) _ _ l1 [.slice A1 l1.length c1] from (Kd.FK_slice_mk (Kd.V_reads' (Kd.V_mono (ok' := (fun k_ => ((P0_1_ k_ ∨ P1_ k_ ∨ P2_ k_) ∨ w.heap.size ≤ k_) ∧ some k_ ≠ (.slice Ao19 t527.length co19 : Value).ownBlock ∧ k_ ≠ gb525 ∧ k_ ≠ gb532)) (HO_1.out) (fun k_ hk => ⟨hk.1.1, ⟨hk.1.2.1, ⟨hk.1.2.2.1, hk.1.2.2.2⟩⟩⟩))).2.1 (Kd.V_F (Kd.V_mono (ok' := (fun k_ => ((P0_1_ k_ ∨ P1_ k_ ∨ P2_ k_) ∨ w.heap.size ≤ k_) ∧ some k_ ≠ (.slice Ao19 t527.length co19 : Value).ownBlock ∧ k_ ≠ gb525 ∧ k_ ≠ gb532)) (upV HO_1) (fun k_ hk => by exact ⟨hk.1.1, ⟨hk.1.2.1, ⟨hk.1.2.2.1, hk.1.2.2.2⟩⟩⟩))))) (Reps.one (show Kd.FK (Kd.slice 5 (Kd.int .u8)) _ _ t542 [.slice Ao69 t542.length co69] from (Kd.FK_slice_mk (Kd.R_reads' (Kd.R_mono (ok' := (fun k_ => ((P0_1_ k_ ∨ P1_ k_ ∨ P2_ k_) ∨ w.heap.size ≤ k_) ∧ some k_ ≠ (.slice Ao19 t527.length co19 : Value).ownBlock ∧ k_ ≠ gb525 ∧ k_ ≠ gb532)) (Kd.R_types (Kd.R_types (Kd.R_apart' (HO544.out) (Kd.R_typed HO_533001.out) (by decide)) BK525.out (by decide)) BK532.out (by decide)) (fun k_ hk => ⟨(.inr (hk.1.1.1.1)), ⟨hk.1.1.2, ⟨hk.1.2, hk.2⟩⟩⟩))).2.1 (Kd.R_F (Kd.R_mono (ok' := (fun k_ => ((P0_1_ k_ ∨ P1_ k_ ∨ P2_ k_) ∨ w.heap.size ≤ k_) ∧ some k_ ≠ (.slice Ao19 t527.length co19 : Value).ownBlock ∧ k_ ≠ gb525 ∧ k_ ≠ gb532)) (Kd.R_types (Kd.R_types (Kd.R_apart' (HO544.out) (Kd.R_typed HO_533001.out) (by decide)) BK525.out (by decide)) BK532.out (by decide)) (fun k_ hk => ⟨(.inr (hk.1.1.1.1)), ⟨hk.1.1.2, ⟨hk.1.2, hk.2⟩⟩⟩))))) (Reps.one (show Kd.FK (Kd.slice 5 (Kd.int .u8)) _ _ l2 [.slice A2 l2.length c2] from (Kd.FK_slice_mk (Kd.V_reads' (Kd.V_mono (ok' := (fun k_ => ((P0_1_ k_ ∨ P1_ k_ ∨ P2_ k_) ∨ w.heap.size ≤ k_) ∧ some k_ ≠ (.slice Ao19 t527.length co19 : Value).ownBlock ∧ k_ ≠ gb525 ∧ k_ ≠ gb532)) (upR HO_2) (fun k_ hk => by exact ⟨hk.1.1, ⟨hk.1.2.1, ⟨hk.1.2.2.1, hk.1.2.2.2⟩⟩⟩))).2.1 (Kd.V_F (Kd.V_mono (ok' := (fun k_ => ((P0_1_ k_ ∨ P1_ k_ ∨ P2_ k_) ∨ w.heap.size ≤ k_) ∧ some k_ ≠ (.slice Ao19 t527.length co19 : Value).ownBlock ∧ k_ ≠ gb525 ∧ k_ ≠ gb532)) (upV HO_2) (fun k_ hk => by exact ⟨hk.1.1, ⟨hk.1.2.1, ⟨hk.1.2.2.1, hk.1.2.2.2⟩⟩⟩))))) (Reps.none _ _))))); intro v547 w70 ho71 hb hg_ hnew_; clear hg_ hnew_; (first | rw [← Ny546.out] at ho71 | (simp only [Int.reduceToNat] at ho71; rw [← Ny546.out] at ho71)); have n0_ := YL (Kd.V_elder' (upV HO_1) (Kd.N_base ho71) hb); have n1_ := YL (Kd.V_elder' (upV HO_2) (Kd.N_base ho71) hb); have n2_ := YL (Kd.V_elder' (upV HO_526001) (Kd.N_base ho71) hb); have n3_ := YL (YP (upR HO_533001) hb); have n4_ := YL (Kd.N_lower ho71 (YE (upB HB))); have n5_ := YL (YK (g := gb525) (o := .cells #[.int .i64 a0_0, .slice A0_1 l0_1.length c0_1] 24 (0, 0)) (upK BK525) hb); have n6_ := YL (YK (g := gb532) (o := .cells #[.int .i64 t526, .slice Ao19 t527.length co19] 24 (0, 0)) (upK BK532) hb); have n7_ := YL (YD (upB HB) hb); clear HO_1; clear HO_2; clear HO_526001; clear HO_533001; clear BK525; clear BK532; clear HB; clear HO544; have HO_1 := n0_; have HO_2 := n1_; have HO_526001 := n2_; have HO_533001 := n3_; have HO548 := n4_; have BK525 := n5_; have BK532 := n6_; have HB := n7_; clear n0_ n1_ n2_ n3_ n4_ n5_ n6_ n7_; clear hb ho71; obtain ⟨Ao72, co72, eo72⟩ := Kd.N_slice HO548.out; subst eo72) | (go_at_call 22; (with_reducible refine (thalwegref01_Both.calls kj13 _ _ y546 t549 _ ?side1 ?side2 A32.out).mono ?_); (case side1 => repeat (first | exact (Kd.N_reads' HO548.out).2.2 | (with_reducible refine Kd.C_alloc ?_ _) | (with_reducible refine Kd.C_drewN ?_ _) | (with_reducible refine Kd.C_drew ?_))); (case side2 => exact (Kd.N_reads' HO548.out).2.1); rintro e w73 ⟨v550, rfl, ho0, hb⟩; have n0_ := YL (Kd.V_elder' (upV HO_1) (Kd.R_base ho0) hb); have n1_ := YL (Kd.V_elder' (upV HO_2) (Kd.R_base ho0) hb); have n2_ := YL (Kd.V_elder' (upV HO_526001) (Kd.R_base ho0) hb); have n3_ := YL (YP (upR HO_533001) hb); have n4_ := YL (Kd.N_elder' (upN HO548) (Kd.R_base ho0) hb); have n5_ := YL (Kd.R_lower (Kd.R_newM (M := fun k_ => (w.heap.size ≤ k_)) ho0 (YE (upB HB)) (fun k_ h_ => h_)) (YE (upB HB))); have n6_ := YL (YK (g := gb525) (o := .cells #[.int .i64 a0_0, .slice A0_1 l0_1.length c0_1] 24 (0, 0)) (upK BK525) hb); have n7_ := YL (YK (g := gb532) (o := .cells #[.int .i64 t526, .slice Ao19 t527.length co19] 24 (0, 0)) (upK BK532) hb); have n8_ := YL (YD (upB HB) hb); clear HO_1; clear HO_2; clear HO_526001; clear HO_533001; clear HO548; clear BK525; clear BK532; clear HB; have HO_1 := n0_; have HO_2 := n1_; have HO_526001 := n2_; have HO_533001 := n3_; have HO548 := n4_; have HO551 := n5_; have BK525 := n6_; have BK532 := n7_; have HB := n8_; clear n0_ n1_ n2_ n3_ n4_ n5_ n6_ n7_ n8_; (try clear hb); (try clear hb2); (try clear hk); (try clear hi); (try clear ho0); obtain ⟨Ao74, co74, eo74⟩ := Kd.R_slice HO551.out; subst eo74) | (go_at_call 21; (with_reducible refine (batch_Parse.calls kj13 _ _ t549 (l1.length : Int) t552 t553 t556 t557 _ ?side1 ?side2 A33.out).mono ?_); (case side1 => repeat (first | exact (Kd.R_reads' HO551.out).2.2 | (with_reducible refine Kd.C_alloc ?_ _) | (with_reducible refine Kd.C_drewN ?_ _) | (with_reducible refine Kd.C_drew ?_))); (case side2 => exact (Kd.R_reads' HO551.out).2.1); rintro e w75 ⟨v554, rfl, ho0, hb⟩; have n0_ := YL (Kd.V_elder' (upV HO_1) (Kd.R_base ho0) hb); have n1_ := YL (Kd.V_elder' (upV HO_2) (Kd.R_base ho0) hb); have n2_ := YL (Kd.V_elder' (upV HO_526001) (Kd.R_base ho0) hb); have n3_ := YL (Kd.R_elder' (upR HO_533001) (Kd.R_base ho0) hb); have n4_ := YL (Kd.N_elder' (upN HO548) (Kd.R_base ho0) hb); have n5_ := YL (YP (upR HO551) hb); have n6_ := YL (Kd.R_lower (Kd.R_new' (Kd.R_newM (M := fun k_ => (w.heap.size ≤ k_)) ho0 (YE (upB HB)) (fun k_ h_ => h_)) (Kd.R_lt (upR HO_533001))) (YE (upB HB))); have n7_ := YL (YK (g := gb525) (o := .cells #[.int .i64 a0_0, .slice A0_1 l0_1.length c0_1] 24 (0, 0)) (upK BK525) hb); have n8_ := YL (YK (g := gb532) (o := .cells #[.int .i64 t526, .slice Ao19 t527.length co19] 24 (0, 0)) (upK BK532) hb); have n9_ := YL (YD (upB HB) hb); clear HO_1; clear HO_2; clear HO_526001; clear HO_533001; clear HO548; clear HO551; clear BK525; clear BK532; clear HB; have HO_1 := n0_; have HO_2 := n1_; have HO_526001 := n2_; have HO_533001 := n3_; have HO548 := n4_; have HO551 := n5_; have HO555 := n6_; have BK525 := n7_; have BK532 := n8_; have HB := n9_; clear n0_ n1_ n2_ n3_ n4_ n5_ n6_ n7_ n8_ n9_; (try clear hb); (try clear hb2); (try clear hk); (try clear hi); (try clear ho0)) | ((with_reducible refine gate_dst (N := 14) rfl ?_); (try (refine gate_guard (by rfl) ?_; dsimp only)); refine box_event ?hg (N := 14) ?hd (cs := #[.int .i64 0, .slice none 0 0]) (t := 24) ?hr ?_; (case hd => rfl); (case hg => rfl); (case hr => first | (go_simp; done) | (go_simp; rfl)); intro gb558 hg w76 hbox hb; have n0_ := YL (Kd.V_below (Kd.V_elderB (upV HO_1) gb558 (Nat.le_of_eq hg.symm)) hb); have n1_ := YL (Kd.V_below (Kd.V_elderB (upV HO_2) gb558 (Nat.le_of_eq hg.symm)) hb); have n2_ := YL (Kd.V_below (Kd.V_elderB (upV HO_526001) gb558 (Nat.le_of_eq hg.symm)) hb); have n3_ := YL (YP (upR HO_533001) hb); have n4_ := YL (Kd.N_below (Kd.N_elderB (upN HO548) gb558 (Nat.le_of_eq hg.symm)) hb); have n5_ := YL (YP (upR HO551) hb); have n6_ := YL (YP (upR HO555) hb); have n7_ := YL (YK (g := gb525) (o := .cells #[.int .i64 a0_0, .slice A0_1 l0_1.length c0_1] 24 (0, 0)) (upK BK525) hb); have n8_ := YL (YK (g := gb532) (o := .cells #[.int .i64 t526, .slice Ao19 t527.length co19] 24 (0, 0)) (upK BK532) hb); have n9_ := YL (YD (upB HB) hb); have n10_ := YL (hbox); have n11_ := YL ((by rw [hg]; exact (YE (upB HB)) : w.heap.size ≤ gb558)); have n12_ := YL ((by rw [hg]; exact (YE (upB HB)) : w.heap.size ≤ gb558)); have n13_ := YL ((by rw [hg]; exact Nat.ne_of_lt (blk_lt (g := gb525) (o := .cells #[.int .i64 a0_0, .slice A0_1 l0_1.length c0_1] 24 (0, 0)) (upK BK525)) : gb525 ≠ gb558)); have n14_ := YL ((by rw [hg]; exact Nat.ne_of_gt (blk_lt (g := gb525) (o := .cells #[.int .i64 a0_0, .slice A0_1 l0_1.length c0_1] 24 (0, 0)) (upK BK525)) : gb558 ≠ gb525)); have n15_ := YL ((by rw [hg]; exact Nat.ne_of_lt (blk_lt (g := gb532) (o := .cells #[.int .i64 t526, .slice Ao19 t527.length co19] 24 (0, 0)) (upK BK532)) : gb532 ≠ gb558)); have n16_ := YL ((by rw [hg]; exact Nat.ne_of_gt (blk_lt (g := gb532) (o := .cells #[.int .i64 t526, .slice Ao19 t527.length co19] 24 (0, 0)) (upK BK532)) : gb558 ≠ gb532)); clear HO_1; clear HO_2; clear HO_526001; clear HO_533001; clear HO548; clear HO551; clear HO555; clear BK525; clear BK532; clear HB; have HO_1 := n0_; have HO_2 := n1_; have HO_526001 := n2_; have HO_533001 := n3_; have HO548 := n4_; have HO551 := n5_; have HO555 := n6_; have BK525 := n7_; have BK532 := n8_; have HB := n9_; have BK558 := n10_; have GW558 := n11_; have GE558 := n12_; have NB525_558 := n13_; have NB558_525 := n14_; have NB532_558 := n15_; have NB558_532 := n16_; clear n0_ n1_ n2_ n3_ n4_ n5_ n6_ n7_ n8_ n9_ n10_ n11_ n12_ n13_ n14_ n15_ n16_; clear hb hbox hg; have hnb77 := NB558_525.out; have hnc77 := NB525_558.out; have hnb78 := NB558_532.out; have hnc78 := NB532_558.out; have q79_0 : w76.cell? ⟨gb558, 0, none⟩ = some (.int .i64 0) := (YI BK558.out 0).trans rfl; have q79_1 : w76.cell? ⟨gb558, 1, none⟩ = some (.slice none 0 0) := (YI BK558.out 1).trans rfl; have f79_0 := YJ BK558.out 0; have f79_1 := YJ BK558.out 1; obtain ⟨Ao80, co80, eo80⟩ := Kd.R_slice HO555.out; subst eo80) | (go_at_call 11; (with_reducible refine (thalweglaw05_awake.calls kj13  true _ A64.out).mono ?_); rintro e w81 ⟨rfl, hb⟩; have n0_ := YL (Kd.V_below (by (with_reducible repeat (first | apply Kd.V_alloc | apply Kd.V_drewN | apply Kd.V_drew)); exact (Kd.V_mono (Kd.V_far (p := ⟨gb558, 1, none⟩) (Kd.V_far (p := ⟨gb558, 0, none⟩) (Kd.V_mono HO_1.out (fun k_ hk => (⟨hk, hk.2⟩ : _ ∧ k_ ≠ gb558))) (fun _ hk => hk.2) (.int .i64 t552)) (fun _ hk => hk.2) (.slice Ao80 t553.length co80)) (fun _ h_ => h_.1))) hb); have n1_ := YL (Kd.V_below (by (with_reducible repeat (first | apply Kd.V_alloc | apply Kd.V_drewN | apply Kd.V_drew)); exact (Kd.V_mono (Kd.V_far (p := ⟨gb558, 1, none⟩) (Kd.V_far (p := ⟨gb558, 0, none⟩) (Kd.V_mono HO_2.out (fun k_ hk => (⟨hk, hk.2⟩ : _ ∧ k_ ≠ gb558))) (fun _ hk => hk.2) (.int .i64 t552)) (fun _ hk => hk.2) (.slice Ao80 t553.length co80)) (fun _ h_ => h_.1))) hb); have n2_ := YL (Kd.V_below (by (with_reducible repeat (first | apply Kd.V_alloc | apply Kd.V_drewN | apply Kd.V_drew)); exact (Kd.V_mono (Kd.V_far (p := ⟨gb558, 1, none⟩) (Kd.V_far (p := ⟨gb558, 0, none⟩) (Kd.V_mono HO_526001.out (fun k_ hk => (⟨hk, hk.2⟩ : _ ∧ k_ ≠ gb558))) (fun _ hk => hk.2) (.int .i64 t552)) (fun _ hk => hk.2) (.slice Ao80 t553.length co80)) (fun _ h_ => h_.1))) hb); have n3_ := YL (YP (by (with_reducible repeat (first | apply YM | apply YN | apply YO)); exact (Kd.R_mono (Kd.R_far (p := ⟨gb558, 1, none⟩) (Kd.R_far (p := ⟨gb558, 0, none⟩) (Kd.R_types HO_533001.out BK558.out (by decide)) (fun _ hk => hk.2) (.int .i64 t552)) (fun _ hk => hk.2) (.slice Ao80 t553.length co80)) (fun _ h_ => h_.1))) hb); have n4_ := YL (Kd.N_below (by (with_reducible repeat (first | apply Kd.N_alloc | apply Kd.N_drewN | apply Kd.N_drew)); exact (Kd.N_mono (Kd.N_far (p := ⟨gb558, 1, none⟩) (Kd.N_far (p := ⟨gb558, 0, none⟩) (Kd.N_mono HO548.out (fun k_ hk => (⟨hk, hk.2⟩ : _ ∧ k_ ≠ gb558))) (fun _ hk => hk.2) (.int .i64 t552)) (fun _ hk => hk.2) (.slice Ao80 t553.length co80)) (fun _ h_ => h_.1))) hb); have n5_ := YL (YP (by (with_reducible repeat (first | apply YM | apply YN | apply YO)); exact (Kd.R_mono (Kd.R_far (p := ⟨gb558, 1, none⟩) (Kd.R_far (p := ⟨gb558, 0, none⟩) (Kd.R_types HO551.out BK558.out (by decide)) (fun _ hk => hk.2) (.int .i64 t552)) (fun _ hk => hk.2) (.slice Ao80 t553.length co80)) (fun _ h_ => h_.1))) hb); have n6_ := YL (YP (by (with_reducible repeat (first | apply YM | apply YN | apply YO)); exact (Kd.R_mono (Kd.R_far (p := ⟨gb558, 1, none⟩) (Kd.R_far (p := ⟨gb558, 0, none⟩) (Kd.R_types HO555.out BK558.out (by decide)) (fun _ hk => hk.2) (.int .i64 t552)) (fun _ hk => hk.2) (.slice Ao80 t553.length co80)) (fun _ h_ => h_.1))) hb); have n7_ := YL (YK (g := gb525) (o := .cells #[.int .i64 a0_0, .slice A0_1 l0_1.length c0_1] 24 (0, 0)) (by (with_reducible repeat (first | refine YF ?_ _ | refine YG ?_ | refine YH ?_ _)); refine blk_far ?_ NB525_558.out _; (with_reducible repeat (first | refine YF ?_ _ | refine YG ?_ | refine YH ?_ _)); refine blk_far ?_ NB525_558.out _; (with_reducible repeat (first | refine YF ?_ _ | refine YG ?_ | refine YH ?_ _)); exact BK525.out) hb); have n8_ := YL (YK (g := gb532) (o := .cells #[.int .i64 t526, .slice Ao19 t527.length co19] 24 (0, 0)) (by (with_reducible repeat (first | refine YF ?_ _ | refine YG ?_ | refine YH ?_ _)); refine blk_far ?_ NB532_558.out _; (with_reducible repeat (first | refine YF ?_ _ | refine YG ?_ | refine YH ?_ _)); refine blk_far ?_ NB532_558.out _; (with_reducible repeat (first | refine YF ?_ _ | refine YG ?_ | refine YH ?_ _)); exact BK532.out) hb); have n9_ := YL (YK (g := gb558) (o := .cells #[.int .i64 t552, .slice Ao80 t553.length co80] 24 (0, 0)) (by (with_reducible repeat (first | refine YF ?_ _ | refine YG ?_ | refine YH ?_ _)); refine blk_put (cs := #[.int .i64 t552, .slice none 0 0]) ?_ 1 _ rfl; (with_reducible repeat (first | refine YF ?_ _ | refine YG ?_ | refine YH ?_ _)); refine blk_put (cs := #[.int .i64 0, .slice none 0 0]) ?_ 0 _ rfl; (with_reducible repeat (first | refine YF ?_ _ | refine YG ?_ | refine YH ?_ _)); exact BK558.out) hb); have n10_ := YL (YD (upB HB) hb); clear HO_1; clear HO_2; clear HO_526001; clear HO_533001; clear HO548; clear HO551; clear HO555; clear BK525; clear BK532; clear BK558; clear HB; have HO_1 := n0_; have HO_2 := n1_; have HO_526001 := n2_; have HO_533001 := n3_; have HO548 := n4_; have HO551 := n5_; have HO555 := n6_; have BK525 := n7_; have BK532 := n8_; have BK558 := n9_; have HB := n10_; clear n0_ n1_ n2_ n3_ n4_ n5_ n6_ n7_ n8_ n9_ n10_; (try clear hb); (try clear hb2); (try clear hk); (try clear hi)))
      repeat (go_quiet (first | (go_at_call 9; (with_reducible refine (batch_Bytes.calls kj13 a0_0 _ _ l0_1 t542 t545 _ ?side1 ?side2 A31.out).mono ?_); (case side1 => repeat (first | exact (Kd.V_reads' HO_526001.out).2.2 | (with_reducible refine Kd.C_alloc ?_ _) | (with_reducible refine Kd.C_drewN ?_ _) | (with_reducible refine Kd.C_drew ?_))); (case side2 => exact (Kd.V_reads' HO_526001.out).2.1); rintro e w68 ⟨v543, rfl, ho0, hb⟩; have n0_ := YL (Kd.V_elder' (upV HO_1) (Kd.R_base ho0) hb); have n1_ := YL (Kd.V_elder' (upV HO_2) (Kd.R_base ho0) hb); have n2_ := YL (Kd.V_elder' (upV HO_526001) (Kd.R_base ho0) hb); have n3_ := YL (YP (upR HO_533001) hb); have n4_ := YL (Kd.R_lower (Kd.R_newM (M := fun k_ => (w.heap.size ≤ k_)) ho0 (YE (upB HB)) (fun k_ h_ => h_)) (YE (upB HB))); have n5_ := YL (YK (g := gb525) (o := .cells #[.int .i64 a0_0, .slice A0_1 l0_1.length c0_1] 24 (0, 0)) (upK BK525) hb); have n6_ := YL (YK (g := gb532) (o := .cells #[.int .i64 t526, .slice Ao19 t527.length co19] 24 (0, 0)) (upK BK532) hb); have n7_ := YL (YD (upB HB) hb); clear HO_1; clear HO_2; clear HO_526001; clear HO_533001; clear BK525; clear BK532; clear HB; have HO_1 := n0_; have HO_2 := n1_; have HO_526001 := n2_; have HO_533001 := n3_; have HO544 := n4_; have BK525 := n5_; have BK532 := n6_; have HB := n7_; clear n0_ n1_ n2_ n3_ n4_ n5_ n6_ n7_; (try clear hb); (try clear hb2); (try clear hk); (try clear hi); (try clear ho0); obtain ⟨Ao69, co69, eo69⟩ := Kd.R_slice HO544.out; subst eo69) | ((with_reducible refine gate_dst (N := 77) rfl ?_); (try (refine gate_guard (by rfl) ?_; dsimp only)); refine Kd.N_lit (Kd.slice 5 (Kd.int .u8)) _ 26 ?hg (N' := 77) ?hd (xs := ([l1, t542, l2] : List (List Int))) (inner := [.slice A1 l1.length c1, .slice Ao69 t542.length co69, .slice A2 l2.length c2]) (ok := (fun k_ => ((P0_1_ k_ ∨ P1_ k_ ∨ P2_ k_) ∨ w.heap.size ≤ k_) ∧ some k_ ≠ (.slice Ao19 t527.length co19 : Value).ownBlock ∧ k_ ≠ gb525 ∧ k_ ≠ gb532)) (okp := (fun k_ => ((P0_1_ k_ ∨ P1_ k_ ∨ P2_ k_) ∨ w.heap.size ≤ k_) ∧ some k_ ≠ (.slice Ao19 t527.length co19 : Value).ownBlock ∧ k_ ≠ gb525 ∧ k_ ≠ gb532)) ?hr ?hp (fun _ hk => hk) ((show ∀ k_, w68.heap.size ≤ k_ → (fun k_ => ((P0_1_ k_ ∨ P1_ k_ ∨ P2_ k_) ∨ w.heap.size ≤ k_) ∧ some k_ ≠ (.slice Ao19 t527.length co19 : Value).ownBlock ∧ k_ ≠ gb525 ∧ k_ ≠ gb532) k_ from fun k_ hk => ⟨(.inr (Nat.le_trans (YE (upB HB)) hk)), Kd.fresh' (Kd.R_lt (upR HO_533001)) k_ hk, Kd.freshB (g := gb525) (o := .cells #[.int .i64 a0_0, .slice A0_1 l0_1.length c0_1] 24 (0, 0)) (upK BK525) k_ hk, Kd.freshB (g := gb532) (o := .cells #[.int .i64 t526, .slice Ao19 t527.length co19] 24 (0, 0)) (upK BK532) k_ hk⟩) _ (Nat.le_refl _)) (Below.refl _ _) (Nat.le_refl _) (by simp) ?_; (case hd => rfl); (case hg => rfl); (case hr => first | (go_simp; done) | (go_simp; rfl)); (case hp => exact (Reps.one (show Kd.FK (Kd.slice 5 (Kd.int .u8)) _ _ l1 [.slice A1 l1.length c1] from (Kd.FK_slice_mk (Kd.V_reads' (Kd.V_mono (ok' := (fun k_ => ((P0_1_ k_ ∨ P1_ k_ ∨ P2_ k_) ∨ w.heap.size ≤ k_) ∧ some k_ ≠ (.slice Ao19 t527.length co19 : Value).ownBlock ∧ k_ ≠ gb525 ∧ k_ ≠ gb532)) (HO_1.out) (fun k_ hk => ⟨hk.1.1, ⟨hk.1.2.1, ⟨hk.1.2.2.1, hk.1.2.2.2⟩⟩⟩))).2.1 (Kd.V_F (Kd.V_mono (ok' := (fun k_ => ((P0_1_ k_ ∨ P1_ k_ ∨ P2_ k_) ∨ w.heap.size ≤ k_) ∧ some k_ ≠ (.slice Ao19 t527.length co19 : Value).ownBlock ∧ k_ ≠ gb525 ∧ k_ ≠ gb532)) (upV HO_1) (fun k_ hk => by exact ⟨hk.1.1, ⟨hk.1.2.1, ⟨hk.1.2.2.1, hk.1.2.2.2⟩⟩⟩))))) (Reps.one (show Kd.FK (Kd.slice 5 (Kd.int .u8)) _ _ t542 [.slice Ao69 t542.length co69] from (Kd.FK_slice_mk (Kd.R_reads' (Kd.R_mono (ok' := (fun k_ => ((P0_1_ k_ ∨ P1_ k_ ∨ P2_ k_) ∨ w.heap.size ≤ k_) ∧ some k_ ≠ (.slice Ao19 t527.length co19 : Value).ownBlock ∧ k_ ≠ gb525 ∧ k_ ≠ gb532)) (Kd.R_types (Kd.R_types (Kd.R_apart' (HO544.out) (Kd.R_typed HO_533001.out) (by decide)) BK525.out (by decide)) BK532.out (by decide)) (fun k_ hk => ⟨(.inr (hk.1.1.1.1)), ⟨hk.1.1.2, ⟨hk.1.2, hk.2⟩⟩⟩))).2.1 (Kd.R_F (Kd.R_mono (ok' := (fun k_ => ((P0_1_ k_ ∨ P1_ k_ ∨ P2_ k_) ∨ w.heap.size ≤ k_) ∧ some k_ ≠ (.slice Ao19 t527.length co19 : Value).ownBlock ∧ k_ ≠ gb525 ∧ k_ ≠ gb532)) (Kd.R_types (Kd.R_types (Kd.R_apart' (HO544.out) (Kd.R_typed HO_533001.out) (by decide)) BK525.out (by decide)) BK532.out (by decide)) (fun k_ hk => ⟨(.inr (hk.1.1.1.1)), ⟨hk.1.1.2, ⟨hk.1.2, hk.2⟩⟩⟩))))) (Reps.one (show Kd.FK (Kd.slice 5 (Kd.int .u8)) _ _ l2 [.slice A2 l2.length c2] from (Kd.FK_slice_mk (Kd.V_reads' (Kd.V_mono (ok' := (fun k_ => ((P0_1_ k_ ∨ P1_ k_ ∨ P2_ k_) ∨ w.heap.size ≤ k_) ∧ some k_ ≠ (.slice Ao19 t527.length co19 : Value).ownBlock ∧ k_ ≠ gb525 ∧ k_ ≠ gb532)) (upR HO_2) (fun k_ hk => by exact ⟨hk.1.1, ⟨hk.1.2.1, ⟨hk.1.2.2.1, hk.1.2.2.2⟩⟩⟩))).2.1 (Kd.V_F (Kd.V_mono (ok' := (fun k_ => ((P0_1_ k_ ∨ P1_ k_ ∨ P2_ k_) ∨ w.heap.size ≤ k_) ∧ some k_ ≠ (.slice Ao19 t527.length co19 : Value).ownBlock ∧ k_ ≠ gb525 ∧ k_ ≠ gb532)) (upV HO_2) (fun k_ hk => by exact ⟨hk.1.1, ⟨hk.1.2.1, ⟨hk.1.2.2.1, hk.1.2.2.2⟩⟩⟩))))) (Reps.none _ _))))); intro v547 w70 ho71 hb hg_ hnew_; clear hg_ hnew_; (first | rw [← Ny546.out] at ho71 | (simp only [Int.reduceToNat] at ho71; rw [← Ny546.out] at ho71)); have n0_ := YL (Kd.V_elder' (upV HO_1) (Kd.N_base ho71) hb); have n1_ := YL (Kd.V_elder' (upV HO_2) (Kd.N_base ho71) hb); have n2_ := YL (Kd.V_elder' (upV HO_526001) (Kd.N_base ho71) hb); have n3_ := YL (YP (upR HO_533001) hb); have n4_ := YL (Kd.N_lower ho71 (YE (upB HB))); have n5_ := YL (YK (g := gb525) (o := .cells #[.int .i64 a0_0, .slice A0_1 l0_1.length c0_1] 24 (0, 0)) (upK BK525) hb); have n6_ := YL (YK (g := gb532) (o := .cells #[.int .i64 t526, .slice Ao19 t527.length co19] 24 (0, 0)) (upK BK532) hb); have n7_ := YL (YD (upB HB) hb); clear HO_1; clear HO_2; clear HO_526001; clear HO_533001; clear BK525; clear BK532; clear HB; clear HO544; have HO_1 := n0_; have HO_2 := n1_; have HO_526001 := n2_; have HO_533001 := n3_; have HO548 := n4_; have BK525 := n5_; have BK532 := n6_; have HB := n7_; clear n0_ n1_ n2_ n3_ n4_ n5_ n6_ n7_; clear hb ho71; obtain ⟨Ao72, co72, eo72⟩ := Kd.N_slice HO548.out; subst eo72) | (go_at_call 22; (with_reducible refine (thalwegref01_Both.calls kj13 _ _ y546 t549 _ ?side1 ?side2 A32.out).mono ?_); (case side1 => repeat (first | exact (Kd.N_reads' HO548.out).2.2 | (with_reducible refine Kd.C_alloc ?_ _) | (with_reducible refine Kd.C_drewN ?_ _) | (with_reducible refine Kd.C_drew ?_))); (case side2 => exact (Kd.N_reads' HO548.out).2.1); rintro e w73 ⟨v550, rfl, ho0, hb⟩; have n0_ := YL (Kd.V_elder' (upV HO_1) (Kd.R_base ho0) hb); have n1_ := YL (Kd.V_elder' (upV HO_2) (Kd.R_base ho0) hb); have n2_ := YL (Kd.V_elder' (upV HO_526001) (Kd.R_base ho0) hb); have n3_ := YL (YP (upR HO_533001) hb); have n4_ := YL (Kd.N_elder' (upN HO548) (Kd.R_base ho0) hb); have n5_ := YL (Kd.R_lower (Kd.R_newM (M := fun k_ => (w.heap.size ≤ k_)) ho0 (YE (upB HB)) (fun k_ h_ => h_)) (YE (upB HB))); have n6_ := YL (YK (g := gb525) (o := .cells #[.int .i64 a0_0, .slice A0_1 l0_1.length c0_1] 24 (0, 0)) (upK BK525) hb); have n7_ := YL (YK (g := gb532) (o := .cells #[.int .i64 t526, .slice Ao19 t527.length co19] 24 (0, 0)) (upK BK532) hb); have n8_ := YL (YD (upB HB) hb); clear HO_1; clear HO_2; clear HO_526001; clear HO_533001; clear HO548; clear BK525; clear BK532; clear HB; have HO_1 := n0_; have HO_2 := n1_; have HO_526001 := n2_; have HO_533001 := n3_; have HO548 := n4_; have HO551 := n5_; have BK525 := n6_; have BK532 := n7_; have HB := n8_; clear n0_ n1_ n2_ n3_ n4_ n5_ n6_ n7_ n8_; (try clear hb); (try clear hb2); (try clear hk); (try clear hi); (try clear ho0); obtain ⟨Ao74, co74, eo74⟩ := Kd.R_slice HO551.out; subst eo74) | (go_at_call 21; (with_reducible refine (batch_Parse.calls kj13 _ _ t549 (l1.length : Int) t552 t553 t556 t557 _ ?side1 ?side2 A33.out).mono ?_); (case side1 => repeat (first | exact (Kd.R_reads' HO551.out).2.2 | (with_reducible refine Kd.C_alloc ?_ _) | (with_reducible refine Kd.C_drewN ?_ _) | (with_reducible refine Kd.C_drew ?_))); (case side2 => exact (Kd.R_reads' HO551.out).2.1); rintro e w75 ⟨v554, rfl, ho0, hb⟩; have n0_ := YL (Kd.V_elder' (upV HO_1) (Kd.R_base ho0) hb); have n1_ := YL (Kd.V_elder' (upV HO_2) (Kd.R_base ho0) hb); have n2_ := YL (Kd.V_elder' (upV HO_526001) (Kd.R_base ho0) hb); have n3_ := YL (Kd.R_elder' (upR HO_533001) (Kd.R_base ho0) hb); have n4_ := YL (Kd.N_elder' (upN HO548) (Kd.R_base ho0) hb); have n5_ := YL (YP (upR HO551) hb); have n6_ := YL (Kd.R_lower (Kd.R_new' (Kd.R_newM (M := fun k_ => (w.heap.size ≤ k_)) ho0 (YE (upB HB)) (fun k_ h_ => h_)) (Kd.R_lt (upR HO_533001))) (YE (upB HB))); have n7_ := YL (YK (g := gb525) (o := .cells #[.int .i64 a0_0, .slice A0_1 l0_1.length c0_1] 24 (0, 0)) (upK BK525) hb); have n8_ := YL (YK (g := gb532) (o := .cells #[.int .i64 t526, .slice Ao19 t527.length co19] 24 (0, 0)) (upK BK532) hb); have n9_ := YL (YD (upB HB) hb); clear HO_1; clear HO_2; clear HO_526001; clear HO_533001; clear HO548; clear HO551; clear BK525; clear BK532; clear HB; have HO_1 := n0_; have HO_2 := n1_; have HO_526001 := n2_; have HO_533001 := n3_; have HO548 := n4_; have HO551 := n5_; have HO555 := n6_; have BK525 := n7_; have BK532 := n8_; have HB := n9_; clear n0_ n1_ n2_ n3_ n4_ n5_ n6_ n7_ n8_ n9_; (try clear hb); (try clear hb2); (try clear hk); (try clear hi); (try clear ho0)) | ((with_reducible refine gate_dst (N := 14) rfl ?_); (try (refine gate_guard (by rfl) ?_; dsimp only)); refine box_event ?hg (N := 14) ?hd (cs := #[.int .i64 0, .slice none 0 0]) (t := 24) ?hr ?_; (case hd => rfl); (case hg => rfl); (case hr => first | (go_simp; done) | (go_simp; rfl)); intro gb558 hg w76 hbox hb; have n0_ := YL (Kd.V_below (Kd.V_elderB (upV HO_1) gb558 (Nat.le_of_eq hg.symm)) hb); have n1_ := YL (Kd.V_below (Kd.V_elderB (upV HO_2) gb558 (Nat.le_of_eq hg.symm)) hb); have n2_ := YL (Kd.V_below (Kd.V_elderB (upV HO_526001) gb558 (Nat.le_of_eq hg.symm)) hb); have n3_ := YL (YP (upR HO_533001) hb); have n4_ := YL (Kd.N_below (Kd.N_elderB (upN HO548) gb558 (Nat.le_of_eq hg.symm)) hb); have n5_ := YL (YP (upR HO551) hb); have n6_ := YL (YP (upR HO555) hb); have n7_ := YL (YK (g := gb525) (o := .cells #[.int .i64 a0_0, .slice A0_1 l0_1.length c0_1] 24 (0, 0)) (upK BK525) hb); have n8_ := YL (YK (g := gb532) (o := .cells #[.int .i64 t526, .slice Ao19 t527.length co19] 24 (0, 0)) (upK BK532) hb); have n9_ := YL (YD (upB HB) hb); have n10_ := YL (hbox); have n11_ := YL ((by rw [hg]; exact (YE (upB HB)) : w.heap.size ≤ gb558)); have n12_ := YL ((by rw [hg]; exact (YE (upB HB)) : w.heap.size ≤ gb558)); have n13_ := YL ((by rw [hg]; exact Nat.ne_of_lt (blk_lt (g := gb525) (o := .cells #[.int .i64 a0_0, .slice A0_1 l0_1.length c0_1] 24 (0, 0)) (upK BK525)) : gb525 ≠ gb558)); have n14_ := YL ((by rw [hg]; exact Nat.ne_of_gt (blk_lt (g := gb525) (o := .cells #[.int .i64 a0_0, .slice A0_1 l0_1.length c0_1] 24 (0, 0)) (upK BK525)) : gb558 ≠ gb525)); have n15_ := YL ((by rw [hg]; exact Nat.ne_of_lt (blk_lt (g := gb532) (o := .cells #[.int .i64 t526, .slice Ao19 t527.length co19] 24 (0, 0)) (upK BK532)) : gb532 ≠ gb558)); have n16_ := YL ((by rw [hg]; exact Nat.ne_of_gt (blk_lt (g := gb532) (o := .cells #[.int .i64 t526, .slice Ao19 t527.length co19] 24 (0, 0)) (upK BK532)) : gb558 ≠ gb532)); clear HO_1; clear HO_2; clear HO_526001; clear HO_533001; clear HO548; clear HO551; clear HO555; clear BK525; clear BK532; clear HB; have HO_1 := n0_; have HO_2 := n1_; have HO_526001 := n2_; have HO_533001 := n3_; have HO548 := n4_; have HO551 := n5_; have HO555 := n6_; have BK525 := n7_; have BK532 := n8_; have HB := n9_; have BK558 := n10_; have GW558 := n11_; have GE558 := n12_; have NB525_558 := n13_; have NB558_525 := n14_; have NB532_558 := n15_; have NB558_532 := n16_; clear n0_ n1_ n2_ n3_ n4_ n5_ n6_ n7_ n8_ n9_ n10_ n11_ n12_ n13_ n14_ n15_ n16_; clear hb hbox hg; have hnb77 := NB558_525.out; have hnc77 := NB525_558.out; have hnb78 := NB558_532.out; have hnc78 := NB532_558.out; have q79_0 : w76.cell? ⟨gb558, 0, none⟩ = some (.int .i64 0) := (YI BK558.out 0).trans rfl; have q79_1 : w76.cell? ⟨gb558, 1, none⟩ = some (.slice none 0 0) := (YI BK558.out 1).trans rfl; have f79_0 := YJ BK558.out 0; have f79_1 := YJ BK558.out 1; obtain ⟨Ao80, co80, eo80⟩ := Kd.R_slice HO555.out; subst eo80) | (go_at_call 11; (with_reducible refine (thalweglaw05_awake.calls kj13  true _ A64.out).mono ?_); rintro e w81 ⟨rfl, hb⟩; have n0_ := YL (Kd.V_below (by (with_reducible repeat (first | apply Kd.V_alloc | apply Kd.V_drewN | apply Kd.V_drew)); exact (Kd.V_mono (Kd.V_far (p := ⟨gb558, 1, none⟩) (Kd.V_far (p := ⟨gb558, 0, none⟩) (Kd.V_mono HO_1.out (fun k_ hk => (⟨hk, hk.2⟩ : _ ∧ k_ ≠ gb558))) (fun _ hk => hk.2) (.int .i64 t552)) (fun _ hk => hk.2) (.slice Ao80 t553.length co80)) (fun _ h_ => h_.1))) hb); have n1_ := YL (Kd.V_below (by (with_reducible repeat (first | apply Kd.V_alloc | apply Kd.V_drewN | apply Kd.V_drew)); exact (Kd.V_mono (Kd.V_far (p := ⟨gb558, 1, none⟩) (Kd.V_far (p := ⟨gb558, 0, none⟩) (Kd.V_mono HO_2.out (fun k_ hk => (⟨hk, hk.2⟩ : _ ∧ k_ ≠ gb558))) (fun _ hk => hk.2) (.int .i64 t552)) (fun _ hk => hk.2) (.slice Ao80 t553.length co80)) (fun _ h_ => h_.1))) hb); have n2_ := YL (Kd.V_below (by (with_reducible repeat (first | apply Kd.V_alloc | apply Kd.V_drewN | apply Kd.V_drew)); exact (Kd.V_mono (Kd.V_far (p := ⟨gb558, 1, none⟩) (Kd.V_far (p := ⟨gb558, 0, none⟩) (Kd.V_mono HO_526001.out (fun k_ hk => (⟨hk, hk.2⟩ : _ ∧ k_ ≠ gb558))) (fun _ hk => hk.2) (.int .i64 t552)) (fun _ hk => hk.2) (.slice Ao80 t553.length co80)) (fun _ h_ => h_.1))) hb); have n3_ := YL (YP (by (with_reducible repeat (first | apply YM | apply YN | apply YO)); exact (Kd.R_mono (Kd.R_far (p := ⟨gb558, 1, none⟩) (Kd.R_far (p := ⟨gb558, 0, none⟩) (Kd.R_types HO_533001.out BK558.out (by decide)) (fun _ hk => hk.2) (.int .i64 t552)) (fun _ hk => hk.2) (.slice Ao80 t553.length co80)) (fun _ h_ => h_.1))) hb); have n4_ := YL (Kd.N_below (by (with_reducible repeat (first | apply Kd.N_alloc | apply Kd.N_drewN | apply Kd.N_drew)); exact (Kd.N_mono (Kd.N_far (p := ⟨gb558, 1, none⟩) (Kd.N_far (p := ⟨gb558, 0, none⟩) (Kd.N_mono HO548.out (fun k_ hk => (⟨hk, hk.2⟩ : _ ∧ k_ ≠ gb558))) (fun _ hk => hk.2) (.int .i64 t552)) (fun _ hk => hk.2) (.slice Ao80 t553.length co80)) (fun _ h_ => h_.1))) hb); have n5_ := YL (YP (by (with_reducible repeat (first | apply YM | apply YN | apply YO)); exact (Kd.R_mono (Kd.R_far (p := ⟨gb558, 1, none⟩) (Kd.R_far (p := ⟨gb558, 0, none⟩) (Kd.R_types HO551.out BK558.out (by decide)) (fun _ hk => hk.2) (.int .i64 t552)) (fun _ hk => hk.2) (.slice Ao80 t553.length co80)) (fun _ h_ => h_.1))) hb); have n6_ := YL (YP (by (with_reducible repeat (first | apply YM | apply YN | apply YO)); exact (Kd.R_mono (Kd.R_far (p := ⟨gb558, 1, none⟩) (Kd.R_far (p := ⟨gb558, 0, none⟩) (Kd.R_types HO555.out BK558.out (by decide)) (fun _ hk => hk.2) (.int .i64 t552)) (fun _ hk => hk.2) (.slice Ao80 t553.length co80)) (fun _ h_ => h_.1))) hb); have n7_ := YL (YK (g := gb525) (o := .cells #[.int .i64 a0_0, .slice A0_1 l0_1.length c0_1] 24 (0, 0)) (by (with_reducible repeat (first | refine YF ?_ _ | refine YG ?_ | refine YH ?_ _)); refine blk_far ?_ NB525_558.out _; (with_reducible repeat (first | refine YF ?_ _ | refine YG ?_ | refine YH ?_ _)); refine blk_far ?_ NB525_558.out _; (with_reducible repeat (first | refine YF ?_ _ | refine YG ?_ | refine YH ?_ _)); exact BK525.out) hb); have n8_ := YL (YK (g := gb532) (o := .cells #[.int .i64 t526, .slice Ao19 t527.length co19] 24 (0, 0)) (by (with_reducible repeat (first | refine YF ?_ _ | refine YG ?_ | refine YH ?_ _)); refine blk_far ?_ NB532_558.out _; (with_reducible repeat (first | refine YF ?_ _ | refine YG ?_ | refine YH ?_ _)); refine blk_far ?_ NB532_558.out _; (with_reducible repeat (first | refine YF ?_ _ | refine YG ?_ | refine YH ?_ _)); exact BK532.out) hb); have n9_ := YL (YK (g := gb558) (o := .cells #[.int .i64 t552, .slice Ao80 t553.length co80] 24 (0, 0)) (by (with_reducible repeat (first | refine YF ?_ _ | refine YG ?_ | refine YH ?_ _)); refine blk_put (cs := #[.int .i64 t552, .slice none 0 0]) ?_ 1 _ rfl; (with_reducible repeat (first | refine YF ?_ _ | refine YG ?_ | refine YH ?_ _)); refine blk_put (cs := #[.int .i64 0, .slice none 0 0]) ?_ 0 _ rfl; (with_reducible repeat (first | refine YF ?_ _ | refine YG ?_ | refine YH ?_ _)); exact BK558.out) hb); have n10_ := YL (YD (upB HB) hb); clear HO_1; clear HO_2; clear HO_526001; clear HO_533001; clear HO548; clear HO551; clear HO555; clear BK525; clear BK532; clear BK558; clear HB; have HO_1 := n0_; have HO_2 := n1_; have HO_526001 := n2_; have HO_533001 := n3_; have HO548 := n4_; have HO551 := n5_; have HO555 := n6_; have BK525 := n7_; have BK532 := n8_; have BK558 := n9_; have HB := n10_; clear n0_ n1_ n2_ n3_ n4_ n5_ n6_ n7_ n8_ n9_ n10_; (try clear hb); (try clear hb2); (try clear hk); (try clear hi))); try go_wp2_with (first | (go_at_call 9; (with_reducible refine (batch_Bytes.calls kj13 a0_0 _ _ l0_1 t542 t545 _ ?side1 ?side2 A31.out).mono ?_); (case side1 => repeat (first | exact (Kd.V_reads' HO_526001.out).2.2 | (with_reducible refine Kd.C_alloc ?_ _) | (with_reducible refine Kd.C_drewN ?_ _) | (with_reducible refine Kd.C_drew ?_))); (case side2 => exact (Kd.V_reads' HO_526001.out).2.1); rintro e w68 ⟨v543, rfl, ho0, hb⟩; have n0_ := YL (Kd.V_elder' (upV HO_1) (Kd.R_base ho0) hb); have n1_ := YL (Kd.V_elder' (upV HO_2) (Kd.R_base ho0) hb); have n2_ := YL (Kd.V_elder' (upV HO_526001) (Kd.R_base ho0) hb); have n3_ := YL (YP (upR HO_533001) hb); have n4_ := YL (Kd.R_lower (Kd.R_newM (M := fun k_ => (w.heap.size ≤ k_)) ho0 (YE (upB HB)) (fun k_ h_ => h_)) (YE (upB HB))); have n5_ := YL (YK (g := gb525) (o := .cells #[.int .i64 a0_0, .slice A0_1 l0_1.length c0_1] 24 (0, 0)) (upK BK525) hb); have n6_ := YL (YK (g := gb532) (o := .cells #[.int .i64 t526, .slice Ao19 t527.length co19] 24 (0, 0)) (upK BK532) hb); have n7_ := YL (YD (upB HB) hb); clear HO_1; clear HO_2; clear HO_526001; clear HO_533001; clear BK525; clear BK532; clear HB; have HO_1 := n0_; have HO_2 := n1_; have HO_526001 := n2_; have HO_533001 := n3_; have HO544 := n4_; have BK525 := n5_; have BK532 := n6_; have HB := n7_; clear n0_ n1_ n2_ n3_ n4_ n5_ n6_ n7_; (try clear hb); (try clear hb2); (try clear hk); (try clear hi); (try clear ho0); obtain ⟨Ao69, co69, eo69⟩ := Kd.R_slice HO544.out; subst eo69) | ((with_reducible refine gate_dst (N := 77) rfl ?_); (try (refine gate_guard (by rfl) ?_; dsimp only)); refine Kd.N_lit (Kd.slice 5 (Kd.int .u8)) _ 26 ?hg (N' := 77) ?hd (xs := ([l1, t542, l2] : List (List Int))) (inner := [.slice A1 l1.length c1, .slice Ao69 t542.length co69, .slice A2 l2.length c2]) (ok := (fun k_ => ((P0_1_ k_ ∨ P1_ k_ ∨ P2_ k_) ∨ w.heap.size ≤ k_) ∧ some k_ ≠ (.slice Ao19 t527.length co19 : Value).ownBlock ∧ k_ ≠ gb525 ∧ k_ ≠ gb532)) (okp := (fun k_ => ((P0_1_ k_ ∨ P1_ k_ ∨ P2_ k_) ∨ w.heap.size ≤ k_) ∧ some k_ ≠ (.slice Ao19 t527.length co19 : Value).ownBlock ∧ k_ ≠ gb525 ∧ k_ ≠ gb532)) ?hr ?hp (fun _ hk => hk) ((show ∀ k_, w68.heap.size ≤ k_ → (fun k_ => ((P0_1_ k_ ∨ P1_ k_ ∨ P2_ k_) ∨ w.heap.size ≤ k_) ∧ some k_ ≠ (.slice Ao19 t527.length co19 : Value).ownBlock ∧ k_ ≠ gb525 ∧ k_ ≠ gb532) k_ from fun k_ hk => ⟨(.inr (Nat.le_trans (YE (upB HB)) hk)), Kd.fresh' (Kd.R_lt (upR HO_533001)) k_ hk, Kd.freshB (g := gb525) (o := .cells #[.int .i64 a0_0, .slice A0_1 l0_1.length c0_1] 24 (0, 0)) (upK BK525) k_ hk, Kd.freshB (g := gb532) (o := .cells #[.int .i64 t526, .slice Ao19 t527.length co19] 24 (0, 0)) (upK BK532) k_ hk⟩) _ (Nat.le_refl _)) (Below.refl _ _) (Nat.le_refl _) (by simp) ?_; (case hd => rfl); (case hg => rfl); (case hr => first | (go_simp; done) | (go_simp; rfl)); (case hp => exact (Reps.one (show Kd.FK (Kd.slice 5 (Kd.int .u8)) _ _ l1 [.slice A1 l1.length c1] from (Kd.FK_slice_mk (Kd.V_reads' (Kd.V_mono (ok' := (fun k_ => ((P0_1_ k_ ∨ P1_ k_ ∨ P2_ k_) ∨ w.heap.size ≤ k_) ∧ some k_ ≠ (.slice Ao19 t527.length co19 : Value).ownBlock ∧ k_ ≠ gb525 ∧ k_ ≠ gb532)) (HO_1.out) (fun k_ hk => ⟨hk.1.1, ⟨hk.1.2.1, ⟨hk.1.2.2.1, hk.1.2.2.2⟩⟩⟩))).2.1 (Kd.V_F (Kd.V_mono (ok' := (fun k_ => ((P0_1_ k_ ∨ P1_ k_ ∨ P2_ k_) ∨ w.heap.size ≤ k_) ∧ some k_ ≠ (.slice Ao19 t527.length co19 : Value).ownBlock ∧ k_ ≠ gb525 ∧ k_ ≠ gb532)) (upV HO_1) (fun k_ hk => by exact ⟨hk.1.1, ⟨hk.1.2.1, ⟨hk.1.2.2.1, hk.1.2.2.2⟩⟩⟩))))) (Reps.one (show Kd.FK (Kd.slice 5 (Kd.int .u8)) _ _ t542 [.slice Ao69 t542.length co69] from (Kd.FK_slice_mk (Kd.R_reads' (Kd.R_mono (ok' := (fun k_ => ((P0_1_ k_ ∨ P1_ k_ ∨ P2_ k_) ∨ w.heap.size ≤ k_) ∧ some k_ ≠ (.slice Ao19 t527.length co19 : Value).ownBlock ∧ k_ ≠ gb525 ∧ k_ ≠ gb532)) (Kd.R_types (Kd.R_types (Kd.R_apart' (HO544.out) (Kd.R_typed HO_533001.out) (by decide)) BK525.out (by decide)) BK532.out (by decide)) (fun k_ hk => ⟨(.inr (hk.1.1.1.1)), ⟨hk.1.1.2, ⟨hk.1.2, hk.2⟩⟩⟩))).2.1 (Kd.R_F (Kd.R_mono (ok' := (fun k_ => ((P0_1_ k_ ∨ P1_ k_ ∨ P2_ k_) ∨ w.heap.size ≤ k_) ∧ some k_ ≠ (.slice Ao19 t527.length co19 : Value).ownBlock ∧ k_ ≠ gb525 ∧ k_ ≠ gb532)) (Kd.R_types (Kd.R_types (Kd.R_apart' (HO544.out) (Kd.R_typed HO_533001.out) (by decide)) BK525.out (by decide)) BK532.out (by decide)) (fun k_ hk => ⟨(.inr (hk.1.1.1.1)), ⟨hk.1.1.2, ⟨hk.1.2, hk.2⟩⟩⟩))))) (Reps.one (show Kd.FK (Kd.slice 5 (Kd.int .u8)) _ _ l2 [.slice A2 l2.length c2] from (Kd.FK_slice_mk (Kd.V_reads' (Kd.V_mono (ok' := (fun k_ => ((P0_1_ k_ ∨ P1_ k_ ∨ P2_ k_) ∨ w.heap.size ≤ k_) ∧ some k_ ≠ (.slice Ao19 t527.length co19 : Value).ownBlock ∧ k_ ≠ gb525 ∧ k_ ≠ gb532)) (upR HO_2) (fun k_ hk => by exact ⟨hk.1.1, ⟨hk.1.2.1, ⟨hk.1.2.2.1, hk.1.2.2.2⟩⟩⟩))).2.1 (Kd.V_F (Kd.V_mono (ok' := (fun k_ => ((P0_1_ k_ ∨ P1_ k_ ∨ P2_ k_) ∨ w.heap.size ≤ k_) ∧ some k_ ≠ (.slice Ao19 t527.length co19 : Value).ownBlock ∧ k_ ≠ gb525 ∧ k_ ≠ gb532)) (upV HO_2) (fun k_ hk => by exact ⟨hk.1.1, ⟨hk.1.2.1, ⟨hk.1.2.2.1, hk.1.2.2.2⟩⟩⟩))))) (Reps.none _ _))))); intro v547 w70 ho71 hb hg_ hnew_; clear hg_ hnew_; (first | rw [← Ny546.out] at ho71 | (simp only [Int.reduceToNat] at ho71; rw [← Ny546.out] at ho71)); have n0_ := YL (Kd.V_elder' (upV HO_1) (Kd.N_base ho71) hb); have n1_ := YL (Kd.V_elder' (upV HO_2) (Kd.N_base ho71) hb); have n2_ := YL (Kd.V_elder' (upV HO_526001) (Kd.N_base ho71) hb); have n3_ := YL (YP (upR HO_533001) hb); have n4_ := YL (Kd.N_lower ho71 (YE (upB HB))); have n5_ := YL (YK (g := gb525) (o := .cells #[.int .i64 a0_0, .slice A0_1 l0_1.length c0_1] 24 (0, 0)) (upK BK525) hb); have n6_ := YL (YK (g := gb532) (o := .cells #[.int .i64 t526, .slice Ao19 t527.length co19] 24 (0, 0)) (upK BK532) hb); have n7_ := YL (YD (upB HB) hb); clear HO_1; clear HO_2; clear HO_526001; clear HO_533001; clear BK525; clear BK532; clear HB; clear HO544; have HO_1 := n0_; have HO_2 := n1_; have HO_526001 := n2_; have HO_533001 := n3_; have HO548 := n4_; have BK525 := n5_; have BK532 := n6_; have HB := n7_; clear n0_ n1_ n2_ n3_ n4_ n5_ n6_ n7_; clear hb ho71; obtain ⟨Ao72, co72, eo72⟩ := Kd.N_slice HO548.out; subst eo72) | (go_at_call 22; (with_reducible refine (thalwegref01_Both.calls kj13 _ _ y546 t549 _ ?side1 ?side2 A32.out).mono ?_); (case side1 => repeat (first | exact (Kd.N_reads' HO548.out).2.2 | (with_reducible refine Kd.C_alloc ?_ _) | (with_reducible refine Kd.C_drewN ?_ _) | (with_reducible refine Kd.C_drew ?_))); (case side2 => exact (Kd.N_reads' HO548.out).2.1); rintro e w73 ⟨v550, rfl, ho0, hb⟩; have n0_ := YL (Kd.V_elder' (upV HO_1) (Kd.R_base ho0) hb); have n1_ := YL (Kd.V_elder' (upV HO_2) (Kd.R_base ho0) hb); have n2_ := YL (Kd.V_elder' (upV HO_526001) (Kd.R_base ho0) hb); have n3_ := YL (YP (upR HO_533001) hb); have n4_ := YL (Kd.N_elder' (upN HO548) (Kd.R_base ho0) hb); have n5_ := YL (Kd.R_lower (Kd.R_newM (M := fun k_ => (w.heap.size ≤ k_)) ho0 (YE (upB HB)) (fun k_ h_ => h_)) (YE (upB HB))); have n6_ := YL (YK (g := gb525) (o := .cells #[.int .i64 a0_0, .slice A0_1 l0_1.length c0_1] 24 (0, 0)) (upK BK525) hb); have n7_ := YL (YK (g := gb532) (o := .cells #[.int .i64 t526, .slice Ao19 t527.length co19] 24 (0, 0)) (upK BK532) hb); have n8_ := YL (YD (upB HB) hb); clear HO_1; clear HO_2; clear HO_526001; clear HO_533001; clear HO548; clear BK525; clear BK532; clear HB; have HO_1 := n0_; have HO_2 := n1_; have HO_526001 := n2_; have HO_533001 := n3_; have HO548 := n4_; have HO551 := n5_; have BK525 := n6_; have BK532 := n7_; have HB := n8_; clear n0_ n1_ n2_ n3_ n4_ n5_ n6_ n7_ n8_; (try clear hb); (try clear hb2); (try clear hk); (try clear hi); (try clear ho0); obtain ⟨Ao74, co74, eo74⟩ := Kd.R_slice HO551.out; subst eo74) | (go_at_call 21; (with_reducible refine (batch_Parse.calls kj13 _ _ t549 (l1.length : Int) t552 t553 t556 t557 _ ?side1 ?side2 A33.out).mono ?_); (case side1 => repeat (first | exact (Kd.R_reads' HO551.out).2.2 | (with_reducible refine Kd.C_alloc ?_ _) | (with_reducible refine Kd.C_drewN ?_ _) | (with_reducible refine Kd.C_drew ?_))); (case side2 => exact (Kd.R_reads' HO551.out).2.1); rintro e w75 ⟨v554, rfl, ho0, hb⟩; have n0_ := YL (Kd.V_elder' (upV HO_1) (Kd.R_base ho0) hb); have n1_ := YL (Kd.V_elder' (upV HO_2) (Kd.R_base ho0) hb); have n2_ := YL (Kd.V_elder' (upV HO_526001) (Kd.R_base ho0) hb); have n3_ := YL (Kd.R_elder' (upR HO_533001) (Kd.R_base ho0) hb); have n4_ := YL (Kd.N_elder' (upN HO548) (Kd.R_base ho0) hb); have n5_ := YL (YP (upR HO551) hb); have n6_ := YL (Kd.R_lower (Kd.R_new' (Kd.R_newM (M := fun k_ => (w.heap.size ≤ k_)) ho0 (YE (upB HB)) (fun k_ h_ => h_)) (Kd.R_lt (upR HO_533001))) (YE (upB HB))); have n7_ := YL (YK (g := gb525) (o := .cells #[.int .i64 a0_0, .slice A0_1 l0_1.length c0_1] 24 (0, 0)) (upK BK525) hb); have n8_ := YL (YK (g := gb532) (o := .cells #[.int .i64 t526, .slice Ao19 t527.length co19] 24 (0, 0)) (upK BK532) hb); have n9_ := YL (YD (upB HB) hb); clear HO_1; clear HO_2; clear HO_526001; clear HO_533001; clear HO548; clear HO551; clear BK525; clear BK532; clear HB; have HO_1 := n0_; have HO_2 := n1_; have HO_526001 := n2_; have HO_533001 := n3_; have HO548 := n4_; have HO551 := n5_; have HO555 := n6_; have BK525 := n7_; have BK532 := n8_; have HB := n9_; clear n0_ n1_ n2_ n3_ n4_ n5_ n6_ n7_ n8_ n9_; (try clear hb); (try clear hb2); (try clear hk); (try clear hi); (try clear ho0)) | ((with_reducible refine gate_dst (N := 14) rfl ?_); (try (refine gate_guard (by rfl) ?_; dsimp only)); refine box_event ?hg (N := 14) ?hd (cs := #[.int .i64 0, .slice none 0 0]) (t := 24) ?hr ?_; (case hd => rfl); (case hg => rfl); (case hr => first | (go_simp; done) | (go_simp; rfl)); intro gb558 hg w76 hbox hb; have n0_ := YL (Kd.V_below (Kd.V_elderB (upV HO_1) gb558 (Nat.le_of_eq hg.symm)) hb); have n1_ := YL (Kd.V_below (Kd.V_elderB (upV HO_2) gb558 (Nat.le_of_eq hg.symm)) hb); have n2_ := YL (Kd.V_below (Kd.V_elderB (upV HO_526001) gb558 (Nat.le_of_eq hg.symm)) hb); have n3_ := YL (YP (upR HO_533001) hb); have n4_ := YL (Kd.N_below (Kd.N_elderB (upN HO548) gb558 (Nat.le_of_eq hg.symm)) hb); have n5_ := YL (YP (upR HO551) hb); have n6_ := YL (YP (upR HO555) hb); have n7_ := YL (YK (g := gb525) (o := .cells #[.int .i64 a0_0, .slice A0_1 l0_1.length c0_1] 24 (0, 0)) (upK BK525) hb); have n8_ := YL (YK (g := gb532) (o := .cells #[.int .i64 t526, .slice Ao19 t527.length co19] 24 (0, 0)) (upK BK532) hb); have n9_ := YL (YD (upB HB) hb); have n10_ := YL (hbox); have n11_ := YL ((by rw [hg]; exact (YE (upB HB)) : w.heap.size ≤ gb558)); have n12_ := YL ((by rw [hg]; exact (YE (upB HB)) : w.heap.size ≤ gb558)); have n13_ := YL ((by rw [hg]; exact Nat.ne_of_lt (blk_lt (g := gb525) (o := .cells #[.int .i64 a0_0, .slice A0_1 l0_1.length c0_1] 24 (0, 0)) (upK BK525)) : gb525 ≠ gb558)); have n14_ := YL ((by rw [hg]; exact Nat.ne_of_gt (blk_lt (g := gb525) (o := .cells #[.int .i64 a0_0, .slice A0_1 l0_1.length c0_1] 24 (0, 0)) (upK BK525)) : gb558 ≠ gb525)); have n15_ := YL ((by rw [hg]; exact Nat.ne_of_lt (blk_lt (g := gb532) (o := .cells #[.int .i64 t526, .slice Ao19 t527.length co19] 24 (0, 0)) (upK BK532)) : gb532 ≠ gb558)); have n16_ := YL ((by rw [hg]; exact Nat.ne_of_gt (blk_lt (g := gb532) (o := .cells #[.int .i64 t526, .slice Ao19 t527.length co19] 24 (0, 0)) (upK BK532)) : gb558 ≠ gb532)); clear HO_1; clear HO_2; clear HO_526001; clear HO_533001; clear HO548; clear HO551; clear HO555; clear BK525; clear BK532; clear HB; have HO_1 := n0_; have HO_2 := n1_; have HO_526001 := n2_; have HO_533001 := n3_; have HO548 := n4_; have HO551 := n5_; have HO555 := n6_; have BK525 := n7_; have BK532 := n8_; have HB := n9_; have BK558 := n10_; have GW558 := n11_; have GE558 := n12_; have NB525_558 := n13_; have NB558_525 := n14_; have NB532_558 := n15_; have NB558_532 := n16_; clear n0_ n1_ n2_ n3_ n4_ n5_ n6_ n7_ n8_ n9_ n10_ n11_ n12_ n13_ n14_ n15_ n16_; clear hb hbox hg; have hnb77 := NB558_525.out; have hnc77 := NB525_558.out; have hnb78 := NB558_532.out; have hnc78 := NB532_558.out; have q79_0 : w76.cell? ⟨gb558, 0, none⟩ = some (.int .i64 0) := (YI BK558.out 0).trans rfl; have q79_1 : w76.cell? ⟨gb558, 1, none⟩ = some (.slice none 0 0) := (YI BK558.out 1).trans rfl; have f79_0 := YJ BK558.out 0; have f79_1 := YJ BK558.out 1; obtain ⟨Ao80, co80, eo80⟩ := Kd.R_slice HO555.out; subst eo80) | (go_at_call 11; (with_reducible refine (thalweglaw05_awake.calls kj13  true _ A64.out).mono ?_); rintro e w81 ⟨rfl, hb⟩; have n0_ := YL (Kd.V_below (by (with_reducible repeat (first | apply Kd.V_alloc | apply Kd.V_drewN | apply Kd.V_drew)); exact (Kd.V_mono (Kd.V_far (p := ⟨gb558, 1, none⟩) (Kd.V_far (p := ⟨gb558, 0, none⟩) (Kd.V_mono HO_1.out (fun k_ hk => (⟨hk, hk.2⟩ : _ ∧ k_ ≠ gb558))) (fun _ hk => hk.2) (.int .i64 t552)) (fun _ hk => hk.2) (.slice Ao80 t553.length co80)) (fun _ h_ => h_.1))) hb); have n1_ := YL (Kd.V_below (by (with_reducible repeat (first | apply Kd.V_alloc | apply Kd.V_drewN | apply Kd.V_drew)); exact (Kd.V_mono (Kd.V_far (p := ⟨gb558, 1, none⟩) (Kd.V_far (p := ⟨gb558, 0, none⟩) (Kd.V_mono HO_2.out (fun k_ hk => (⟨hk, hk.2⟩ : _ ∧ k_ ≠ gb558))) (fun _ hk => hk.2) (.int .i64 t552)) (fun _ hk => hk.2) (.slice Ao80 t553.length co80)) (fun _ h_ => h_.1))) hb); have n2_ := YL (Kd.V_below (by (with_reducible repeat (first | apply Kd.V_alloc | apply Kd.V_drewN | apply Kd.V_drew)); exact (Kd.V_mono (Kd.V_far (p := ⟨gb558, 1, none⟩) (Kd.V_far (p := ⟨gb558, 0, none⟩) (Kd.V_mono HO_526001.out (fun k_ hk => (⟨hk, hk.2⟩ : _ ∧ k_ ≠ gb558))) (fun _ hk => hk.2) (.int .i64 t552)) (fun _ hk => hk.2) (.slice Ao80 t553.length co80)) (fun _ h_ => h_.1))) hb); have n3_ := YL (YP (by (with_reducible repeat (first | apply YM | apply YN | apply YO)); exact (Kd.R_mono (Kd.R_far (p := ⟨gb558, 1, none⟩) (Kd.R_far (p := ⟨gb558, 0, none⟩) (Kd.R_types HO_533001.out BK558.out (by decide)) (fun _ hk => hk.2) (.int .i64 t552)) (fun _ hk => hk.2) (.slice Ao80 t553.length co80)) (fun _ h_ => h_.1))) hb); have n4_ := YL (Kd.N_below (by (with_reducible repeat (first | apply Kd.N_alloc | apply Kd.N_drewN | apply Kd.N_drew)); exact (Kd.N_mono (Kd.N_far (p := ⟨gb558, 1, none⟩) (Kd.N_far (p := ⟨gb558, 0, none⟩) (Kd.N_mono HO548.out (fun k_ hk => (⟨hk, hk.2⟩ : _ ∧ k_ ≠ gb558))) (fun _ hk => hk.2) (.int .i64 t552)) (fun _ hk => hk.2) (.slice Ao80 t553.length co80)) (fun _ h_ => h_.1))) hb); have n5_ := YL (YP (by (with_reducible repeat (first | apply YM | apply YN | apply YO)); exact (Kd.R_mono (Kd.R_far (p := ⟨gb558, 1, none⟩) (Kd.R_far (p := ⟨gb558, 0, none⟩) (Kd.R_types HO551.out BK558.out (by decide)) (fun _ hk => hk.2) (.int .i64 t552)) (fun _ hk => hk.2) (.slice Ao80 t553.length co80)) (fun _ h_ => h_.1))) hb); have n6_ := YL (YP (by (with_reducible repeat (first | apply YM | apply YN | apply YO)); exact (Kd.R_mono (Kd.R_far (p := ⟨gb558, 1, none⟩) (Kd.R_far (p := ⟨gb558, 0, none⟩) (Kd.R_types HO555.out BK558.out (by decide)) (fun _ hk => hk.2) (.int .i64 t552)) (fun _ hk => hk.2) (.slice Ao80 t553.length co80)) (fun _ h_ => h_.1))) hb); have n7_ := YL (YK (g := gb525) (o := .cells #[.int .i64 a0_0, .slice A0_1 l0_1.length c0_1] 24 (0, 0)) (by (with_reducible repeat (first | refine YF ?_ _ | refine YG ?_ | refine YH ?_ _)); refine blk_far ?_ NB525_558.out _; (with_reducible repeat (first | refine YF ?_ _ | refine YG ?_ | refine YH ?_ _)); refine blk_far ?_ NB525_558.out _; (with_reducible repeat (first | refine YF ?_ _ | refine YG ?_ | refine YH ?_ _)); exact BK525.out) hb); have n8_ := YL (YK (g := gb532) (o := .cells #[.int .i64 t526, .slice Ao19 t527.length co19] 24 (0, 0)) (by (with_reducible repeat (first | refine YF ?_ _ | refine YG ?_ | refine YH ?_ _)); refine blk_far ?_ NB532_558.out _; (with_reducible repeat (first | refine YF ?_ _ | refine YG ?_ | refine YH ?_ _)); refine blk_far ?_ NB532_558.out _; (with_reducible repeat (first | refine YF ?_ _ | refine YG ?_ | refine YH ?_ _)); exact BK532.out) hb); have n9_ := YL (YK (g := gb558) (o := .cells #[.int .i64 t552, .slice Ao80 t553.length co80] 24 (0, 0)) (by (with_reducible repeat (first | refine YF ?_ _ | refine YG ?_ | refine YH ?_ _)); refine blk_put (cs := #[.int .i64 t552, .slice none 0 0]) ?_ 1 _ rfl; (with_reducible repeat (first | refine YF ?_ _ | refine YG ?_ | refine YH ?_ _)); refine blk_put (cs := #[.int .i64 0, .slice none 0 0]) ?_ 0 _ rfl; (with_reducible repeat (first | refine YF ?_ _ | refine YG ?_ | refine YH ?_ _)); exact BK558.out) hb); have n10_ := YL (YD (upB HB) hb); clear HO_1; clear HO_2; clear HO_526001; clear HO_533001; clear HO548; clear HO551; clear HO555; clear BK525; clear BK532; clear BK558; clear HB; have HO_1 := n0_; have HO_2 := n1_; have HO_526001 := n2_; have HO_533001 := n3_; have HO548 := n4_; have HO551 := n5_; have HO555 := n6_; have BK525 := n7_; have BK532 := n8_; have BK558 := n9_; have HB := n10_; clear n0_ n1_ n2_ n3_ n4_ n5_ n6_ n7_ n8_ n9_ n10_; (try clear hb); (try clear hb2); (try clear hk); (try clear hi))))
      go_ret
      exact ⟨by first | rfl | (simp [errW_none, errW_some] <;> rfl) | (simp [*, errW_none, errW_some] <;> rfl), by repeat (first | (with_reducible first | exact HB.out | apply YA | apply YB | apply YC | refine below_set ?_ GE525.out | refine below_set ?_ GE532.out | refine below_set ?_ GE558.out) | exact HB.out)⟩
     replace c65 := Bool.eq_false_iff.mpr c65
     subst c65
     have H1 : (none) = some r := by rw [if_neg (show ¬ (false = true) by decide)] at H; exact H
     clear H
     have H := H1
     clear H1
     exact absurd H (by simp)
end Go.Proofs.Ytfigbjjaffkidaa.P
namespace Go.Proofs.Ytfigbjjaffkidaa.P
open Go.RowKit YtfigbjjaffkidaaW.PrintWords
def thalweglaw05_BatchBack.Pure : Prop := ∀ (x0 : S24) (l1 : List Int) (l2 : List Int), ((Lit.int .i64 x0.f0).wf = true ∧ (x0.f1.length ≤ maxLen ∧ ∀ x0_ ∈ x0.f1, ((Lit.int .i64 x0_.f0).wf = true ∧ (Lit.int .i64 x0_.f1).wf = true ∧ (True ∧ (Lit.int .i64 x0_.f2.f1).wf = true ∧ (Lit.int .i64 x0_.f2.f2).wf = true ∧ (Lit.int .i64 x0_.f2.f3).wf = true ∧ (Lit.int .i64 x0_.f2.f4).wf = true ∧ (Lit.int .i64 x0_.f2.f5).wf = true) ∧ ((Lit.int .i64 x0_.f3.f0).wf = true ∧ (Lit.int .i64 x0_.f3.f1).wf = true ∧ (Lit.int .i64 x0_.f3.f2).wf = true) ∧ (Lit.int .i64 x0_.f4).wf = true))) → l1.length ≤ maxLen → (∀ x ∈ l1, (Lit.int .u8 x).wf = true) → l2.length ≤ maxLen → (∀ x ∈ l2, (Lit.int .u8 x).wf = true) → ∃ k, thalweglaw05_BatchBack.f k x0.f0 x0.f1 l1 l2 = some true
end Go.Proofs.Ytfigbjjaffkidaa.P
namespace Go.Proofs.Ytfigbjjaffkidaa.P
open Go.RowKit YtfigbjjaffkidaaW.PrintWords YtfigbjjaffkidaaW.PrintLast YtfigbjjaffkidaaW.PrintMore
theorem num_in (A B C : List Int) (n : Nat) (hn : B.length = n) : numSpec (A ++ (B ++ C)) (A.length : Int) (n : Int) = (bev B, (A.length : Int) + n, 0) := by
 unfold numSpec
 rw [if_neg (by simp only [List.length_append]; omega), if_neg (by simp only [List.length_append]; omega)]
 simp only [Int.toNat_natCast, List.drop_left]
 rw [List.take_append_of_le_length (by omega), List.take_of_length_le (by omega)]
theorem get_in_mid (A C : List Int) (v : Int) (n : Nat) (h1 : 1 ≤ n) (h7 : n ≤ 7) (v0 : 0 ≤ v) (v1 : v < 256 ^ n) : getSpec (A ++ (be n v ++ C)) (A.length : Int) (n : Int) = (v, (A.length : Int) + n, 0) := by
 unfold getSpec
 rw [if_neg (by omega), num_in A (be n v) C n (be_length _ _), bev_be n v v0 v1]
theorem num_ok (l : List Int) (at_ : Int) (n : Nat) (h : (numSpec l at_ n).2.2 = 0) : (0 ≤ at_ ∧ at_ + n ≤ l.length) ∧ numSpec l at_ n = (bev ((l.drop at_.toNat).take n), at_ + n, 0) := by
 unfold numSpec at h ⊢
 split at h
 ·exact absurd h (by decide)
 rename_i g1
 rw [if_neg g1]
 split at h
 ·exact absurd h (by decide)
 rename_i g2
 rw [if_neg g2]
 exact ⟨⟨by omega, by omega⟩, by rw [Int.toNat_natCast]⟩
theorem get_was (l : List Int) (hB : Bytes l) (at_ : Int) (n : Nat) (h1 : 1 ≤ n) (h7 : n ≤ 7) (h : (getSpec l at_ n).2.2 = 0) :
  (0 ≤ at_ ∧ at_ + n ≤ l.length) ∧ (getSpec l at_ n).2.1 = at_ + n ∧ be n (getSpec l at_ n).1 = (l.drop at_.toNat).take n ∧ 0 ≤ (getSpec l at_ n).1 ∧ (getSpec l at_ n).1 < 256 ^ n := by
 unfold getSpec at h ⊢
 rw [if_neg (by omega)] at h ⊢
 obtain ⟨hr, he⟩ := num_ok l at_ n h
 rw [he]
 have hl : ((l.drop at_.toNat).take n).length = n := by rw [List.length_take, List.length_drop]; omega
 have hb := be_bev ((l.drop at_.toNat).take n) ((hB.drop _).take _)
 have hv := bev_range ((l.drop at_.toNat).take n) ((hB.drop _).take _)
 rw [hl] at hb hv
 exact ⟨hr, rfl, hb, hv⟩
theorem seg_add (l : List Int) (a m n : Nat) : (l.drop a).take (m + n) = (l.drop a).take m ++ (l.drop (a + m)).take n := by
 rw [List.take_add, List.drop_drop]
def hB9 (n : Bool) (a b c d e : Int) : List Int := if n = true then [0, e % 256] else [1] ++ intSpec a ++ [b % 256, c % 256] ++ intSpec d ++ [e % 256]
theorem be1' (v : Int) : be 1 v = [v % 256] := by rw [be_cons 0]; simp [be]
theorem one_put (A C : List Int) (v : Int) (h0 : 0 ≤ v) (h1 : v ≤ 255) : rd1 (A ++ ([v % 256] ++ C)) 1 (A.length : Int) 0 = (v, ((A.length + 1 : Nat) : Int), 0) := by
 have g := get_in_mid A C v 1 (by omega) (by omega) h0 (by rw [show (256 : Int) ^ 1 = 256 by decide]; omega)
 rw [be1'] at g
 unfold rd1 rdStep
 simp only [show ((1 : Nat) : Int) = 1 from rfl] at g
 simp only [g, if_true, Prod.mk.injEq, true_and, and_true]
 omega
theorem eight_put (A C : List Int) (v : Int) (h0 : -9223372036854775808 ≤ v) (h1 : v ≤ 9223372036854775807) : rd8 (A ++ (intSpec v ++ C)) (A.length : Int) 0 = (v, ((A.length + 8 : Nat) : Int), 0) := by
 have g := num_in A (intSpec v) C 8 (be_length _ _)
 have hb : bev (intSpec v) = v % 18446744073709551616 := bev_be 8 _ (by omega) (by rw [show (256 : Int) ^ 8 = 18446744073709551616 by decide]; omega)
 rw [hb] at g
 have hw : wrap64 (v % 18446744073709551616) = v := by unfold wrap64; omega
 unfold rd8 rdStep getIntSpec
 simp only [show ((8 : Nat) : Int) = 8 from rfl] at g
 simp only [g, hw, if_true, Prod.mk.injEq, true_and, and_true]
 omega
theorem one_was (l : List Int) (hB : Bytes l) (p v p2 : Int) (h : rd1 l 1 p 0 = (v, p2, 0)) : (0 ≤ p ∧ p + 1 ≤ l.length) ∧ p2 = p + 1 ∧ [v % 256] = (l.drop p.toNat).take 1 ∧ 0 ≤ v ∧ v ≤ 255 := by
 unfold rd1 rdStep at h
 rw [if_pos rfl] at h
 split at h
 ·rename_i h0
  have w := get_was l hB p 1 (by omega) (by omega) h0
  rw [show ((1 : Nat) : Int) = 1 from rfl] at w
  simp only [Prod.mk.injEq, and_true] at h
  obtain ⟨rfl, rfl⟩ := h
  obtain ⟨r, a, b, c, d⟩ := w
  rw [show (256 : Int) ^ 1 = 256 by decide] at d
  rw [be1'] at b
  exact ⟨r, a, b, c, by omega⟩
 ·rename_i h0
  exact absurd (congrArg (fun z => z.2.2) h) h0
theorem eight_was (l : List Int) (hB : Bytes l) (p v p2 : Int) (h : rd8 l p 0 = (v, p2, 0)) : (0 ≤ p ∧ p + 8 ≤ l.length) ∧ p2 = p + 8 ∧ intSpec v = (l.drop p.toNat).take 8 ∧ -9223372036854775808 ≤ v ∧ v ≤ 9223372036854775807 := by
 unfold rd8 rdStep getIntSpec at h
 rw [if_pos rfl] at h
 split at h
 ·rename_i h0
  obtain ⟨r, w⟩ := num_ok l p 8 h0
  simp only [show ((8 : Nat) : Int) = 8 from rfl] at w r
  rw [w] at h
  simp only [Prod.mk.injEq, and_true] at h
  obtain ⟨rfl, rfl⟩ := h
  have hl : ((l.drop p.toNat).take 8).length = 8 := by rw [List.length_take, List.length_drop]; omega
  have hb := be_bev ((l.drop p.toNat).take 8) ((hB.drop _).take _)
  have hv := bev_range ((l.drop p.toNat).take 8) ((hB.drop _).take _)
  rw [hl] at hb hv
  rw [show (256 : Int) ^ 8 = 18446744073709551616 by decide] at hv
  generalize bev ((l.drop p.toNat).take 8) = x at hb hv
  refine ⟨r, rfl, ?_, by unfold wrap64; omega, by unfold wrap64; omega⟩
  unfold intSpec
  rw [show wrap64 x % 18446744073709551616 = x by unfold wrap64; omega, hb]
 ·rename_i h0
  exact absurd (congrArg (fun z => z.2.2) h) h0
theorem hB9_length (n : Bool) (a b c d e : Int) : (hB9 n a b c d e).length = if n = true then 2 else 20 := by
 unfold hB9
 split
 ·rfl
 ·simp [intSpec, be_length]
theorem hp_put (F M : List Int) (n : Bool) (a b c d e : Int) (h : RH n a b c d e) : hpGo (F ++ (hB9 n a b c d e ++ M)) (F.length : Int) = (n, a, b, c, d, e, (F.length : Int) + (hB9 n a b c d e).length, 0) := by
 rw [hB9_length]
 obtain ⟨⟨e0, e1⟩, hh⟩ := h
 rcases hh with ⟨rfl, rfl, rfl, rfl, rfl⟩ | ⟨rfl, a0, a1, b0, b1, c0, c1, d0, d1⟩
 ·simp only [hB9, if_true]
  have g0 := one_put F ([e % 256] ++ M) 0 (by omega) (by omega)
  have g1 := one_put (F ++ [0]) M e (by omega) (by omega)
  have x0 : F ++ ([(0 : Int) % 256] ++ ([e % 256] ++ M)) = F ++ ([0, e % 256] ++ M) := by simp
  have x1 : F ++ [0] ++ ([e % 256] ++ M) = F ++ ([0, e % 256] ++ M) := by simp
  rw [x0] at g0
  rw [x1, List.length_append, List.length_singleton] at g1
  unfold hpGo
  have hr : RH true 0 0 0 0 e := ⟨⟨e0, e1⟩, .inl ⟨rfl, rfl, rfl, rfl, rfl⟩⟩
  simp only [g0, if_true, hpErr, if_neg (show ¬ (1 : Int) < 0 by decide), g1, hpFin, if_pos hr, Prod.mk.injEq, true_and, and_true]
  omega
 ·simp only [hB9, Bool.false_eq_true, if_false]
  have g0 := one_put F (intSpec a ++ ([b % 256] ++ ([c % 256] ++ (intSpec d ++ ([e % 256] ++ M))))) 1 (by omega) (by omega)
  have g1 := eight_put (F ++ [1]) ([b % 256] ++ ([c % 256] ++ (intSpec d ++ ([e % 256] ++ M)))) a (by omega) (by omega)
  have g2 := one_put (F ++ [1] ++ intSpec a) ([c % 256] ++ (intSpec d ++ ([e % 256] ++ M))) b (by omega) (by omega)
  have g3 := one_put (F ++ [1] ++ intSpec a ++ [b % 256]) (intSpec d ++ ([e % 256] ++ M)) c (by omega) (by omega)
  have g4 := eight_put (F ++ [1] ++ intSpec a ++ [b % 256] ++ [c % 256]) ([e % 256] ++ M) d (by omega) (by omega)
  have g5 := one_put (F ++ [1] ++ intSpec a ++ [b % 256] ++ [c % 256] ++ intSpec d) M e (by omega) (by omega)
  have x : F ++ ([1] ++ intSpec a ++ [b % 256, c % 256] ++ intSpec d ++ [e % 256] ++ M) = F ++ ([1] ++ (intSpec a ++ ([b % 256] ++ ([c % 256] ++ (intSpec d ++ ([e % 256] ++ M)))))) := by simp
  rw [x]
  rw [show ([(1 : Int) % 256] : List Int) = [1] from rfl] at g0
  have hi : ∀ v, (intSpec v).length = 8 := fun v => be_length _ _
  simp only [List.append_assoc, List.length_append, List.length_singleton, hi] at g1 g2 g3 g4 g5
  generalize F ++ ([1] ++ (intSpec a ++ ([b % 256] ++ ([c % 256] ++ (intSpec d ++ ([e % 256] ++ M)))))) = l at g0 g1 g2 g3 g4 g5 ⊢
  simp only [Nat.add_assoc, Nat.reduceAdd] at g0 g1 g2 g3 g4 g5
  unfold hpGo
  have hr : RH false a b c d e := ⟨⟨e0, e1⟩, .inr ⟨rfl, a0, a1, b0, b1, c0, c1, d0, d1⟩⟩
  simp only [g0, if_neg (show ¬ (1 : Int) = 0 by decide), hpErr, if_true, if_neg (show ¬ (1 : Int) < 1 by decide), g1, g2, g3, g4, g5, hpFin, if_pos hr, Prod.mk.injEq, true_and, and_true]
  omega
theorem hp_was (l : List Int) (hB : Bytes l) (p : Int) (n : Bool) (a b c d e i : Int) (h : hpGo l p = (n, a, b, c, d, e, i, 0)) :
  RH n a b c d e ∧ 0 ≤ p ∧ i = p + (hB9 n a b c d e).length ∧ i ≤ l.length ∧ hB9 n a b c d e = (l.drop p.toNat).take (hB9 n a b c d e).length := by
 unfold hpGo at h
 obtain ⟨k, p1, e1, hk⟩ : ∃ k p1 e1, rd1 l 1 p 0 = (k, p1, e1) := ⟨_, _, _, rfl⟩
 simp only [hk] at h
 rw [hB9_length]
 have fin_ : ∀ (n' : Bool) (a' b' c' d' : Int) (z : Int × Int × Int), hpFin n' a' b' c' d' z = (n, a, b, c, d, e, i, 0) → z.2.2 = 0 ∧ RH n a b c d e ∧ n' = n ∧ a' = a ∧ b' = b ∧ c' = c ∧ d' = d ∧ z.1 = e ∧ z.2.1 = i := by
  intro n' a' b' c' d' z hz
  unfold hpFin hpNo at hz
  split at hz
  ·rename_i z0
   split at hz
   ·rename_i hr
    simp only [Prod.mk.injEq, and_true] at hz
    obtain ⟨rfl, rfl, rfl, rfl, rfl, rfl, rfl⟩ := hz
    exact ⟨z0, hr, rfl, rfl, rfl, rfl, rfl, rfl, rfl⟩
   ·exact absurd (congrArg (fun y => y.2.2.2.2.2.2.2) hz) (show ¬ (4 : Int) = 0 by decide)
  ·rename_i z0
   exact absurd (congrArg (fun y => y.2.2.2.2.2.2.2) hz) z0
 split at h
 ·rename_i hk0
  obtain ⟨z0, hr, rfl, rfl, rfl, rfl, rfl, he, hi⟩ := fin_ _ _ _ _ _ _ h
  obtain ⟨v, p2, e2, hv⟩ : ∃ v p2 e2, rd1 l 1 p1 (hpErr k e1) = (v, p2, e2) := ⟨_, _, _, rfl⟩
  simp only [hv] at z0 he hi
  subst z0 he hi
  have hz : hpErr k e1 = 0 := by
   by_cases c0 : hpErr k e1 = 0
   ·exact c0
   ·exact absurd (rdStep_stay c0 hv).symm c0
  have he1 : e1 = 0 := by
   unfold hpErr at hz
   split at hz
   ·assumption
   ·exact hz
  rw [hz] at hv
  subst he1 hk0
  obtain ⟨r1, rfl, b1, c1, d1⟩ := one_was l hB p 0 p1 hk
  obtain ⟨r2, rfl, b2, c2, d2⟩ := one_was l hB (p + 1) v p2 hv
  refine ⟨hr, by omega, by simp only [if_true]; omega, by omega, ?_⟩
  simp only [hB9, if_true]
  rw [show (2 : Nat) = 1 + 1 from rfl, seg_add, ← b1, show p.toNat + 1 = (p + 1).toNat by omega, ← b2]
  rfl
 ·rename_i hk0
  obtain ⟨z0, hr, rfl, ha, hb, hc, hd, he, hi⟩ := fin_ _ _ _ _ _ _ h
  obtain ⟨t, pt, et, ht⟩ : ∃ t pt et, rd8 l p1 (hpErr k e1) = (t, pt, et) := ⟨_, _, _, rfl⟩
  simp only [ht] at z0 ha hb hc hd he hi
  obtain ⟨o, po, eo, ho⟩ : ∃ o po eo, rd1 l 1 pt et = (o, po, eo) := ⟨_, _, _, rfl⟩
  simp only [ho] at z0 ha hb hc hd he hi
  obtain ⟨r, pr, er, hrr⟩ : ∃ r pr er, rd1 l 1 po eo = (r, pr, er) := ⟨_, _, _, rfl⟩
  simp only [hrr] at z0 ha hb hc hd he hi
  obtain ⟨dd, pd, ed, hdd⟩ : ∃ d pd ed, rd8 l pr er = (d, pd, ed) := ⟨_, _, _, rfl⟩
  simp only [hdd] at z0 ha hb hc hd he hi
  obtain ⟨v, pv, ev, hv⟩ : ∃ v p e, rd1 l 1 pd ed = (v, p, e) := ⟨_, _, _, rfl⟩
  simp only [hv] at z0 ha hb hc hd he hi
  subst z0 ha hb hc hd he hi
  have h1 : ed = 0 := by
   by_cases c0 : ed = 0
   ·exact c0
   ·exact absurd (rdStep_stay c0 hv).symm c0
  subst h1
  have h2 : er = 0 := by
   by_cases c0 : er = 0
   ·exact c0
   ·exact absurd (rdStep_stay c0 hdd).symm c0
  subst h2
  have h3 : eo = 0 := by
   by_cases c0 : eo = 0
   ·exact c0
   ·exact absurd (rdStep_stay c0 hrr).symm c0
  subst h3
  have h4 : et = 0 := by
   by_cases c0 : et = 0
   ·exact c0
   ·exact absurd (rdStep_stay c0 ho).symm c0
  subst h4
  have hz : hpErr k e1 = 0 := by
   by_cases c0 : hpErr k e1 = 0
   ·exact c0
   ·exact absurd (rdStep_stay c0 ht).symm c0
  have he1 : e1 = 0 ∧ ¬ 1 < k := by
   unfold hpErr at hz
   split at hz
   ·rename_i q
    refine ⟨q, fun q2 => ?_⟩
    rw [if_pos q2] at hz
    omega
   ·rename_i q
    exact absurd hz q
  rw [hz] at ht
  obtain ⟨rfl, hk1⟩ := he1
  obtain ⟨r1, rfl, b1, c1, d1⟩ := one_was l hB p k p1 hk
  obtain rfl : k = 1 := by omega
  obtain ⟨r2, rfl, b2, _, _⟩ := eight_was l hB (p + 1) t pt ht
  obtain ⟨r3, rfl, b3, _, _⟩ := one_was l hB (p + 1 + 8) o po ho
  obtain ⟨r4, rfl, b4, _, _⟩ := one_was l hB (p + 1 + 8 + 1) r pr hrr
  obtain ⟨r5, rfl, b5, _, _⟩ := eight_was l hB (p + 1 + 8 + 1 + 1) dd pd hdd
  obtain ⟨r6, rfl, b6, _, _⟩ := one_was l hB (p + 1 + 8 + 1 + 1 + 8) v pv hv
  refine ⟨hr, by omega, by simp only [Bool.false_eq_true, if_false]; omega, by omega, ?_⟩
  simp only [hB9, Bool.false_eq_true, if_false]
  rw [show (20 : Nat) = 1 + (8 + (1 + (1 + (8 + 1)))) from rfl, seg_add l p.toNat 1, seg_add l (p.toNat + 1) 8, seg_add l (p.toNat + 1 + 8) 1, seg_add l (p.toNat + 1 + 8 + 1) 1, seg_add l (p.toNat + 1 + 8 + 1 + 1) 8]
  rw [← b1, show p.toNat + 1 = (p + 1).toNat by omega, ← b2, show (p + 1).toNat + 8 = (p + 1 + 8).toNat by omega, ← b3, show (p + 1 + 8).toNat + 1 = (p + 1 + 8 + 1).toNat by omega, ← b4, show (p + 1 + 8 + 1).toNat + 1 = (p + 1 + 8 + 1 + 1).toNat by omega, ← b5, show (p + 1 + 8 + 1 + 1).toNat + 8 = (p + 1 + 8 + 1 + 1 + 8).toNat by omega, ← b6]
  simp
def oB9 (a0 a1 : Int) (a2 : Bool) (a3 a4 a5 a6 a7 a8 a9 a10 a11 : Int) : List Int :=
 [a0 % 256, a1 % 256] ++ (if a0 = 1 then [] else if a0 = 3 then intSpec a8 ++ [a9 % 256, a10 % 256] else if a0 = 4 then hB9 a2 a3 a4 a5 a6 a7 ++ [a11 / 256 % 256, a11 % 256] else hB9 a2 a3 a4 a5 a6 a7)
theorem be2' (v : Int) : be 2 v = [v / 256 % 256, v % 256] := by rw [be_cons 1, be_cons 0]; simp [be]
theorem rdN1 (l : List Int) (a e : Int) : rdN l 1 a e = rd1 l 1 a e := by unfold rdN; rw [if_neg (by decide)]
theorem rdN2 (l : List Int) (a e : Int) : rdN l 2 a e = rd1 l 2 a e := by unfold rdN; rw [if_neg (by decide)]
theorem rdN8 (l : List Int) (a e : Int) : rdN l 8 a e = rd8 l a e := by unfold rdN; rw [if_pos rfl]
theorem two_put (A C : List Int) (v : Int) (h0 : 0 ≤ v) (h1 : v ≤ 65535) : rd1 (A ++ (be 2 v ++ C)) 2 (A.length : Int) 0 = (v, ((A.length + 2 : Nat) : Int), 0) := by
 have g := get_in_mid A C v 2 (by omega) (by omega) h0 (by rw [show (256 : Int) ^ 2 = 65536 by decide]; omega)
 unfold rd1 rdStep
 simp only [show ((2 : Nat) : Int) = 2 from rfl] at g
 simp only [g, if_true, Prod.mk.injEq, true_and, and_true]
 omega
theorem two_was (l : List Int) (hB : Bytes l) (p v p2 : Int) (h : rd1 l 2 p 0 = (v, p2, 0)) : (0 ≤ p ∧ p + 2 ≤ l.length) ∧ p2 = p + 2 ∧ be 2 v = (l.drop p.toNat).take 2 ∧ 0 ≤ v ∧ v ≤ 65535 := by
 unfold rd1 rdStep at h
 rw [if_pos rfl] at h
 split at h
 ·rename_i h0
  have w := get_was l hB p 2 (by omega) (by omega) h0
  rw [show ((2 : Nat) : Int) = 2 from rfl] at w
  simp only [Prod.mk.injEq, and_true] at h
  obtain ⟨rfl, rfl⟩ := h
  obtain ⟨r, a, b, c, d⟩ := w
  rw [show (256 : Int) ^ 2 = 65536 by decide] at d
  exact ⟨r, a, b, c, by omega⟩
 ·rename_i h0
  exact absurd (congrArg (fun z => z.2.2) h) h0
theorem rdH_put (F M : List Int) (n : Bool) (a b c d e : Int) (h : RH n a b c d e) : rdH (F ++ (hB9 n a b c d e ++ M)) (F.length : Int) 0 = (n, a, b, c, d, e, (F.length : Int) + (hB9 n a b c d e).length, 0) := by
 unfold rdH
 rw [if_pos rfl, hp_put F M n a b c d e h, if_pos rfl]
theorem rdH_was (l : List Int) (hB : Bytes l) (p : Int) (n : Bool) (a b c d e i : Int) (h : rdH l p 0 = (n, a, b, c, d, e, i, 0)) :
  RH n a b c d e ∧ 0 ≤ p ∧ i = p + (hB9 n a b c d e).length ∧ i ≤ l.length ∧ hB9 n a b c d e = (l.drop p.toNat).take (hB9 n a b c d e).length := by
 unfold rdH at h
 rw [if_pos rfl] at h
 split at h
 ·exact hp_was l hB p n a b c d e i h
 ·rename_i h0
  exact absurd (congrArg (fun z => z.2.2.2.2.2.2.2) h) h0
theorem rdH_stay {l : List Int} {a e0 : Int} {n : Bool} {a1 b1 c1 d1 i1 p e : Int} (h0 : ¬ e0 = 0) (h : rdH l a e0 = (n, a1, b1, c1, d1, i1, p, e)) : e = e0 := by
 unfold rdH at h
 rw [if_neg h0] at h
 simp only [Prod.mk.injEq] at h
 exact h.2.2.2.2.2.2.2.symm
theorem oB9_length (a0 a1 : Int) (a2 : Bool) (a3 a4 a5 a6 a7 a8 a9 a10 a11 : Int) : 2 ≤ (oB9 a0 a1 a2 a3 a4 a5 a6 a7 a8 a9 a10 a11).length ∧ (oB9 a0 a1 a2 a3 a4 a5 a6 a7 a8 a9 a10 a11).length ≤ 24 := by
 have hl := hB9_length a2 a3 a4 a5 a6 a7
 have hl2 : (hB9 a2 a3 a4 a5 a6 a7).length ≤ 20 := by rw [hl]; split <;> omega
 unfold oB9
 rw [List.length_append]
 split
 ·simp
 split
 ·simp [intSpec, be_length]
 split
 ·simp only [List.length_append, List.length_cons, List.length_nil]; omega
 ·simp only [List.length_cons, List.length_nil]; omega
theorem op_put (F M : List Int) (a0 a1 : Int) (a2 : Bool) (a3 a4 a5 a6 a7 a8 a9 a10 a11 : Int) (h : RO a0 a1 a2 a3 a4 a5 a6 a7 a8 a9 a10 a11) :
  opGo (F ++ (oB9 a0 a1 a2 a3 a4 a5 a6 a7 a8 a9 a10 a11 ++ M)) (F.length : Int) = (a0, a1, a2, a3, a4, a5, a6, a7, a8, a9, a10, a11, (F.length : Int) + (oB9 a0 a1 a2 a3 a4 a5 a6 a7 a8 a9 a10 a11).length, 0) := by
 have hh := h
 obtain ⟨⟨d0, d1⟩, hk⟩ := h
 have hi : ∀ v, (intSpec v).length = 8 := fun v => be_length _ _
 have key : ∀ T : List Int, (a0 = 1 ∨ a0 = 2 ∨ a0 = 3 ∨ a0 = 4) → opGo (F ++ ([a0 % 256, a1 % 256] ++ T)) (F.length : Int) = opSw (F ++ ([a0 % 256, a1 % 256] ++ T)) a0 a1 ((F.length + 2 : Nat) : Int) 0 := by
  intro T h4
  have g0 := one_put F ([a1 % 256] ++ T) a0 (by omega) (by omega)
  have g1 := one_put (F ++ [a0 % 256]) T a1 (by omega) (by omega)
  have x0 : F ++ ([a0 % 256] ++ ([a1 % 256] ++ T)) = F ++ ([a0 % 256, a1 % 256] ++ T) := by simp
  have x1 : F ++ [a0 % 256] ++ ([a1 % 256] ++ T) = F ++ ([a0 % 256, a1 % 256] ++ T) := by simp
  rw [x0] at g0
  rw [x1, List.length_append, List.length_singleton] at g1
  unfold opGo
  have he : opErr a0 0 = 0 := by unfold opErr; rw [if_pos rfl, if_neg (by omega)]
  simp only [rdN1, g0, he, g1]
 rcases hk with ⟨rfl, ⟨rfl, rfl, rfl⟩, ⟨rfl, rfl, rfl, rfl, rfl, rfl⟩, rfl⟩ | ⟨rfl, ⟨rfl, rfl, rfl⟩, rfl, hr⟩ | ⟨rfl, ⟨rfl, rfl, rfl, rfl, rfl, rfl⟩, rfl, hr⟩ | ⟨rfl, ⟨rfl, rfl, rfl⟩, m0, m1, hr, rfl⟩
 ·have e : oB9 1 a1 false 0 0 0 0 0 0 0 0 0 ++ M = [(1 : Int) % 256, a1 % 256] ++ M := by unfold oB9; rw [if_pos rfl, List.append_nil]
  have hl : (oB9 1 a1 false 0 0 0 0 0 0 0 0 0).length = 2 := by unfold oB9; rw [if_pos rfl]; rfl
  rw [e, key _ (by omega), hl]
  unfold opSw
  rw [if_neg (by decide), if_neg (by decide), if_neg (by decide)]
  unfold opFin
  rw [if_pos rfl, if_pos hh]
  simp only [Prod.mk.injEq, true_and, and_true]
  omega
 ·have e : oB9 2 a1 a2 a3 a4 a5 a6 a7 0 0 0 0 ++ M = [(2 : Int) % 256, a1 % 256] ++ (hB9 a2 a3 a4 a5 a6 a7 ++ M) := by unfold oB9; rw [if_neg (by decide), if_neg (by decide), if_neg (by decide), List.append_assoc]
  have hl : (oB9 2 a1 a2 a3 a4 a5 a6 a7 0 0 0 0).length = 2 + (hB9 a2 a3 a4 a5 a6 a7).length := by unfold oB9; rw [if_neg (by decide), if_neg (by decide), if_neg (by decide), List.length_append]; rfl
  have g := rdH_put (F ++ [(2 : Int) % 256, a1 % 256]) M a2 a3 a4 a5 a6 a7 hr
  rw [List.append_assoc, List.length_append] at g
  rw [e, key _ (by omega), hl]
  unfold opSw
  rw [if_pos rfl]
  rw [show F.length + [(2 : Int) % 256, a1 % 256].length = F.length + 2 from rfl] at g
  simp only [g]
  unfold opFin
  rw [if_pos rfl, if_pos hh]
  simp only [Prod.mk.injEq, true_and, and_true]
  omega
 ·have e : oB9 3 a1 false 0 0 0 0 0 a8 a9 a10 0 ++ M = [(3 : Int) % 256, a1 % 256] ++ (intSpec a8 ++ ([a9 % 256] ++ ([a10 % 256] ++ M))) := by unfold oB9; rw [if_neg (by decide), if_pos rfl]; simp
  have hl : (oB9 3 a1 false 0 0 0 0 0 a8 a9 a10 0).length = 12 := by unfold oB9; rw [if_neg (by decide), if_pos rfl]; simp [hi]
  obtain ⟨_, hr⟩ := hr
  rcases hr with ⟨q, _⟩ | ⟨_, t0, t1, o0, o1, r0, r1, _, _⟩
  ·exact absurd q (by decide)
  have g1 := eight_put (F ++ [(3 : Int) % 256, a1 % 256]) ([a9 % 256] ++ ([a10 % 256] ++ M)) a8 (by omega) (by omega)
  have g2 := one_put (F ++ [(3 : Int) % 256, a1 % 256] ++ intSpec a8) ([a10 % 256] ++ M) a9 (by omega) (by omega)
  have g3 := one_put (F ++ [(3 : Int) % 256, a1 % 256] ++ intSpec a8 ++ [a9 % 256]) M a10 (by omega) (by omega)
  rw [e, key _ (by omega), hl]
  simp only [List.append_assoc, List.length_append, List.length_singleton, hi] at g1 g2 g3
  rw [show [(3 : Int) % 256, a1 % 256].length = 2 from rfl] at g1 g2 g3
  generalize F ++ ([(3 : Int) % 256, a1 % 256] ++ (intSpec a8 ++ ([a9 % 256] ++ ([a10 % 256] ++ M)))) = l at g1 g2 g3 ⊢
  unfold opSw
  rw [if_neg (by decide), if_pos rfl]
  simp only [Nat.add_assoc, Nat.reduceAdd] at g1 g2 g3
  simp only [rdN8, rdN1, g1, g2, g3]
  unfold opFin
  rw [if_pos rfl, if_pos hh]
  simp only [Prod.mk.injEq, true_and, and_true]
  omega
 ·have e : oB9 4 a1 false a3 a4 a5 a6 a7 0 0 0 a11 ++ M = [(4 : Int) % 256, a1 % 256] ++ (hB9 false a3 a4 a5 a6 a7 ++ (be 2 a11 ++ M)) := by unfold oB9; rw [if_neg (by decide), if_neg (by decide), if_pos rfl, be2']; simp
  have hb20 : (hB9 false a3 a4 a5 a6 a7).length = 20 := by rw [hB9_length]; rfl
  have hl : (oB9 4 a1 false a3 a4 a5 a6 a7 0 0 0 a11).length = 24 := by unfold oB9; rw [if_neg (by decide), if_neg (by decide), if_pos rfl]; simp [hb20]
  have g := rdH_put (F ++ [(4 : Int) % 256, a1 % 256]) (be 2 a11 ++ M) false a3 a4 a5 a6 a7 hr
  have g2 := two_put (F ++ [(4 : Int) % 256, a1 % 256] ++ hB9 false a3 a4 a5 a6 a7) M a11 m0 m1
  rw [e, key _ (by omega), hl]
  simp only [List.append_assoc, List.length_append, hb20] at g g2
  rw [show [(4 : Int) % 256, a1 % 256].length = 2 from rfl] at g g2
  generalize F ++ ([(4 : Int) % 256, a1 % 256] ++ (hB9 false a3 a4 a5 a6 a7 ++ (be 2 a11 ++ M))) = l at g g2 ⊢
  rw [show ((F.length + 2 : Nat) : Int) + ((20 : Nat) : Int) = ((F.length + (2 + 20) : Nat) : Int) by omega] at g
  unfold opSw
  rw [if_neg (by decide), if_neg (by decide), if_pos rfl]
  simp only [g, rdN2, g2]
  unfold opFin
  rw [if_pos rfl, if_pos hh]
  simp only [Prod.mk.injEq, true_and, and_true]
  omega
theorem opFin_ok {k d : Int} {n : Bool} {a b c_ dd i x y z m p e : Int} {r1 r2 : Int} {r3 : Bool} {r4 r5 r6 r7 r8 r9 r10 r11 r12 r13 : Int} (h : opFin k d n a b c_ dd i x y z m p e = (r1, r2, r3, r4, r5, r6, r7, r8, r9, r10, r11, r12, r13, 0)) :
  e = 0 ∧ RO k d n a b c_ dd i x y z m ∧ k = r1 ∧ d = r2 ∧ n = r3 ∧ a = r4 ∧ b = r5 ∧ c_ = r6 ∧ dd = r7 ∧ i = r8 ∧ x = r9 ∧ y = r10 ∧ z = r11 ∧ m = r12 ∧ p = r13 := by
 unfold opFin at h
 split at h
 ·rename_i h0
  split at h
  ·rename_i hr
   simp only [Prod.mk.injEq, and_true] at h
   exact ⟨h0, hr, h⟩
  ·unfold opNo at h
   exact absurd (congrArg (fun t => t.2.2.2.2.2.2.2.2.2.2.2.2.2) h) (show ¬ (4 : Int) = 0 by decide)
 ·rename_i h0
  unfold opNo at h
  exact absurd (congrArg (fun t => t.2.2.2.2.2.2.2.2.2.2.2.2.2) h) h0
theorem op_was (l : List Int) (hB : Bytes l) (p : Int) (r1 r2 : Int) (r3 : Bool) (r4 r5 r6 r7 r8 r9 r10 r11 r12 r13 : Int) (h : opGo l p = (r1, r2, r3, r4, r5, r6, r7, r8, r9, r10, r11, r12, r13, 0)) :
  RO r1 r2 r3 r4 r5 r6 r7 r8 r9 r10 r11 r12 ∧ 0 ≤ p ∧ r13 = p + (oB9 r1 r2 r3 r4 r5 r6 r7 r8 r9 r10 r11 r12).length ∧ r13 ≤ l.length ∧ oB9 r1 r2 r3 r4 r5 r6 r7 r8 r9 r10 r11 r12 = (l.drop p.toNat).take (oB9 r1 r2 r3 r4 r5 r6 r7 r8 r9 r10 r11 r12).length := by
 unfold opGo at h
 obtain ⟨k, p1, e1, hk⟩ : ∃ k p1 e1, rdN l 1 p 0 = (k, p1, e1) := ⟨_, _, _, rfl⟩
 simp only [hk] at h
 obtain ⟨d, p2, e2, hd⟩ : ∃ d p2 e2, rdN l 1 p1 (opErr k e1) = (d, p2, e2) := ⟨_, _, _, rfl⟩
 simp only [hd] at h
 have first_ : e2 = 0 → (e1 = 0 ∧ ¬ (k < 1 ∨ 4 < k)) ∧ (0 ≤ p ∧ p2 = p + 2 ∧ p + 2 ≤ l.length) ∧ [k % 256, d % 256] = (l.drop p.toNat).take 2 := by
  intro h0
  have hz : opErr k e1 = 0 := by
   by_cases c0 : opErr k e1 = 0
   ·exact c0
   ·exact absurd (rdN_stay c0 hd) (by omega)
  have he : e1 = 0 ∧ ¬ (k < 1 ∨ 4 < k) := by
   unfold opErr at hz
   split at hz
   ·rename_i q
    refine ⟨q, fun q2 => ?_⟩
    rw [if_pos q2] at hz
    omega
   ·rename_i q
    exact absurd hz q
  obtain ⟨q1, q2⟩ := he
  subst q1 h0
  rw [hz] at hd
  rw [rdN1] at hk hd
  obtain ⟨a1, rfl, b1, _, _⟩ := one_was l hB p k p1 hk
  obtain ⟨a2, rfl, b2, _, _⟩ := one_was l hB (p + 1) d p2 hd
  refine ⟨⟨rfl, q2⟩, ⟨by omega, by omega, by omega⟩, ?_⟩
  rw [show (2 : Nat) = 1 + 1 from rfl, seg_add, ← b1, show p.toNat + 1 = (p + 1).toNat by omega, ← b2]
  rfl
 have hi : ∀ v, (intSpec v).length = 8 := fun v => be_length _ _
 unfold opSw at h
 split at h
 ·rename_i k2
  obtain ⟨n, a, b, c_, dd, i, p3, e3, hh⟩ : ∃ n a b c d i p e, rdH l p2 e2 = (n, a, b, c, d, i, p, e) := ⟨_, _, _, _, _, _, _, _, rfl⟩
  simp only [hh] at h
  obtain ⟨h0, hr, rfl, rfl, rfl, rfl, rfl, rfl, rfl, rfl, rfl, rfl, rfl, rfl, rfl⟩ := opFin_ok h
  subst h0
  have e20 : e2 = 0 := by
   by_cases c0 : e2 = 0
   ·exact c0
   ·exact absurd (rdH_stay c0 hh) (by omega)
  obtain ⟨_, ⟨f1, rfl, f3⟩, fb⟩ := first_ e20
  rw [e20] at hh
  obtain ⟨hrh, _, g2, g3, g4⟩ := rdH_was l hB (p + 2) _ _ _ _ _ _ _ hh
  have e : oB9 k d n a b c_ dd i 0 0 0 0 = [k % 256, d % 256] ++ hB9 n a b c_ dd i := by unfold oB9; rw [if_neg (by omega), if_neg (by omega), if_neg (by omega)]
  rw [e, List.length_append, show [k % 256, d % 256].length = 2 from rfl]
  refine ⟨hr, f1, by omega, by omega, ?_⟩
  rw [seg_add, ← fb, show p.toNat + 2 = (p + 2).toNat by omega, ← g4]
 split at h
 ·rename_i k2 k3
  obtain ⟨x, p3, e3, hx⟩ : ∃ x p e, rdN l 8 p2 e2 = (x, p, e) := ⟨_, _, _, rfl⟩
  simp only [hx] at h
  obtain ⟨y, p4, e4, hy⟩ : ∃ x p e, rdN l 1 p3 e3 = (x, p, e) := ⟨_, _, _, rfl⟩
  simp only [hy] at h
  obtain ⟨z, p5, e5, hz⟩ : ∃ x p e, rdN l 1 p4 e4 = (x, p, e) := ⟨_, _, _, rfl⟩
  simp only [hz] at h
  obtain ⟨h0, hr, rfl, rfl, rfl, rfl, rfl, rfl, rfl, rfl, rfl, rfl, rfl, rfl, rfl⟩ := opFin_ok h
  subst h0
  have e40 : e4 = 0 := by
   by_cases c0 : e4 = 0
   ·exact c0
   ·exact absurd (rdN_stay c0 hz) (by omega)
  subst e40
  have e30 : e3 = 0 := by
   by_cases c0 : e3 = 0
   ·exact c0
   ·exact absurd (rdN_stay c0 hy) (by omega)
  subst e30
  have e20 : e2 = 0 := by
   by_cases c0 : e2 = 0
   ·exact c0
   ·exact absurd (rdN_stay c0 hx) (by omega)
  obtain ⟨_, ⟨f1, rfl, f3⟩, fb⟩ := first_ e20
  subst e20
  rw [rdN8] at hx
  rw [rdN1] at hy hz
  obtain ⟨a1, rfl, b1, _, _⟩ := eight_was l hB (p + 2) x p3 hx
  obtain ⟨a2, rfl, b2, _, _⟩ := one_was l hB (p + 2 + 8) y p4 hy
  obtain ⟨a3, rfl, b3, _, _⟩ := one_was l hB (p + 2 + 8 + 1) z p5 hz
  have e : oB9 k d false 0 0 0 0 0 x y z 0 = [k % 256, d % 256] ++ (intSpec x ++ ([y % 256] ++ [z % 256])) := by unfold oB9; rw [if_neg (by omega), if_pos k3]; simp
  have hl : ([k % 256, d % 256] ++ (intSpec x ++ ([y % 256] ++ [z % 256]))).length = 2 + (8 + (1 + 1)) := by simp [hi]
  rw [e, hl]
  refine ⟨hr, f1, by omega, by omega, ?_⟩
  rw [seg_add l p.toNat 2, seg_add l (p.toNat + 2) 8, seg_add l (p.toNat + 2 + 8) 1]
  rw [← fb, show p.toNat + 2 = (p + 2).toNat by omega, ← b1, show (p + 2).toNat + 8 = (p + 2 + 8).toNat by omega, ← b2, show (p + 2 + 8).toNat + 1 = (p + 2 + 8 + 1).toNat by omega, ← b3]
 split at h
 ·rename_i k2 k3 k4
  obtain ⟨n, a, b, c_, dd, i, p3, e3, hh⟩ : ∃ n a b c d i p e, rdH l p2 e2 = (n, a, b, c, d, i, p, e) := ⟨_, _, _, _, _, _, _, _, rfl⟩
  simp only [hh] at h
  obtain ⟨m, p4, e4, hm⟩ : ∃ x p e, rdN l 2 p3 e3 = (x, p, e) := ⟨_, _, _, rfl⟩
  simp only [hm] at h
  obtain ⟨h0, hr, rfl, rfl, rfl, rfl, rfl, rfl, rfl, rfl, rfl, rfl, rfl, rfl, rfl⟩ := opFin_ok h
  subst h0
  have e30 : e3 = 0 := by
   by_cases c0 : e3 = 0
   ·exact c0
   ·exact absurd (rdN_stay c0 hm) (by omega)
  subst e30
  have e20 : e2 = 0 := by
   by_cases c0 : e2 = 0
   ·exact c0
   ·exact absurd (rdH_stay c0 hh) (by omega)
  obtain ⟨_, ⟨f1, rfl, f3⟩, fb⟩ := first_ e20
  rw [e20] at hh
  rw [rdN2] at hm
  obtain ⟨hrh, _, g2, g3, g4⟩ := rdH_was l hB (p + 2) _ _ _ _ _ _ _ hh
  obtain ⟨a3, rfl, b3, _, _⟩ := two_was l hB p3 m p4 hm
  have e : oB9 k d n a b c_ dd i 0 0 0 m = [k % 256, d % 256] ++ (hB9 n a b c_ dd i ++ be 2 m) := by unfold oB9; rw [if_neg (by omega), if_neg (by omega), if_pos k4, be2']
  rw [e, List.length_append, List.length_append, be_length, show [k % 256, d % 256].length = 2 from rfl]
  refine ⟨hr, f1, by omega, by omega, ?_⟩
  rw [seg_add l p.toNat 2, seg_add l (p.toNat + 2) (hB9 n a b c_ dd i).length, ← fb, show p.toNat + 2 = (p + 2).toNat by omega, ← g4, show (p + 2).toNat + (hB9 n a b c_ dd i).length = p3.toNat by omega, ← b3]
 ·rename_i k2 k3 k4
  obtain ⟨h0, hr, rfl, rfl, rfl, rfl, rfl, rfl, rfl, rfl, rfl, rfl, rfl, rfl, rfl⟩ := opFin_ok h
  obtain ⟨⟨_, f0⟩, ⟨f1, rfl, f3⟩, fb⟩ := first_ h0
  have k1 : k = 1 := by omega
  have e : oB9 k d false 0 0 0 0 0 0 0 0 0 = [k % 256, d % 256] := by unfold oB9; rw [if_pos k1, List.append_nil]
  rw [e]
  exact ⟨hr, f1, by show p + 2 = p + ((2 : Nat) : Int); omega, by omega, fb⟩
theorem oparse_eq (l : List Int) (a : Int) (hB : Bytes l) (hl : l.length ≤ 1000000000000) : object_Parse.f l a = some (opGo l a) := by
 unfold object_Parse.f
 rw [if_pos ⟨hl, hB⟩]
def hB (n : Bool) (a b c d e : Int) : List Int := if n = true then [0, e % 256] else [1] ++ intSpec a ++ [b % 256, c % 256] ++ intSpec d ++ [e % 256]
theorem hB_length (n : Bool) (a b c d e : Int) : (hB n a b c d e).length = if n = true then 2 else 20 := by
 unfold hB
 cases n
 ·simp only [Bool.false_eq_true, if_false, List.length_append, intSpec_length, List.length_cons, List.length_nil]
 ·rfl
theorem hb_eq (n : Bool) (a b c d e : Int) (h : RH n a b c d e) : Ev (fun k => height_Bytes.f k n a b c d e) (hB n a b c d e, 0) := by
 have hc := hc_eq n a b c d e
 rw [if_pos h] at hc
 unfold height_Bytes.f hB
 refine Ev.bind hc ?_
 cases n with
 | true =>
  simp only [if_true, List.length_nil, List.nil_append, Option.bind_some, List.length_singleton]
  simp only [show (0 : Nat) < 140737488355328 by decide, show (1 : Nat) < 140737488355328 by decide, if_true]
  exact Ev.now _
 | false =>
  simp only [if_true, Bool.false_eq_true, if_false, List.length_nil, List.nil_append, Option.bind_some, List.length_singleton, wire_Int_eq, List.length_append, intSpec_length, List.length_cons]
  simp only [show (0 : Nat) < 140737488355328 by decide, Nat.reduceAdd, Nat.reduceLT, if_true]
  exact Ev.now _
def oB (a0 a1 : Int) (a2 : Bool) (a3 a4 a5 a6 a7 a8 a9 a10 a11 : Int) : List Int :=
 [a0 % 256, a1 % 256] ++ (if a0 = 1 then [] else if a0 = 3 then intSpec a8 ++ [a9 % 256, a10 % 256] else if a0 = 4 then hB a2 a3 a4 a5 a6 a7 ++ [a11 / 256 % 256, a11 % 256] else hB a2 a3 a4 a5 a6 a7)
theorem obx (a0 a1 : Int) (a2 : Bool) (a3 a4 a5 a6 a7 a8 a9 a10 a11 : Int) (h : RO a0 a1 a2 a3 a4 a5 a6 a7 a8 a9 a10 a11) :
  Ev (fun k => object_Bytes.f k a0 a1 a2 a3 a4 a5 a6 a7 a8 a9 a10 a11) (oB a0 a1 a2 a3 a4 a5 a6 a7 a8 a9 a10 a11, 0) := by
 have hc := oc_eq a0 a1 a2 a3 a4 a5 a6 a7 a8 a9 a10 a11
 rw [if_pos h] at hc
 unfold object_Bytes.f
 refine Ev.bind hc ?_
 simp only [if_true, Option.bind_some]
 rcases h.2 with ⟨rfl, _⟩ | ⟨rfl, _, _, hh⟩ | ⟨rfl, _⟩ | ⟨rfl, _, _, _, hh, rfl⟩
 ·simp only [if_neg (show ¬ (1 : Int) = 2 by decide), show ((1 : Int) == 4) = false by decide]
  refine Ev.step (f := fun k => _) (fun k => by simp only [object_Bytes.j0]; rfl) ?_
  simp only [Bool.false_eq_true, if_false, if_neg (show ¬ (1 : Int) = 3 by decide), if_neg (show ¬ (1 : Int) = 4 by decide)]
  exact Ev.now _
 ·simp only [show ((2 : Int) == 2) = true by decide, if_true]
  refine Ev.step (f := fun k => _) (fun k => by simp only [object_Bytes.j0]; rfl) ?_
  simp only [if_true]
  refine Ev.bind (hb_eq _ _ _ _ _ _ hh) ?_
  have hl := hB_length a2 a3 a4 a5 a6 a7
  have : [2 % 256, a1 % 256].length + (hB a2 a3 a4 a5 a6 a7).length < 140737488355328 := by rw [hl]; simp; split <;> omega
  simp only [if_true, if_pos this, Option.bind_some, if_neg (show ¬ (2 : Int) = 4 by decide)]
  exact Ev.now _
 ·simp only [if_neg (show ¬ (3 : Int) = 2 by decide), show ((3 : Int) == 4) = false by decide]
  refine Ev.step (f := fun k => _) (fun k => by simp only [object_Bytes.j0]; rfl) ?_
  simp only [Bool.false_eq_true, if_false, if_true, wire_Int_eq, Option.bind_some, List.length_append, intSpec_length, List.length_cons, List.length_nil, Nat.reduceAdd, Nat.reduceLT, if_neg (show ¬ (3 : Int) = 4 by decide)]
  refine ev_eq (Ev.now _) ?_
  unfold oB
  rw [if_neg (show ¬ (3 : Int) = 1 by decide), if_pos rfl, List.append_assoc]
 ·simp only [if_neg (show ¬ (4 : Int) = 2 by decide), show ((4 : Int) == 4) = true by decide]
  refine Ev.step (f := fun k => _) (fun k => by simp only [object_Bytes.j0]; rfl) ?_
  simp only [if_true]
  refine Ev.bind (hb_eq _ _ _ _ _ _ hh) ?_
  have h20 : (hB false a3 a4 a5 a6 a7).length = 20 := by rw [hB_length]; rfl
  simp only [List.length_append, List.length_cons, List.length_nil, h20, Nat.reduceAdd, Nat.reduceLT, if_true, Option.bind_some]
  refine ev_eq (Ev.now _) ?_
  unfold oB
  rw [if_neg (show ¬ (4 : Int) = 1 by decide), if_neg (show ¬ (4 : Int) = 3 by decide), if_pos rfl, List.append_assoc]
theorem obn (a0 a1 : Int) (a2 : Bool) (a3 a4 a5 a6 a7 a8 a9 a10 a11 : Int) (h : ¬ RO a0 a1 a2 a3 a4 a5 a6 a7 a8 a9 a10 a11) :
  Ev (fun k => object_Bytes.f k a0 a1 a2 a3 a4 a5 a6 a7 a8 a9 a10 a11) ([], 1) := by
 have hc := oc_eq a0 a1 a2 a3 a4 a5 a6 a7 a8 a9 a10 a11
 rw [if_neg h] at hc
 exact ob_no _ _ _ _ _ _ _ _ _ _ _ _ _ hc (by decide)
theorem oB_bytes (a0 a1 : Int) (a2 : Bool) (a3 a4 a5 a6 a7 a8 a9 a10 a11 : Int) : Bytes (oB a0 a1 a2 a3 a4 a5 a6 a7 a8 a9 a10 a11) := by
 have hm : ∀ x : Int, 0 ≤ x % 256 ∧ x % 256 ≤ 255 := fun x => by omega
 have hi : ∀ v, Bytes (intSpec v) := fun v => be_bytes _ _
 have hh : Bytes (hB a2 a3 a4 a5 a6 a7) := by
  unfold hB
  intro x hx
  split at hx
  ·simp only [List.mem_cons, List.not_mem_nil, or_false] at hx
   rcases hx with rfl | rfl
   ·exact ⟨by decide, by decide⟩
   ·exact hm _
  ·simp only [List.mem_append, List.mem_cons, List.not_mem_nil, or_false] at hx
   rcases hx with (((rfl | hx) | rfl | rfl) | hx) | rfl
   ·exact ⟨by decide, by decide⟩
   ·exact hi _ _ hx
   ·exact hm _
   ·exact hm _
   ·exact hi _ _ hx
   ·exact hm _
 unfold oB
 intro x hx
 rw [List.mem_append] at hx
 rcases hx with hx | hx
 ·simp only [List.mem_cons, List.not_mem_nil, or_false] at hx
  rcases hx with rfl | rfl <;> exact hm _
 ·split at hx
  ·cases hx
  ·split at hx
   ·simp only [List.mem_append, List.mem_cons, List.not_mem_nil, or_false] at hx
    rcases hx with hx | rfl | rfl
    ·exact hi _ _ hx
    ·exact hm _
    ·exact hm _
   ·split at hx
    ·simp only [List.mem_append, List.mem_cons, List.not_mem_nil, or_false] at hx
     rcases hx with hx | rfl | rfl
     ·exact hh _ hx
     ·exact hm _
     ·exact hm _
    ·exact hh _ hx
theorem rows_get (rows : List (List Int)) (i : Int) (h0 : 0 ≤ i) (h1 : i < rows.length) : rows.drop i.toNat = rd_L7 rows i :: rows.drop (i + 1).toNat := by
 have hi : i.toNat < rows.length := by omega
 rw [List.drop_eq_getElem_cons hi, show (i + 1).toNat = i.toNat + 1 by omega]
 congr 1
 unfold rd_L7
 rw [List.getD_eq_getElem?_getD, List.getElem?_eq_getElem hi]
 rfl
theorem both_l0 (rows : List (List Int)) (hr : rows.length ≤ 1000) : ∀ (d : Nat) (i : Int) (acc : List Int), 0 ≤ i → (rows.length : Int) - i = d → acc.length + (rows.drop i.toNat).flatten.length < 140737488355328 →
  Ev (fun k => thalwegref01_Both.l0 k rows acc i) (acc ++ (rows.drop i.toNat).flatten) := by
 intro d
 induction d with
 | zero =>
  intro i acc h0 hd hl
  refine Ev.from 1 fun k => ?_
  simp only [thalwegref01_Both.l0]
  rw [if_neg (by omega), List.drop_eq_nil_of_le (by omega)]
  simp
 | succ d ih =>
  intro i acc h0 hd hl
  have h1 : i < (rows.length : Int) := by omega
  refine Ev.step (f := fun k => _) (fun k => by simp only [thalwegref01_Both.l0]; rfl) ?_
  rw [rows_get rows i h0 h1] at hl ⊢
  simp only [List.flatten_cons, List.length_append] at hl ⊢
  have hc : acc.length + (rd_L7 rows i).length < 140737488355328 := by omega
  simp only [if_pos h1, if_pos h0, if_pos hc, w64 (x := i + 1) (by omega) (by omega)]
  have := ih (i + 1) (acc ++ rd_L7 rows i) (by omega) (by omega) (by rw [List.length_append]; omega)
  rw [← List.append_assoc]
  exact this
theorem both_ev (rows : List (List Int)) (hr : rows.length ≤ 1000) (hl : rows.flatten.length < 140737488355328) : Ev (fun k => thalwegref01_Both.f k rows) rows.flatten := by
 unfold thalwegref01_Both.f
 have := both_l0 rows hr rows.length 0 [] (by omega) (by omega) (by simpa using hl)
 simpa using this
theorem bool_same0 {p q : Prop} [Decidable p] [Decidable q] (h : p ↔ q) : (decide p) = (decide q) := by
 by_cases hp : p
 ·rw [decide_eq_true hp, decide_eq_true (h.mp hp)]
 ·rw [decide_eq_false hp, decide_eq_false (fun hq => hp (h.mpr hq))]
end Go.Proofs.Ytfigbjjaffkidaa.P
namespace Go.Proofs.Ytfigbjjaffkidaa.P
open Go.RowKit YtfigbjjaffkidaaW.PrintWords YtfigbjjaffkidaaW.PrintLast YtfigbjjaffkidaaW.PrintMore
open Classical
theorem awake05 : Ev (fun k => thalweglaw05_awake.f k) true := Ev.of (fun k => thalweglaw05_awake.mono k) (k := 30) (by decide +kernel)
def OR (o : S45) : Prop := RO o.f0 o.f1 o.f2.f0 o.f2.f1 o.f2.f2 o.f2.f3 o.f2.f4 o.f2.f5 o.f3.f0 o.f3.f1 o.f3.f2 o.f4
def OB (o : S45) : List Int := oB o.f0 o.f1 o.f2.f0 o.f2.f1 o.f2.f2 o.f2.f3 o.f2.f4 o.f2.f5 o.f3.f0 o.f3.f1 o.f3.f2 o.f4
noncomputable def sz (o : S45) : Int := if OR o then ((OB o).length : Int) else 0
theorem sz_yes {o : S45} (h : OR o) : sz o = ((OB o).length : Int) := if_pos h
theorem sz_no {o : S45} (h : ¬ OR o) : sz o = 0 := if_neg h
theorem OB_length (o : S45) : 2 ≤ (OB o).length ∧ (OB o).length ≤ 24 := by
 unfold OB oB
 rw [List.length_append]
 have h := hB_length o.f2.f0 o.f2.f1 o.f2.f2 o.f2.f3 o.f2.f4 o.f2.f5
 have h2 : (hB o.f2.f0 o.f2.f1 o.f2.f2 o.f2.f3 o.f2.f4 o.f2.f5).length ≤ 20 := by rw [h]; split <;> omega
 simp only [List.length_cons, List.length_nil]
 split
 ·simp
 split
 ·simp [intSpec_length]
 split
 ·simp only [List.length_append, List.length_cons, List.length_nil]; omega
 ·omega
theorem sz_range (o : S45) : 0 ≤ sz o ∧ sz o ≤ 24 := by
 have := OB_length o
 by_cases h : OR o
 ·rw [sz_yes h]; omega
 ·rw [sz_no h]; omega
noncomputable def sums (l : List S45) : Int := (l.map sz).sum
theorem sums_nil : sums [] = 0 := rfl
theorem sums_cons (o : S45) (l : List S45) : sums (o :: l) = sz o + sums l := by simp [sums]
def Rights (l : List S45) : Prop := ∀ o ∈ l, OR o
theorem obs_get (l : List S45) (i : Int) (h0 : 0 ≤ i) (h1 : i < l.length) : l.drop i.toNat = rd_T45 l i :: l.drop (i + 1).toNat := by
 have hi : i.toNat < l.length := by omega
 rw [List.drop_eq_getElem_cons hi, show (i + 1).toNat = i.toNat + 1 by omega]
 congr 1
 unfold rd_T45
 rw [List.getD_eq_getElem?_getD, List.getElem?_eq_getElem hi]
 rfl
theorem obs_mem (l : List S45) (i : Int) (h0 : 0 ≤ i) (h1 : i < l.length) : rd_T45 l i ∈ l := by
 have := List.mem_of_mem_drop (l := l) (i := i.toNat) (a := rd_T45 l i) (by rw [obs_get l i h0 h1]; exact List.mem_cons_self)
 exact this
theorem size_ev (o : S45) : Ev (fun k => object_Size.f k o.f0 o.f1 o.f2.f0 o.f2.f1 o.f2.f2 o.f2.f3 o.f2.f4 o.f2.f5 o.f3.f0 o.f3.f1 o.f3.f2 o.f4) (sz o) := by
 by_cases h : OR o
 ·rw [sz_yes h]
  exact os_ev _ _ _ _ _ _ _ _ _ _ _ _ _ (obx _ _ _ _ _ _ _ _ _ _ _ _ h)
 ·rw [sz_no h]
  exact os_ev _ _ _ _ _ _ _ _ _ _ _ _ _ (obn _ _ _ _ _ _ _ _ _ _ _ _ h)
theorem wrong_ev (o : S45) : Ev (fun k => batch_wrong.f k o.f0 o.f1 o.f2.f0 o.f2.f1 o.f2.f2 o.f2.f3 o.f2.f4 o.f2.f5 o.f3.f0 o.f3.f1 o.f3.f2 o.f4) (decide (¬ OR o)) := by
 unfold batch_wrong.f
 by_cases h : OR o
 ·have hc := oc_eq o.f0 o.f1 o.f2.f0 o.f2.f1 o.f2.f2 o.f2.f3 o.f2.f4 o.f2.f5 o.f3.f0 o.f3.f1 o.f3.f2 o.f4
  rw [if_pos (show RO _ _ _ _ _ _ _ _ _ _ _ _ from h)] at hc
  refine Ev.bind hc (ev_eq (Ev.now _) ?_)
  rw [decide_eq_false (fun g => g h)]
  rfl
 ·have hc := oc_eq o.f0 o.f1 o.f2.f0 o.f2.f1 o.f2.f2 o.f2.f3 o.f2.f4 o.f2.f5 o.f3.f0 o.f3.f1 o.f3.f2 o.f4
  rw [if_neg (show ¬ RO _ _ _ _ _ _ _ _ _ _ _ _ from h)] at hc
  refine Ev.bind hc (ev_eq (Ev.now _) ?_)
  rw [decide_eq_true h]
  rfl
theorem index_l0 (l : List S45) (hn : l.length ≤ 100000) : ∀ (d : Nat) (i : Int), 0 ≤ i → (l.length : Int) - i = d → ∃ r : Int, Ev (fun k => api_Object_40.l0 k l (l.length : Int) i) r ∧ (r ≥ 0 ↔ ¬ Rights (l.drop i.toNat)) := by
 intro d
 induction d with
 | zero =>
  intro i h0 hd
  refine ⟨-1, Ev.from 1 fun k => ?_, ?_⟩
  ·simp only [api_Object_40.l0]
   rw [if_neg (by omega)]
  ·rw [List.drop_eq_nil_of_le (by omega)]
   constructor
   ·intro h; omega
   ·intro h; exact absurd (fun o ho => by cases ho) h
 | succ d ih =>
  intro i h0 hd
  have h1 : i < (l.length : Int) := by omega
  rw [obs_get l i h0 h1]
  by_cases h : OR (rd_T45 l i)
  ·obtain ⟨r, hr, hi⟩ := ih (i + 1) (by omega) (by omega)
   refine ⟨r, ?_, ?_⟩
   ·refine Ev.step (f := fun k => _) (fun k => by simp only [api_Object_40.l0]; rfl) ?_
    simp only [if_pos h1, if_pos h0]
    refine Ev.bind (wrong_ev (rd_T45 l i)) ?_
    simp only [decide_eq_false (fun g : ¬ OR (rd_T45 l i) => g h), Bool.false_eq_true, if_false, w64 (x := i + 1) (by omega) (by omega)]
    exact hr
   ·rw [hi]
    constructor
    ·intro g g2; exact g fun o ho => g2 o (List.mem_cons_of_mem _ ho)
    ·intro g g2
     refine g fun o ho => ?_
     rcases List.mem_cons.1 ho with rfl | ho
     ·exact h
     ·exact g2 o ho
  ·refine ⟨i, ?_, ?_⟩
   ·refine Ev.step (f := fun k => _) (fun k => by simp only [api_Object_40.l0]; rfl) ?_
    simp only [if_pos h1, if_pos h0]
    refine Ev.bind (wrong_ev (rd_T45 l i)) ?_
    simp only [decide_eq_true h, if_true]
    exact Ev.now _
   ·exact ⟨fun _ g => h (g _ List.mem_cons_self), fun _ => h0⟩
theorem contains_ev (l : List S45) (hn : l.length ≤ 100000) : Ev (fun k => api_Object_25.f k l) (decide (¬ Rights l)) := by
 obtain ⟨r, hr, hi⟩ := index_l0 l hn l.length 0 (by omega) (by omega)
 unfold api_Object_25.f
 refine Ev.bind (show Ev (fun k => api_Object_40.f k l) r from hr) (ev_eq (Ev.now _) ?_)
 exact bool_same0 hi
theorem bsize_l0 (l : List S45) (hn : l.length ≤ 100000) : ∀ (d : Nat) (i acc : Int), 0 ≤ i → (l.length : Int) - i = d → 0 ≤ acc → acc ≤ 3 + 24 * i → Ev (fun k => batch_size.l0 k acc l (l.length : Int) i) (acc + sums (l.drop i.toNat)) := by
 intro d
 induction d with
 | zero =>
  intro i acc h0 hd ha hb
  refine Ev.from 1 fun k => ?_
  simp only [batch_size.l0]
  rw [if_neg (by omega), List.drop_eq_nil_of_le (by omega), sums_nil, Int.add_zero]
 | succ d ih =>
  intro i acc h0 hd ha hb
  have h1 : i < (l.length : Int) := by omega
  have hz := sz_range (rd_T45 l i)
  refine Ev.step (f := fun k => _) (fun k => by simp only [batch_size.l0]; rfl) ?_
  rw [obs_get l i h0 h1, sums_cons, ← Int.add_assoc]
  simp only [if_pos h1, if_pos h0]
  refine Ev.bind (size_ev (rd_T45 l i)) ?_
  simp only [w64 (x := acc + sz (rd_T45 l i)) (by omega) (by omega), w64 (x := i + 1) (by omega) (by omega)]
  exact ih (i + 1) _ (by omega) (by omega) (by omega) (by omega)
theorem bsize_ev (l : List S45) (hn : l.length ≤ 100000) : Ev (fun k => batch_size.f k l) (3 + sums l) := by
 unfold batch_size.f
 exact bsize_l0 l hn l.length 0 3 (by omega) (by omega) (by omega) (by omega)
def RB (a : Int) (l : List S45) : Prop := (0 ≤ a ∧ a ≤ 65535) ∧ (1 ≤ l.length ∧ l.length ≤ 32) ∧ Rights l ∧ 3 + sums l ≤ 512
theorem bcheck_ev (a : Int) (l : List S45) : Ev (fun k => batch_Check.f k a l) (if RB a l then 0 else 1) := by
 unfold batch_Check.f
 by_cases h1 : a < 0
 ·simp only [if_pos h1, if_neg (show ¬ RB a l from fun h => by have := h.1; omega)]; exact Ev.now _
 by_cases h2 : a > 65535
 ·simp only [if_neg h1, if_pos h2, if_neg (show ¬ RB a l from fun h => by have := h.1; omega)]; exact Ev.now _
 by_cases h3 : (l.length : Int) = 0
 ·simp only [if_neg h1, if_neg h2, if_pos h3, if_neg (show ¬ RB a l from fun h => by have := h.2.1; omega)]; exact Ev.now _
 by_cases h4 : (l.length : Int) > 32
 ·simp only [if_neg h1, if_neg h2, if_neg h3, if_pos h4, if_neg (show ¬ RB a l from fun h => by have := h.2.1; omega)]; exact Ev.now _
 simp only [if_neg h1, if_neg h2, if_neg h3, if_neg h4]
 refine Ev.bind (contains_ev l (by omega)) ?_
 by_cases h5 : Rights l
 ·simp only [decide_eq_false (fun g : ¬ Rights l => g h5), Bool.false_eq_true, if_false]
  refine Ev.bind (bsize_ev l (by omega)) ?_
  by_cases h6 : 3 + sums l > 512
  ·simp only [if_pos h6, if_neg (show ¬ RB a l from fun h => by have := h.2.2.2; omega)]; exact Ev.now _
  ·simp only [if_neg h6, if_pos (show RB a l from ⟨by omega, by omega, h5, by omega⟩)]; exact Ev.now _
 ·simp only [decide_eq_true h5, if_true, if_neg (show ¬ RB a l from fun h => h5 h.2.2.1)]; exact Ev.now _
def bB (a : Int) (l : List S45) : List Int := [a / 256 % 256, a % 256, (l.length : Int) % 256] ++ l.flatMap OB
theorem bbytes_l0 (l : List S45) (hn : l.length ≤ 32) (hr : Rights l) : ∀ (d : Nat) (i : Int) (acc : List Int), 0 ≤ i → (l.length : Int) - i = d → (acc.length : Int) ≤ 3 + 24 * i → Ev (fun k => batch_Bytes.l0 k acc l (l.length : Int) i) (acc ++ (l.drop i.toNat).flatMap OB, 0) := by
 intro d
 induction d with
 | zero =>
  intro i acc h0 hd ha
  refine Ev.from 1 fun k => ?_
  simp only [batch_Bytes.l0]
  rw [if_neg (by omega), List.drop_eq_nil_of_le (by omega)]
  simp
 | succ d ih =>
  intro i acc h0 hd ha
  have h1 : i < (l.length : Int) := by omega
  have hz := OB_length (rd_T45 l i)
  refine Ev.step (f := fun k => _) (fun k => by simp only [batch_Bytes.l0]; rfl) ?_
  rw [obs_get l i h0 h1, List.flatMap_cons, ← List.append_assoc]
  simp only [if_pos h1, if_pos h0]
  refine Ev.bind (obx _ _ _ _ _ _ _ _ _ _ _ _ (hr _ (obs_mem l i h0 h1))) ?_
  have hl : acc.length + (OB (rd_T45 l i)).length < 140737488355328 := by omega
  simp only [if_true, w64 (x := i + 1) (by omega) (by omega)]
  rw [show oB (rd_T45 l i).f0 (rd_T45 l i).f1 (rd_T45 l i).f2.f0 (rd_T45 l i).f2.f1 (rd_T45 l i).f2.f2 (rd_T45 l i).f2.f3 (rd_T45 l i).f2.f4 (rd_T45 l i).f2.f5 (rd_T45 l i).f3.f0 (rd_T45 l i).f3.f1 (rd_T45 l i).f3.f2 (rd_T45 l i).f4 = OB (rd_T45 l i) from rfl]
  simp only [if_pos hl]
  exact ih (i + 1) _ (by omega) (by omega) (by rw [List.length_append]; omega)
theorem bbytes_ev (a : Int) (l : List S45) (h : RB a l) : Ev (fun k => batch_Bytes.f k a l) (bB a l, 0) := by
 have hc := bcheck_ev a l
 rw [if_pos h] at hc
 unfold batch_Bytes.f
 refine Ev.bind hc ?_
 simp only [if_true]
 have := bbytes_l0 l h.2.1.2 h.2.2.1 l.length 0 [a / 256 % 256, a % 256, (l.length : Int) % 256] (by omega) (by omega) (by simp)
 simpa [bB] using this
theorem bbytes_no (a : Int) (l : List S45) (h : ¬ RB a l) : Ev (fun k => batch_Bytes.f k a l) ([], 1) := by
 have hc := bcheck_ev a l
 rw [if_neg h] at hc
 unfold batch_Bytes.f
 refine Ev.bind hc ?_
 simp only [if_neg (show ¬ (1 : Int) = 0 by decide)]
 exact Ev.now _
theorem flat_length (l : List S45) (h : Rights l) : ((l.flatMap OB).length : Int) = sums l := by
 induction l with
 | nil => rfl
 | cons o l ih =>
  rw [List.flatMap_cons, List.length_append, sums_cons, sz_yes (h o List.mem_cons_self), ← ih (fun x hx => h x (List.mem_cons_of_mem _ hx))]
  omega
theorem bB_length (a : Int) (l : List S45) (h : Rights l) : ((bB a l).length : Int) = 3 + sums l := by
 have := flat_length l h
 simp only [bB, List.length_append, List.length_cons, List.length_nil]
 omega
theorem same_l0 (l : List S45) (h : l.length ≤ 100000) : ∀ (d : Nat) (i : Int), 0 ≤ i → (l.length : Int) - i = d → Ev (fun k => thalwegref04_Same.l0 k l l i) true := by
 intro d
 induction d with
 | zero =>
  intro i h0 hd
  refine Ev.from 1 fun k => ?_
  simp only [thalwegref04_Same.l0]
  rw [if_neg (by omega)]
 | succ d ih =>
  intro i h0 hd
  refine Ev.step (f := fun k => _) (fun k => by simp only [thalwegref04_Same.l0]; rfl) ?_
  simp only [if_pos (show i < (l.length : Int) by omega), if_pos h0, beq_self_eq_true, Bool.not_true, Bool.or_self, Bool.false_eq_true, if_false, w64 (x := i + 1) (by omega) (by omega)]
  exact ih (i + 1) (by omega) (by omega)
theorem same_ev (l : List S45) (h : l.length ≤ 100000) : Ev (fun k => thalwegref04_Same.f k l l) true := by
 unfold thalwegref04_Same.f
 simp only [if_true]
 exact same_l0 l h l.length 0 (by omega) (by omega)
end Go.Proofs.Ytfigbjjaffkidaa.P
namespace Go.Proofs.Ytfigbjjaffkidaa.P
open Go.RowKit YtfigbjjaffkidaaW.PrintWords YtfigbjjaffkidaaW.PrintLast YtfigbjjaffkidaaW.PrintMore
attribute [local go_sem] max2_int min2_int max_two min_two max_three min_three max_four min_four
def serial_Next.f (a0 : Int) : Option (Int) := some (wrap64 (IntKind.u16.wrap ((IntKind.u16.wrap (a0)) + 1)))
end Go.Proofs.Ytfigbjjaffkidaa.P
namespace Go.Proofs.Ytfigbjjaffkidaa.P
open Go.RowKit YtfigbjjaffkidaaW.PrintWords YtfigbjjaffkidaaW.PrintLast YtfigbjjaffkidaaW.PrintMore
open YtfigbjjaffkidaaW.PrintWords renaming below_alloc → YA, pw_below_drewN → YB, below_drew1 → YC, below_step → YD, below_size → YE, blk_drewN → YF, blk_drew → YG, blk_alloc → YH, blk_cell → YI, blk_frozen → YJ, blk_below → YK
open YtfigbjjaffkidaaW.PrintWords.Aside0 renaming mk → YL
open List renaming setIfInBounds_toArray → YM, set_cons_zero → YN, set_cons_succ → YO, map_toArray → YP, length_take → YQ, length_drop → YR
open YtfigbjjaffkidaaW.PrintWords.Kd renaming R_alloc → YS, R_drewN → YT, R_drew → YU, R_below → YV
attribute [local go_sem] max2_int min2_int max_two min_two max_three min_three max_four min_four
mutual
def batch_Pack.j0 : Nat → List (S45) → Int → Int → Bool → Option ((List (S24)) × Int)
 | 0, _, _, _, _ => none
 | k + 1, x0, x1, x2, x14 => if x14 = true then (some (([] : List (S24)), 1)) else (if (x0.length : Int) > 1024 then (some (([] : List (S24)), 2)) else (batch_Pack.l0 k x0 x2 ([] : List (S24)) (wrap64 (x2 - 3)) x0 (x0.length : Int) 0 (Go.bits .and .i64 x1 65535) ([] : List (S45))))
def batch_Pack.l0 : Nat → List (S45) → Int → List (S24) → Int → List (S45) → Int → Int → Int → List (S45) → Option ((List (S24)) × Int)
 | 0, _, _, _, _, _, _, _, _, _ => none
 | k + 1, x0, x2, x8, x10, x34, x35, x36, x354000, x354001 => if x36 < x35 then (if 0 ≤ x36 then (if x36 < (x34.length : Int) then ((object_Size.f k ((rd_T45 x34 x36).f0) ((rd_T45 x34 x36).f1) ((rd_T45 x34 x36).f2.f0) ((rd_T45 x34 x36).f2.f1) ((rd_T45 x34 x36).f2.f2) ((rd_T45 x34 x36).f2.f3) ((rd_T45 x34 x36).f2.f4) ((rd_T45 x34 x36).f2.f5) ((rd_T45 x34 x36).f3.f0) ((rd_T45 x34 x36).f3.f1) ((rd_T45 x34 x36).f3.f2) ((rd_T45 x34 x36).f4)).bind fun t359 => (if t359 ≤ x10 then (if (x354001.length : Int) < 32 then (if x36 < (x0.length : Int) then (if x354001.length < 1466015503701 then (batch_Pack.l0 k x0 x2 x8 (wrap64 (x10 - t359)) x34 x35 (wrap64 (x36 + 1)) x354000 (x354001 ++ [(⟨(rd_T45 x0 x36).f0, (rd_T45 x0 x36).f1, (⟨(rd_T45 x0 x36).f2.f0, (rd_T45 x0 x36).f2.f1, (rd_T45 x0 x36).f2.f2, (rd_T45 x0 x36).f2.f3, (rd_T45 x0 x36).f2.f4, (rd_T45 x0 x36).f2.f5⟩ : S41), (⟨(rd_T45 x0 x36).f3.f0, (rd_T45 x0 x36).f3.f1, (rd_T45 x0 x36).f3.f2⟩ : S43), (rd_T45 x0 x36).f4⟩ : S45)])) else (none)) else (none)) else (if x8.length < 4398046511104 then ((serial_Next.f x354000).bind fun t367 => (batch_Pack.l0 k x0 x2 (x8 ++ [(⟨x354000, x354001⟩ : S24)]) (wrap64 ((wrap64 (x2 - 3)) - t359)) x34 x35 (wrap64 (x36 + 1)) t367 (([(⟨(rd_T45 x34 x36).f0, (rd_T45 x34 x36).f1, (⟨(rd_T45 x34 x36).f2.f0, (rd_T45 x34 x36).f2.f1, (rd_T45 x34 x36).f2.f2, (rd_T45 x34 x36).f2.f3, (rd_T45 x34 x36).f2.f4, (rd_T45 x34 x36).f2.f5⟩ : S41), (⟨(rd_T45 x34 x36).f3.f0, (rd_T45 x34 x36).f3.f1, (rd_T45 x34 x36).f3.f2⟩ : S43), (rd_T45 x34 x36).f4⟩ : S45)] : List (S45))))) else (none))) else (if x8.length < 4398046511104 then ((serial_Next.f x354000).bind fun t374 => (batch_Pack.l0 k x0 x2 (x8 ++ [(⟨x354000, x354001⟩ : S24)]) (wrap64 ((wrap64 (x2 - 3)) - t359)) x34 x35 (wrap64 (x36 + 1)) t374 (([(⟨(rd_T45 x34 x36).f0, (rd_T45 x34 x36).f1, (⟨(rd_T45 x34 x36).f2.f0, (rd_T45 x34 x36).f2.f1, (rd_T45 x34 x36).f2.f2, (rd_T45 x34 x36).f2.f3, (rd_T45 x34 x36).f2.f4, (rd_T45 x34 x36).f2.f5⟩ : S41), (⟨(rd_T45 x34 x36).f3.f0, (rd_T45 x34 x36).f3.f1, (rd_T45 x34 x36).f3.f2⟩ : S43), (rd_T45 x34 x36).f4⟩ : S45)] : List (S45))))) else (none)))) else (none)) else (none)) else (if (x354001.length : Int) > 0 then (if x8.length < 4398046511104 then (some ((x8 ++ [(⟨x354000, x354001⟩ : S24)]), 0)) else (none)) else (some (x8, 0)))
end
def batch_Pack.f (k : Nat) (l0 : List (S45)) (a1 : Int) (a2 : Int) : Option ((List (S24)) × Int) := if a2 < 40 then (batch_Pack.j0 k l0 a1 a2 true) else (if a2 > 512 then (batch_Pack.j0 k l0 a1 a2 true) else ((api_Object_25.f k l0).bind fun t352 => (batch_Pack.j0 k l0 a1 a2 t352)))
def batch_Pack.T13 : Bool × List (List Nat × List Nat) := (true, [([], []), ([0], [0]), ([], []), ([], []), ([2, 3], [2, 3]), ([4], [4]), ([5], [5]), ([1, 6], [1, 6]), ([0, 1, 2, 3, 4, 5, 6, 7], []), ([8, 7, 7, 0, 1, 2, 3, 4, 5, 6, 7], [7, 8])])
def batch_Pack.B13 : List Nat := [0, 1, 0, 0, 12, 28, 60, 127, 255, 511]
end Go.Proofs.Ytfigbjjaffkidaa.P
namespace Go.Proofs.Ytfigbjjaffkidaa.P
open Go.RowKit YtfigbjjaffkidaaW.PrintWords YtfigbjjaffkidaaW.PrintLast YtfigbjjaffkidaaW.PrintMore
attribute [local go_sem] max2_int min2_int max_two min_two max_three min_three max_four min_four
def thalwegref03_Left.f (a0 : Int) : Option (Int) := if (Int.tmod a0 65536) < 0 then (some (wrap64 ((Int.tmod a0 65536) + 65536))) else (some (Int.tmod a0 65536))
def thalwegref03_Next.f (a0 : Int) : Option (Int) := (thalwegref03_Left.f a0).bind fun t378 => (some (Int.tmod (wrap64 (t378 + 1)) 65536))
end Go.Proofs.Ytfigbjjaffkidaa.P
namespace Go.Proofs.Ytfigbjjaffkidaa.P
open Go.RowKit YtfigbjjaffkidaaW.PrintWords YtfigbjjaffkidaaW.PrintLast YtfigbjjaffkidaaW.PrintMore
open YtfigbjjaffkidaaW.PrintWords renaming below_alloc → YA, pw_below_drewN → YB, below_drew1 → YC, below_step → YD, below_size → YE
open YtfigbjjaffkidaaW.PrintWords.Aside0 renaming mk → YF
open List renaming map_toArray → YG, length_take → YH, length_drop → YI
attribute [local go_sem] max2_int min2_int max_two min_two max_three min_three max_four min_four
mutual
def thalwegref05_Pack.j0 : Nat → List (S45) → Int → Int → Bool → Option ((List (S24)) × Int)
 | 0, _, _, _, _ => none
 | k + 1, x0, x1, x2, x22 => if x22 = true then (some (([] : List (S24)), 1)) else (if (x0.length : Int) > 1024 then (some (([] : List (S24)), 2)) else ((thalwegref03_Left.f x1).bind fun t380 => (thalwegref05_Pack.l0 k x0 x2 ([] : List (S24)) t380 0)))
def thalwegref05_Pack.l0 : Nat → List (S45) → Int → List (S24) → Int → Int → Option ((List (S24)) × Int)
 | 0, _, _, _, _, _ => none
 | k + 1, x0, x2, x8, x9, x10 => if x10 < (x0.length : Int) then (thalwegref05_Pack.l1 k x0 x2 x8 x9 x10 (wrap64 (x10 + 1))) else (some (x8, 0))
def thalwegref05_Pack.l1 : Nat → List (S45) → Int → List (S24) → Int → Int → Int → Option ((List (S24)) × Int)
 | 0, _, _, _, _, _, _ => none
 | k + 1, x0, x2, x8, x9, x10, x11 => if x11 < (x0.length : Int) then (if (wrap64 (x11 - x10)) < 32 then (if 0 ≤ x10 then (if x10 ≤ (wrap64 (x11 + 1)) then (if (wrap64 (x11 + 1)) ≤ (x0.length : Int) then ((thalwegref05_size.f k ((x0.take ((wrap64 (x11 + 1)) : Int).toNat).drop (x10 : Int).toNat)).bind fun t385 => (if t385 ≤ x2 then (thalwegref05_Pack.l1 k x0 x2 x8 x9 x10 (wrap64 (x11 + 1))) else (if x10 ≤ x11 then (if x11 ≤ (x0.length : Int) then ((thalwegref04_Own.f ((x0.take (x11 : Int).toNat).drop (x10 : Int).toNat)).bind fun t390 => (if x8.length < 4398046511104 then ((thalwegref03_Next.f x9).bind fun t396 => (thalwegref05_Pack.l0 k x0 x2 (x8 ++ [(⟨x9, t390⟩ : S24)]) t396 x11)) else (none))) else (none)) else (none)))) else (none)) else (none)) else (none)) else (if 0 ≤ x10 then (if x10 ≤ x11 then (if x11 ≤ (x0.length : Int) then ((thalwegref04_Own.f ((x0.take (x11 : Int).toNat).drop (x10 : Int).toNat)).bind fun t401 => (if x8.length < 4398046511104 then ((thalwegref03_Next.f x9).bind fun t407 => (thalwegref05_Pack.l0 k x0 x2 (x8 ++ [(⟨x9, t401⟩ : S24)]) t407 x11)) else (none))) else (none)) else (none)) else (none))) else (if 0 ≤ x10 then (if x10 ≤ x11 then (if x11 ≤ (x0.length : Int) then ((thalwegref04_Own.f ((x0.take (x11 : Int).toNat).drop (x10 : Int).toNat)).bind fun t412 => (if x8.length < 4398046511104 then ((thalwegref03_Next.f x9).bind fun t418 => (thalwegref05_Pack.l0 k x0 x2 (x8 ++ [(⟨x9, t412⟩ : S24)]) t418 x11)) else (none))) else (none)) else (none)) else (none))
end
def thalwegref05_Pack.f (k : Nat) (l0 : List (S45)) (a1 : Int) (a2 : Int) : Option ((List (S24)) × Int) := if a2 < 40 then (thalwegref05_Pack.j0 k l0 a1 a2 true) else (if a2 > 512 then (thalwegref05_Pack.j0 k l0 a1 a2 true) else ((thalwegref05_size.f k l0).bind fun t379 => (thalwegref05_Pack.j0 k l0 a1 a2 (decide (t379 < 0)))))
end Go.Proofs.Ytfigbjjaffkidaa.P
namespace Go.Proofs.Ytfigbjjaffkidaa.P
open Classical
open Go.RowKit YtfigbjjaffkidaaW.PrintWords YtfigbjjaffkidaaW.PrintLast YtfigbjjaffkidaaW.PrintMore
theorem bs_get (l : List S24) (i : Int) (h0 : 0 ≤ i) (h1 : i < l.length) : l.drop i.toNat = rd_T24 l i :: l.drop (i + 1).toNat := by
 have hi : i.toNat < l.length := by omega
 rw [List.drop_eq_getElem_cons hi, show (i + 1).toNat = i.toNat + 1 by omega]
 congr 1
 unfold rd_T24
 rw [List.getD_eq_getElem?_getD, List.getElem?_eq_getElem hi]
 rfl
theorem bs_mem (l : List S24) (i : Int) (h0 : 0 ≤ i) (h1 : i < l.length) : rd_T24 l i ∈ l := by
 have := List.mem_of_mem_drop (l := l) (i := i.toNat) (a := rd_T24 l i) (by rw [bs_get l i h0 h1]; exact List.mem_cons_self)
 exact this
theorem sames_l0 (l : List S24) (h : l.length ≤ 100000) (hb : ∀ b ∈ l, b.f1.length ≤ 100000) : ∀ (d : Nat) (i : Int), 0 ≤ i → (l.length : Int) - i = d → Ev (fun k => thalwegref05_Same.l0 k l l i) true := by
 intro d
 induction d with
 | zero =>
  intro i h0 hd
  refine Ev.from 1 fun k => ?_
  simp only [thalwegref05_Same.l0]
  rw [if_neg (by omega)]
 | succ d ih =>
  intro i h0 hd
  refine Ev.step (f := fun k => _) (fun k => by simp only [thalwegref05_Same.l0]; rfl) ?_
  simp only [if_pos (show i < (l.length : Int) by omega), if_pos h0, if_true]
  refine Ev.bind (same_ev _ (hb _ (bs_mem l i h0 (by omega)))) ?_
  simp only [if_true, w64 (x := i + 1) (by omega) (by omega)]
  exact ih (i + 1) (by omega) (by omega)
theorem sames_ev (l : List S24) (h : l.length ≤ 100000) (hb : ∀ b ∈ l, b.f1.length ≤ 100000) : Ev (fun k => thalwegref05_Same.f k l l) true := by
 unfold thalwegref05_Same.f
 simp only [if_true]
 exact sames_l0 l h hb l.length 0 (by omega) (by omega)
end Go.Proofs.Ytfigbjjaffkidaa.P
namespace Go.Proofs.Ytfigbjjaffkidaa.Pure
open Go.RowKit Go.Proofs.Ytfigbjjaffkidaa.P YtfigbjjaffkidaaW.PrintWords YtfigbjjaffkidaaW.PrintLast YtfigbjjaffkidaaW.PrintMore
open Classical
def toO (g : OP) : S45 := ⟨g.1, g.2.1, ⟨g.2.2.1, g.2.2.2.1, g.2.2.2.2.1, g.2.2.2.2.2.1, g.2.2.2.2.2.2.1, g.2.2.2.2.2.2.2.1⟩, ⟨g.2.2.2.2.2.2.2.2.1, g.2.2.2.2.2.2.2.2.2.1, g.2.2.2.2.2.2.2.2.2.2.1⟩, g.2.2.2.2.2.2.2.2.2.2.2.1⟩
noncomputable def bpFin (n : Int) (Y : List S45) (at_ : Int) : Int × List S45 × Int × Int := if RB n Y then (n, Y, at_, 0) else (0, [], 0, 4)
noncomputable def bpL (l : List Int) (n : Int) : Nat → List S45 → Int → Int × List S45 × Int × Int
 | 0, dn, at_ => bpFin n dn at_
 | m + 1, dn, at_ => if (opGo l at_).2.2.2.2.2.2.2.2.2.2.2.2.2 = 0 then bpL l n m (dn ++ [toO (opGo l at_)]) (opGo l at_).2.2.2.2.2.2.2.2.2.2.2.2.1 else (0, [], 0, (opGo l at_).2.2.2.2.2.2.2.2.2.2.2.2.2)
noncomputable def bpSpec (l : List Int) (a : Int) : Int × List S45 × Int × Int :=
  if (getSpec l a 2).2.2 = 0 then
    (if (getSpec l (getSpec l a 2).2.1 1).2.2 = 0 then
      (if (getSpec l (getSpec l a 2).2.1 1).1 = 0 then (0, [], 0, 4) else if (getSpec l (getSpec l a 2).2.1 1).1 > 32 then (0, [], 0, 4)
       else bpL l (getSpec l a 2).1 (getSpec l (getSpec l a 2).2.1 1).1.toNat [] (getSpec l (getSpec l a 2).2.1 1).2.1)
    else (0, [], 0, (getSpec l (getSpec l a 2).2.1 1).2.2))
  else (0, [], 0, (getSpec l a 2).2.2)
theorem bparse_l0 (l : List Int) (hB : Bytes l) (hl : l.length ≤ 1000000000000) (n : Int) (many : Nat) (hm : many ≤ 32) : ∀ (m : Nat) (i : Int) (dn : List S45) (at_ : Int), 0 ≤ i → i + m = many → (dn.length : Int) = i →
  Ev (fun k => batch_Parse.l0 k l at_ (many : Int) i n dn) (bpL l n m dn at_) := by
 intro m
 induction m with
 | zero =>
  intro i dn at_ h0 hi hd
  refine Ev.step (f := fun k => _) (fun k => by simp only [batch_Parse.l0]; rfl) ?_
  simp only [if_neg (show ¬ i < (many : Int) by omega), bpL, bpFin]
  refine Ev.bind (bcheck_ev n dn) ?_
  by_cases c : RB n dn
  ·simp only [if_pos c, if_true]; exact Ev.now _
  ·simp only [if_neg c, if_neg (show ¬ (1 : Int) = 0 by decide)]; exact Ev.now _
 | succ m ih =>
  intro i dn at_ h0 hi hd
  refine Ev.step (f := fun k => _) (fun k => by simp only [batch_Parse.l0]; rfl) ?_
  simp only [if_pos (show i < (many : Int) by omega), oparse_eq l at_ hB hl, Option.bind_some, bpL]
  by_cases c : (opGo l at_).2.2.2.2.2.2.2.2.2.2.2.2.2 = 0
  ·simp only [if_pos c, if_pos (show dn.length < 1466015503701 by omega), w64 (x := i + 1) (by omega) (by omega)]
   exact ih (i + 1) _ _ (by omega) (by omega) (by rw [List.length_append, List.length_singleton]; omega)
  ·simp only [if_neg c]
   exact Ev.now _
theorem bparse_ev (l : List Int) (a : Int) (hB : Bytes l) (hl : l.length ≤ 1000000000000) : Ev (fun k => batch_Parse.f k l a) (bpSpec l a) := by
 unfold batch_Parse.f bpSpec
 simp only [wire_Get_eq l _ _ hB hl, Option.bind_some]
 by_cases c1 : (getSpec l a 2).2.2 = 0
 ·simp only [if_pos c1]
  by_cases c2 : (getSpec l (getSpec l a 2).2.1 1).2.2 = 0
  ·simp only [if_pos c2]
   by_cases c3 : (getSpec l (getSpec l a 2).2.1 1).1 = 0
   ·simp only [if_pos c3]; exact Ev.now _
   simp only [if_neg c3]
   by_cases c4 : (getSpec l (getSpec l a 2).2.1 1).1 > 32
   ·simp only [if_pos c4]; exact Ev.now _
   simp only [if_neg c4]
   have hw := get_was l hB (getSpec l a 2).2.1 1 (by omega) (by omega) c2
   rw [show ((1 : Nat) : Int) = 1 from rfl] at hw
   obtain ⟨m, hm⟩ := Int.eq_ofNat_of_zero_le hw.2.2.2.1
   rw [hm] at c4 ⊢
   rw [Int.toNat_natCast]
   exact bparse_l0 l hB hl _ m (by omega) m 0 [] _ (by omega) (by omega) rfl
  ·simp only [if_neg c2]; exact Ev.now _
 ·simp only [if_neg c1]; exact Ev.now _
theorem OB_one (o : S45) : OB o = oB9 o.f0 o.f1 o.f2.f0 o.f2.f1 o.f2.f2 o.f2.f3 o.f2.f4 o.f2.f5 o.f3.f0 o.f3.f1 o.f3.f2 o.f4 := rfl
theorem objs_put (n : Int) : ∀ (L : List S45) (F C : List Int) (dn : List S45), (∀ o ∈ L, OR o) → RB n (dn ++ L) → bpL (F ++ (L.flatMap OB ++ C)) n L.length dn (F.length : Int) = (n, dn ++ L, (F.length : Int) + (L.flatMap OB).length, 0) := by
 intro L
 induction L with
 | nil =>
  intro F C dn _ h
  rw [List.append_nil] at h
  simp only [List.length_nil, bpL, bpFin, if_pos h, List.append_nil, List.flatMap_nil]
  simp
 | cons o L ih =>
  intro F C dn hL h
  have ho := hL o List.mem_cons_self
  have g := op_put F (L.flatMap OB ++ C) _ _ _ _ _ _ _ _ _ _ _ _ ho
  rw [← OB_one o] at g
  have e : F ++ ((o :: L).flatMap OB ++ C) = F ++ (OB o ++ (L.flatMap OB ++ C)) := by rw [List.flatMap_cons, List.append_assoc]
  have h2 := ih (F ++ OB o) C (dn ++ [o]) (fun x hx => hL x (List.mem_cons_of_mem _ hx)) (by rw [List.append_assoc]; exact h)
  rw [List.append_assoc, List.append_assoc, List.length_append] at h2
  rw [e, List.length_cons]
  simp only [bpL, g, if_true]
  rw [show (F.length : Int) + (OB o).length = ((F.length + (OB o).length : Nat) : Int) by omega]
  rw [show toO (o.f0, o.f1, o.f2.f0, o.f2.f1, o.f2.f2, o.f2.f3, o.f2.f4, o.f2.f5, o.f3.f0, o.f3.f1, o.f3.f2, o.f4, ((F.length + (OB o).length : Nat) : Int), 0) = o from rfl]
  rw [h2, List.flatMap_cons, List.length_append]
  simp only [List.singleton_append, Prod.mk.injEq, true_and, and_true]
  omega
theorem bp_put (F M : List Int) (a : Int) (L : List S45) (h : RB a L) : bpSpec (F ++ (bB a L ++ M)) (F.length : Int) = (a, L, (F.length : Int) + (bB a L).length, 0) := by
 obtain ⟨⟨a0, a1⟩, ⟨n1, n32⟩, hr, _⟩ := id h
 have g0 := get_in_mid F ([(L.length : Int) % 256] ++ (L.flatMap OB ++ M)) a 2 (by omega) (by omega) a0 (by rw [show (256 : Int) ^ 2 = 65536 by decide]; omega)
 have g1 := get_in_mid (F ++ be 2 a) (L.flatMap OB ++ M) (L.length : Int) 1 (by omega) (by omega) (by omega) (by rw [show (256 : Int) ^ 1 = 256 by decide]; omega)
 rw [be1'] at g1
 have e0 : F ++ (be 2 a ++ ([(L.length : Int) % 256] ++ (L.flatMap OB ++ M))) = F ++ (bB a L ++ M) := by rw [be2']; simp [bB]
 have e1 : F ++ be 2 a ++ ([(L.length : Int) % 256] ++ (L.flatMap OB ++ M)) = F ++ (bB a L ++ M) := by rw [← e0, List.append_assoc]
 rw [e0, show ((2 : Nat) : Int) = 2 from rfl] at g0
 rw [e1, List.length_append, be_length, show ((1 : Nat) : Int) = 1 from rfl] at g1
 have h2 := objs_put a L (F ++ be 2 a ++ [(L.length : Int) % 256]) M [] (fun o ho => hr o ho) (by rw [List.nil_append]; exact h)
 have e2 : F ++ be 2 a ++ [(L.length : Int) % 256] ++ (L.flatMap OB ++ M) = F ++ (bB a L ++ M) := by rw [List.append_assoc (F ++ be 2 a), e1]
 rw [e2, List.length_append, List.length_append, be_length, List.length_singleton, List.nil_append] at h2
 have hb : (bB a L).length = 3 + (L.flatMap OB).length := by simp only [bB, List.length_append, List.length_cons, List.length_nil]
 rw [hb]
 generalize F ++ (bB a L ++ M) = l at g0 g1 h2 ⊢
 unfold bpSpec
 rw [show (F.length : Int) + 2 = ((F.length + 2 : Nat) : Int) by omega] at g0
 simp only [g0, g1, if_true, if_neg (show ¬ (L.length : Int) = 0 by omega), if_neg (show ¬ (L.length : Int) > 32 by omega), Int.toNat_natCast]
 rw [show ((F.length + 2 : Nat) : Int) + 1 = ((F.length + 2 + 1 : Nat) : Int) by omega, h2]
 simp only [Prod.mk.injEq, true_and, and_true]
 omega
theorem objs_was (l : List Int) (hB : Bytes l) (n : Int) : ∀ (m : Nat) (dn : List S45) (at_ y0 : Int) (Y : List S45) (i : Int), 0 ≤ at_ → at_ ≤ l.length → bpL l n m dn at_ = (y0, Y, i, 0) →
  ∃ L : List S45, Y = dn ++ L ∧ L.length = m ∧ y0 = n ∧ RB n Y ∧ i = at_ + (L.flatMap OB).length ∧ i ≤ l.length ∧ L.flatMap OB = (l.drop at_.toNat).take (L.flatMap OB).length := by
 intro m
 induction m with
 | zero =>
  intro dn at_ y0 Y i h0 h1 h
  simp only [bpL, bpFin] at h
  split at h
  ·rename_i hr
   simp only [Prod.mk.injEq, and_true] at h
   obtain ⟨rfl, rfl, rfl⟩ := h
   exact ⟨[], by simp, rfl, rfl, hr, by simp, h1, by simp⟩
  ·exact absurd (congrArg (fun z => z.2.2.2) h) (show ¬ (4 : Int) = 0 by decide)
 | succ m ih =>
  intro dn at_ y0 Y i h0 h1 h
  simp only [bpL] at h
  split at h
  case isFalse hh => exact absurd (congrArg (fun z => z.2.2.2) h) hh
  rename_i h2
  obtain ⟨x0, x1, x2, x3, x4, x5, x6, x7, x8, x9, x10, x11, j, e, hx⟩ : ∃ x0 x1 x2 x3 x4 x5 x6 x7 x8 x9 x10 x11 i er, opGo l at_ = (x0, x1, x2, x3, x4, x5, x6, x7, x8, x9, x10, x11, i, er) := ⟨_, _, _, _, _, _, _, _, _, _, _, _, _, _, rfl⟩
  rw [hx] at h h2
  simp only at h h2
  subst h2
  obtain ⟨hr, _, hj, hjl, hb⟩ := op_was l hB at_ _ _ _ _ _ _ _ _ _ _ _ _ _ hx
  have hl := oB9_length x0 x1 x2 x3 x4 x5 x6 x7 x8 x9 x10 x11
  obtain ⟨L, e1, e2, e3, e4, e5, e6, e7⟩ := ih _ j y0 Y i (by omega) hjl h
  have hO : OB (toO (x0, x1, x2, x3, x4, x5, x6, x7, x8, x9, x10, x11, j, 0)) = oB9 x0 x1 x2 x3 x4 x5 x6 x7 x8 x9 x10 x11 := rfl
  refine ⟨toO (x0, x1, x2, x3, x4, x5, x6, x7, x8, x9, x10, x11, j, 0) :: L, by rw [e1, List.append_assoc]; rfl, by rw [List.length_cons, e2], e3, e4, ?_, e6, ?_⟩
  ·rw [List.flatMap_cons, List.length_append, hO]
   omega
  ·rw [List.flatMap_cons, List.length_append, hO, seg_add, ← hb, show at_.toNat + (oB9 x0 x1 x2 x3 x4 x5 x6 x7 x8 x9 x10 x11).length = j.toNat by omega, ← e7]
theorem bp_was (l : List Int) (hB : Bytes l) (y0 : Int) (Y : List S45) (i : Int) (h : bpSpec l 0 = (y0, Y, i, 0)) : RB y0 Y ∧ i = (bB y0 Y).length ∧ i ≤ l.length ∧ bB y0 Y = l.take i.toNat := by
 unfold bpSpec at h
 split at h
 case isFalse hh => exact absurd (congrArg (fun z => z.2.2.2) h) hh
 rename_i h0
 split at h
 case isFalse hh => exact absurd (congrArg (fun z => z.2.2.2) h) hh
 rename_i h1
 split at h
 ·exact absurd (congrArg (fun z => z.2.2.2) h) (show ¬ (4 : Int) = 0 by decide)
 split at h
 ·exact absurd (congrArg (fun z => z.2.2.2) h) (show ¬ (4 : Int) = 0 by decide)
 have w0 := get_was l hB 0 2 (by omega) (by omega) h0
 rw [show ((2 : Nat) : Int) = 2 from rfl] at w0
 generalize getSpec l 0 2 = g0 at h h0 h1 w0
 obtain ⟨r0, a0, b0, c0, d0⟩ := w0
 rw [a0] at h h1
 have w1 := get_was l hB (0 + 2) 1 (by omega) (by omega) h1
 rw [show ((1 : Nat) : Int) = 1 from rfl] at w1
 generalize getSpec l (0 + 2) 1 = g1 at h h1 w1
 obtain ⟨r1, a1, b1, c1, d1⟩ := w1
 rw [a1] at h
 obtain ⟨L, e1, e2, e3, e4, e5, e6, e7⟩ := objs_was l hB g0.1 g1.1.toNat [] (0 + 2 + 1) y0 Y i (by omega) (by omega) h
 rw [List.nil_append] at e1
 subst e1
 have hb : (bB y0 Y).length = 3 + (Y.flatMap OB).length := by simp only [bB, List.length_append, List.length_cons, List.length_nil]
 refine ⟨by rw [e3]; exact e4, by rw [hb]; omega, e6, ?_⟩
 rw [be2', ← e3] at b0
 rw [be1'] at b1
 have hg : ((Y.length : Int)) = g1.1 := by omega
 have e : bB y0 Y = [y0 / 256 % 256, y0 % 256] ++ ([g1.1 % 256] ++ Y.flatMap OB) := by unfold bB; rw [hg]; simp
 have hi : i.toNat = 2 + (1 + (Y.flatMap OB).length) := by omega
 rw [e, hi]
 have s1 := seg_add l 0 2 (1 + (Y.flatMap OB).length)
 have s2 := seg_add l 2 1 (Y.flatMap OB).length
 simp only [List.drop_zero, Nat.zero_add] at s1
 rw [s1, s2, b0, b1, ← show (0 + 2 + 1 : Int).toNat = 2 + 1 from rfl, ← e7]
 rfl
theorem bB_bytes (a : Int) (L : List S45) : Bytes (bB a L) := by
 intro x hx
 unfold bB at hx
 rcases List.mem_append.1 hx with hx | hx
 ·simp only [List.mem_cons, List.not_mem_nil, or_false] at hx
  omega
 ·obtain ⟨o, _, ho⟩ := List.mem_flatMap.1 hx
  exact oB_bytes _ _ _ _ _ _ _ _ _ _ _ _ x ho
theorem bback_j1 (a : Int) (L : List S45) (F M : List Int) (hF : Bytes F) (hM : Bytes M) (lL : L.length ≤ 60) (lF : F.length ≤ 200) (lM : M.length ≤ 600) : Ev (fun k => thalweglaw05_BatchBack.j1 k F M false a L) true := by
 refine Ev.step (f := fun k => _) (fun k => by simp only [thalweglaw05_BatchBack.j1]; rfl) ?_
 simp only [Bool.false_eq_true, if_false]
 by_cases h : RB a L
 ·have hl := bB_length a L h.2.2.1
  have hs := h.2.2.2
  refine Ev.bind (bbytes_ev a L h) ?_
  have hboth : Ev (fun k => thalwegref01_Both.f k [F, bB a L, M]) (F ++ (bB a L ++ M)) := by
   have := both_ev [F, bB a L, M] (by simp) (by simp; omega)
   simpa using this
  refine Ev.bind hboth ?_
  have hp := bparse_ev (F ++ (bB a L ++ M)) (F.length : Int) (hF.append ((bB_bytes a L).append hM)) (by simp only [List.length_append]; omega)
  rw [bp_put F M a L h] at hp
  refine Ev.bind hp ?_
  simp only [if_true]
  refine Ev.bind awake05 ?_
  simp only [if_true]
  refine Ev.bind (sames_ev [(⟨a, L⟩ : S24)] (by simp) (fun b hb => by rw [List.mem_singleton] at hb; subst hb; show L.length ≤ 100000; omega)) ?_
  simp only [if_true]
  rw [w64 (by omega) (by omega), beq_self_eq_true]
  exact Ev.now _
 ·refine Ev.bind (bbytes_no a L h) ?_
  have hboth : Ev (fun k => thalwegref01_Both.f k [F, [], M]) (F ++ M) := by
   have := both_ev [F, [], M] (by simp) (by simp; omega)
   simpa using this
  refine Ev.bind hboth ?_
  refine Ev.bind (bparse_ev (F ++ M) (F.length : Int) (hF.append hM) (by simp only [List.length_append]; omega)) ?_
  simp only [if_neg (show ¬ (1 : Int) = 0 by decide)]
  refine Ev.bind awake05 ?_
  simp only [if_true]
  exact Ev.now _
theorem bback_j0 (a : Int) (L : List S45) (F M : List Int) (hF : Bytes F) (hM : Bytes M) (lL : L.length ≤ 60) (lF : F.length ≤ 200) (lM : M.length ≤ 600) : Ev (fun k => thalweglaw05_BatchBack.j0 k F M false a L) true := by
 have hj := bback_j1 a L F M hF hM lL lF lM
 refine Ev.step (f := fun k => _) (fun k => by simp only [thalweglaw05_BatchBack.j0]; rfl) ?_
 simp only [Bool.false_eq_true, if_false]
 obtain ⟨y0, Y, i, er, he⟩ : ∃ y0 Y i er, bpSpec M 0 = (y0, Y, i, er) := ⟨_, _, _, _, rfl⟩
 have hp := bparse_ev M 0 hM (by omega)
 rw [he] at hp
 refine Ev.bind hp ?_
 by_cases h0 : er = 0
 ·subst h0
  obtain ⟨hr, hi, hiM, hb⟩ := bp_was M hM y0 Y i he
  have hlen : 5 ≤ (bB y0 Y).length := by
   have h1 := hr.2.1.1
   cases Y with
   | nil => simp at h1
   | cons o Y =>
    have := OB_length o
    simp only [bB, List.flatMap_cons, List.length_append, List.length_cons, List.length_nil]
    omega
  refine Ev.bind (bbytes_ev y0 Y hr) ?_
  simp only [if_true, if_neg (show ¬ i < 5 by omega), if_neg (show ¬ i > (M.length : Int) by omega), if_pos (show 0 ≤ i by omega), if_pos hiM, hb, bne_self_eq_false]
  exact hj
 ·by_cases hr : RB y0 Y
  ·refine Ev.bind (bbytes_ev y0 Y hr) ?_
   simp only [if_neg h0]
   exact hj
  ·refine Ev.bind (bbytes_no y0 Y hr) ?_
   simp only [if_neg h0]
   exact hj
theorem BatchBack : thalweglaw05_BatchBack.Pure := by
 intro x F M _ _ hF _ hM
 have hF : Bytes F := bytes_of hF
 have hM : Bytes M := bytes_of hM
 apply Ev.rounds
 have yes : Ev (fun k => thalweglaw05_BatchBack.j0 k F M true x.f0 x.f1) true := by
  refine Ev.step (f := fun k => _) (fun k => by simp only [thalweglaw05_BatchBack.j0]; rfl) ?_
  simp only [if_true]
  exact Ev.now _
 unfold thalweglaw05_BatchBack.f
 by_cases h1 : (x.f1.length : Int) > 60
 ·simp only [if_pos h1]; exact yes
 simp only [if_neg h1]
 by_cases h2 : (F.length : Int) > 200
 ·simp only [if_pos h2]; exact yes
 simp only [if_neg h2]
 by_cases h3 : (M.length : Int) > 600
 ·rw [decide_eq_true h3]; exact yes
 ·rw [decide_eq_false h3]; exact bback_j0 _ _ F M hF hM (by omega) (by omega) (by omega)
end Go.Proofs.Ytfigbjjaffkidaa.Pure
namespace Go.Proofs.YtfigbjjaffkidaaW.Opn
open Go.RowKit YtfigbjjaffkidaaW.PrintWords Go.ChangeShapes Go.WideShapes Go.Deep
def Opens (P : Program) (t : TypeId) {α : Type} (d : Kd α) (wf : α → Prop) : Prop :=
 ∀ {H : Type} (enc : TypeId × Value → H) (w : World) (base : Nat) (spare : Nat → Bool) (held : Bool) (fuel : Nat) (cs : List Value) (y : DataW H × List MemPlace),
  DataW.trod enc P w base spare held fuel t cs = some y → ∃ x : α, d.K w x cs ∧ wf x
theorem opens_int {P : Program} {t : TypeId} {k : IntKind} (ht : P.underlying t = some (.int k)) : Opens P t (Kd.int k) (fun x => (Lit.int k x).wf = true) := by
 intro H enc w base spare held fuel cs y h
 obtain ⟨n, rfl, _, hw⟩ := DataW.trod_int ht h
 exact ⟨n, rfl, hw⟩
theorem opens_bool {P : Program} {t : TypeId} (ht : P.underlying t = some .bool) : Opens P t Kd.bool (fun _ => True) := by
 intro H enc w base spare held fuel cs y h
 obtain ⟨n, rfl, _⟩ := DataW.trod_bool ht h
 exact ⟨n, rfl, trivial⟩
theorem opens_iso {P : Program} {t : TypeId} {α β : Type} {d : Kd α} {wf : α → Prop} (f : β → α) (g : α → β) (hg : ∀ a, f (g a) = a) (h : Opens P t d wf) : Opens P t (Kd.iso d f) (fun b => wf (f b)) := by
 intro H enc w base spare held fuel cs y hy
 obtain ⟨x, hx, hw⟩ := h enc w base spare held fuel cs y hy
 exact ⟨g x, by show d.K w (f (g x)) cs; rw [hg]; exact hx, by show wf (f (g x)); rw [hg]; exact hw⟩
def OpensL (P : Program) : (ts : List TypeId) → {α : Type} → (d : Kd α) → (wf : α → Prop) → Prop := fun ts {α} d wf =>
 ∀ {H : Type} (enc : TypeId × Value → H) (w : World) (base : Nat) (spare : Nat → Bool) (held : Bool) (n : Nat) (cs : List Value) (xs : List (DataW H × List MemPlace)) (off : Nat),
  (∀ (i : Nat) (t : TypeId), ts[i]? = some t → ∃ y, DataW.trod enc P w base spare held n t ((cs.drop (off + ((ts.take i).map P.cellsOf).sum)).take (P.cellsOf t)) = some y) →
  ∃ x : α, d.K w x ((cs.drop off).take ((ts.map P.cellsOf).sum)) ∧ wf x
theorem opensL_one {P : Program} {t : TypeId} {α : Type} {d : Kd α} {wf : α → Prop} (h : Opens P t d wf) : OpensL P [t] d wf := by
 intro H enc w base spare held n cs xs off hx
 obtain ⟨y, hy⟩ := hx 0 t rfl
 simpa using h enc w base spare held n _ y (by simpa using hy)
theorem opensL_cons {P : Program} {t : TypeId} {ts : List TypeId} {α β : Type} {d : Kd α} {d' : Kd β} {wf : α → Prop} {wf' : β → Prop} (h : Opens P t d wf) (h' : OpensL P ts d' wf') :
  OpensL P (t :: ts) (Kd.pair d d') (fun x => wf x.1 ∧ wf' x.2) := by
 intro H enc w base spare held n cs xs off hx
 obtain ⟨y, hy⟩ := hx 0 t rfl
 obtain ⟨x, hk, hw⟩ := h enc w base spare held n _ y (by simpa using hy)
 obtain ⟨x', hk', hw'⟩ := h' enc w base spare held n cs xs (off + P.cellsOf t) (fun i u hu => by
  have := hx (i + 1) u hu
  simpa [Nat.add_assoc] using this)
 refine ⟨(x, x'), ⟨(cs.drop off).take (P.cellsOf t), (cs.drop (off + P.cellsOf t)).take ((ts.map P.cellsOf).sum), ?_, hk, hk'⟩, hw, hw'⟩
 simp only [List.map_cons, List.sum_cons]
 rw [List.take_add, List.drop_drop]
def lineB (P : Program) : List Field → Nat → Bool
 | [], _ => true
 | f :: fs, off => (f.offset == off) && lineB P fs (off + P.cellsOf f.type)
theorem line_at {P : Program} : ∀ (fs : List Field) (off : Nat), lineB P fs off = true → ∀ (i : Nat) (f : Field), fs[i]? = some f → f.offset = off + (((fs.map (·.type)).take i).map P.cellsOf).sum := by
 intro fs
 induction fs with
 | nil => intro off _ i f h; simp at h
 | cons g gs ih =>
  intro off hb i f h
  unfold lineB at hb
  rw [Bool.and_eq_true, beq_iff_eq] at hb
  cases i with
  | zero =>
   simp at h
   subst h
   simpa using hb.1
  | succ i =>
   have := ih _ hb.2 i f (by simpa using h)
   simp only [List.map_cons, List.take_succ_cons, List.sum_cons]
   omega
theorem opens_struct {P : Program} {t : TypeId} {fs : Array Field} {α : Type} {d : Kd α} {wf : α → Prop} (ht : P.underlying t = some (.struct fs)) (hl : lineB P fs.toList 0 = true) (hc : P.cellsOf t = ((fs.toList.map (·.type)).map P.cellsOf).sum)
  (h : OpensL P (fs.toList.map (·.type)) d wf) : Opens P t d wf := by
 intro H enc w base spare held fuel cs y hy
 obtain ⟨xs, n, _, _, hlen, hxl, hf⟩ := DataW.trod_struct ht hy
 obtain ⟨x, hk, hw⟩ := h enc w base spare held n cs xs 0 (fun i u hu => by
  rw [List.getElem?_map, Option.map_eq_some_iff] at hu
  obtain ⟨f, hf0, rfl⟩ := hu
  have hi : i < fs.size := by
   have := (List.getElem?_eq_some_iff.1 hf0).1
   simpa using this
  have h1 := hf i f (by rw [← Array.getElem?_toList]; exact hf0)
  rw [line_at _ 0 hl i f hf0] at h1
  exact ⟨_, h1.trans (List.getElem?_eq_getElem (by omega))⟩)
 rw [← hc, List.drop_zero, ← hlen, List.take_length] at hk
 exact ⟨x, hk, hw⟩
theorem reads_build {P : Program} {e : TypeId} {α : Type} {d : Kd α} {wf : α → Prop} (hs : P.cellsOf e = d.sz) (w : World) (ad : Addr) : ∀ (len : Nat), (∀ i, i < len → ∃ (x : α) (c : List Value), c.length = d.sz ∧ d.K w x c ∧ wf x ∧ ∀ j u, c[j]? = some u → w.cell? (ad.add (i * d.sz + j)) = some u) →
  ∃ xs : List α, xs.length = len ∧ (∀ x ∈ xs, wf x) ∧ ∀ j p, xs[j]? = some p → ∃ c, c.length = d.sz ∧ d.K w p c ∧ ∀ i u, c[i]? = some u → w.cell? (ad.add (j * d.sz + i)) = some u := by
 intro len
 induction len with
 | zero => intro _; exact ⟨[], rfl, by simp, by simp⟩
 | succ n ih =>
  intro h
  obtain ⟨xs, hl, hw, hx⟩ := ih (fun i hi => h i (by omega))
  obtain ⟨x, c, hc, hk, hwx, hcell⟩ := h n (by omega)
  refine ⟨xs ++ [x], by simp [hl], ?_, ?_⟩
  ·intro y hy
   rcases List.mem_append.1 hy with hy | hy
   ·exact hw y hy
   ·rw [List.mem_singleton.1 hy]; exact hwx
  ·intro j p hj
   rcases Nat.lt_or_ge j xs.length with hjl | hjl
   ·rw [List.getElem?_append_left hjl] at hj
    exact hx j p hj
   ·have : j = xs.length := by
     have := (List.getElem?_eq_some_iff.1 hj).1
     simp at this
     omega
    subst this
    have hp : x = p := by simpa using hj
    subst hp
    exact ⟨c, hc, hk, by rw [hl]; exact hcell⟩
theorem opens_slice {P : Program} {t e : TypeId} {α : Type} {d : Kd α} {wf : α → Prop} (ht : P.underlying t = some (.slice e)) (hs : P.cellsOf e = d.sz) (h : Opens P e d wf) : Opens P t (Kd.slice e d) (fun l => l.length ≤ maxLen ∧ ∀ x ∈ l, wf x) := by
 intro H enc w base spare held fuel cs y hy
 rcases open_slice ht hy with ⟨rfl, _⟩ | ⟨a, len, cap, m, n, D, Pl, rfl, hb, hl, hm, hmm, hx, hi⟩
 ·exact ⟨[], ⟨none, 0, rfl, Nat.le_refl _, rfl, by simp, by simp⟩, by simp, by simp⟩
 ·have hle : len ≤ m := by rw [hmm]; split <;> omega
  obtain ⟨xs, hxl, hwf, hxs⟩ := reads_build (P := P) (e := e) (d := d) (wf := wf) hs w a len (fun i hlt => by
   obtain ⟨cs', hc, ht'⟩ := hi i (by omega)
   obtain ⟨_, hcl, hat⟩ := World.cells?_some hc
   obtain ⟨x, hk, hwx⟩ := h enc w base spare held n cs' _ ht'
   refine ⟨x, cs', by omega, hk, hwx, fun j u hj => ?_⟩
   have hjl := (List.getElem?_eq_some_iff.1 hj).1
   have := hat j (by omega)
   rw [← Go.Deep.add_add, ← hs, this, hj])
  have hm' : len ≤ maxLen := by omega
  subst hxl
  have hm2 : xs.length ≤ 9223372036854775807 := by unfold maxLen at hm'; omega
  exact ⟨xs, ⟨some a, cap, rfl, hl, rfl, hm2, fun _ => ⟨a, rfl, hxs⟩⟩, hm', hwf⟩
end Go.Proofs.YtfigbjjaffkidaaW.Opn
