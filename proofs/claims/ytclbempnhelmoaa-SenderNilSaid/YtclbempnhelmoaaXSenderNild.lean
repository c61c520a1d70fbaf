/- Walks. -/
import Derived.WalkMore
import Derived.Test.YtclbempnhelmoaaXSenderNila
import Derived.Test.YtclbempnhelmoaaXSenderNilb
import Derived.Test.YtclbempnhelmoaaXSenderNilc
set_option linter.unusedVariables false
set_option linter.unusedSimpArgs false
set_option maxHeartbeats 8000000
set_option maxRecDepth 100000
namespace Go.Proofs.Ytclbempnhelmoaa.P
open Go.RowKit YtclbempnhelmoaaW.PrintWords YtclbempnhelmoaaW.PrintLast YtclbempnhelmoaaW.PrintMore
open YtclbempnhelmoaaW.PrintWords renaming below_alloc → YA, pw_below_drewN → YB, below_drew1 → YC, below_step → YD, below_size → YE, blk_drewN → YF, blk_drew → YG, blk_alloc → YH, blk_cell → YI, blk_frozen → YJ
open YtclbempnhelmoaaW.PrintWords.Aside0 renaming mk → YK
open List renaming setIfInBounds_toArray → YL, set_cons_zero → YM, set_cons_succ → YN
attribute [local go_sem] max2_int min2_int max_two min_two max_three min_three max_four min_four
mutual
def ack_Check.j0 : Nat → List (S36) → Bool → Option (Int)
 | 0, _, _ => none
 | k + 1, x0, x3 => ack_Check.l0 k x0 x3 x0 (x0.length : Int) 0
def ack_Check.l0 : Nat → List (S36) → Bool → List (S36) → Int → Int → Option (Int)
 | 0, _, _, _, _, _ => none
 | k + 1, x0, x3, x14, x15, x16 => if x16 < x15 then (if 0 ≤ x16 then (if x16 < (x14.length : Int) then (if x3 = true then ((ack_right.f ((rd_T36 x14 x16).f0) ((rd_T36 x14 x16).f1) ((rd_T36 x14 x16).f2) ((rd_T36 x14 x16).f3)).bind fun t263 => (if t263 = true then (if x16 = 0 then (ack_Check.l0 k x0 true x14 x15 (wrap64 (x16 + 1))) else (if 0 ≤ (wrap64 (x16 - 1)) then (if (wrap64 (x16 - 1)) < (x0.length : Int) then (ack_Check.l0 k x0 (decide (((rd_T36 x0 (wrap64 (x16 - 1))).f0) < ((rd_T36 x14 x16).f0))) x14 x15 (wrap64 (x16 + 1))) else (none)) else (none))) else (ack_Check.l0 k x0 false x14 x15 (wrap64 (x16 + 1))))) else (ack_Check.l0 k x0 false x14 x15 (wrap64 (x16 + 1)))) else (none)) else (none)) else (if x3 = true then (some 0) else (some 1))
end
def ack_Check.f (k : Nat) (l0 : List (S36)) : Option (Int) := if (l0.length : Int) > 0 then (ack_Check.j0 k l0 (decide ((l0.length : Int) ≤ 64))) else (ack_Check.j0 k l0 false)
theorem ack_Check.mono_l : ∀ k, (∀ y0 y1, LeO (ack_Check.j0 k y0 y1) (ack_Check.j0 (k + 1) y0 y1)) ∧ (∀ y0 y1 y2 y3 y4, LeO (ack_Check.l0 k y0 y1 y2 y3 y4) (ack_Check.l0 (k + 1) y0 y1 y2 y3 y4))
 | 0 => ⟨fun _ _ r h => by simp [ack_Check.j0] at h, fun _ _ _ _ _ r h => by simp [ack_Check.l0] at h⟩
 | k + 1 => by
  obtain ⟨ih0, ih1⟩ := ack_Check.mono_l k
  refine ⟨?_, ?_⟩
  ·intro y0 y1
   unfold ack_Check.j0
   repeat' first
   | (with_reducible exact ih0 _ _)
   | (with_reducible exact ih1 _ _ _ _ _)
   | (with_reducible exact LeO.refl _)
   | (with_reducible exact LeO.none _)
   | (with_reducible refine LeO.ite ?_ ?_)
   | (with_reducible refine LeO.bind ?_ (fun _ => ?_))
   | exact ih0 _ _
   | exact ih1 _ _ _ _ _
   | exact LeO.none _
   | refine LeO.ite ?_ ?_
   | refine LeO.bind ?_ (fun _ => ?_)
  intro y0 y1 y2 y3 y4
  unfold ack_Check.l0
  repeat' first
  | (with_reducible exact ih0 _ _)
  | (with_reducible exact ih1 _ _ _ _ _)
  | (with_reducible exact LeO.refl _)
  | (with_reducible exact LeO.none _)
  | (with_reducible refine LeO.ite ?_ ?_)
  | (with_reducible refine LeO.bind ?_ (fun _ => ?_))
  | exact ih0 _ _
  | exact ih1 _ _ _ _ _
  | exact LeO.none _
  | refine LeO.ite ?_ ?_
  | refine LeO.bind ?_ (fun _ => ?_)
theorem ack_Check.mono : ∀ a0 k, LeO (ack_Check.f k a0) (ack_Check.f (k + 1) a0) := by
 intro a0 k
 obtain ⟨ih0, ih1⟩ := ack_Check.mono_l k
 unfold ack_Check.f
 repeat' first
   | (with_reducible exact ih0 _ _)
   | (with_reducible exact ih1 _ _ _ _ _)
   | (with_reducible exact LeO.refl _)
   | (with_reducible exact LeO.none _)
   | (with_reducible refine LeO.ite ?_ ?_)
   | (with_reducible refine LeO.bind ?_ (fun _ => ?_))
   | exact ih0 _ _
   | exact ih1 _ _ _ _ _
   | exact LeO.none _
   | refine LeO.ite ?_ ?_
   | refine LeO.bind ?_ (fun _ => ?_)
def ack_Check.T5 : Bool × List (List Nat × List Nat) := (true, [([], []), ([0], [0]), ([1], [1]), ([2, 1, 1], [1, 2]), ([1, 3], [1, 3]), ([4, 3], [4]), ([5], [5]), ([6, 5], [5, 6]), ([7, 5, 5], [5, 7]), ([8], [8]), ([8], [8]), ([10, 8], [8, 10]), ([9, 11, 8], [8, 9, 11]), ([12, 8], [8, 12]), ([13, 8], [8, 13]), ([8], [8]), ([15, 8], [8, 15]), ([14, 16, 8], [8, 14, 16]), ([8, 17, 5], [5, 8, 17]), ([5, 18], [5, 18]), ([19, 8, 0, 1, 2, 3, 4, 5, 6, 7, 8, 9, 10, 11, 12, 13, 14, 15, 16, 17, 18, 19], [0, 19])])
def ack_Check.B5 : List Nat := [0, 1, 3, 7, 15, 31, 63, 127, 255, 511, 511, 1535, 4095, 8191, 16383, 511, 33279, 131071, 262143, 524287, 1048575]
theorem ack_Check.tab5 : rtab .any (opsOf Try.f35 5) = ack_Check.T5 := by kernel_rfl
theorem ack_Check.bits5 : waitsOk ack_Check.T5.2 ack_Check.B5 = true := by kernel_rfl
theorem ack_Check.calls (k : Nat) (A0 : Option Addr) (c0 : Nat) (l0 : List (S36)) (r : Int) (w : World) (hr0 : Kd.C k36 w A0 l0.length l0) (hc0 : l0.length ≤ c0) (h : ack_Check.f k l0 = some r) :
  Calls Try.prog 35 #[.slice A0 l0.length c0] w fun e w' => e = .returned (.int .i64 r) ∧ Below w.heap.size w w' := by
 have hu36 := Try.underlying36
 have HR0 := YK hr0; have HC0 := YK hc0; clear hr0 hc0
 have HB := YK (Below.refl w.heap.size w)
 have H : (if (l0.length : Int) > 0 then (ack_Check.j0 k l0 (decide ((l0.length : Int) ≤ 64))) else (ack_Check.j0 k l0 false)) = some r := h
 clear h; have HC2 := YK H; clear H
 go_enter Try.func35, Try.ntmps35
 go_upto_region 1 with (fail)
 go_cut [3] (fun v3 wc => ∃ (kq : Nat) (x3_1 : Bool), v3 = .bool x3_1 ∧ Aside0 (ack_Check.j0 kq l0 x3_1 = some r) ∧ Aside0 (kq ≤ k) ∧ Aside0 (Below w.heap.size w wc))
 case first =>
  have H := HC2.out
  clear HC2
  by_cases c3 : (l0.length : Int) > 0
  ·rw [if_pos c3] at H
   have c3b0 : decide (0 < (l0.length : Int)) = true := decide_eq_true c3
   have c3b1 : decide (0 < l0.length) = true := decide_eq_true (by omega)
   clear c3
   (first | rw [c3b0] | (simp only [i64_w, i32_w]; rw [c3b0]) | rw [c3b1] | skip)
   have H' := YK H
   clear H
   go_wp2
   go_meet
   case rel => exact ⟨_, (decide ((l0.length : Int) ≤ 64)), (by first | rfl | (simp; done) | (simp [*]; done)), H', ⟨by first | omega | exact Nat.le_refl _⟩, ⟨by repeat (first | (with_reducible first | exact HB.out | apply YA | apply YB | apply YC) | exact HB.out)⟩⟩
  rw [if_neg c3] at H
  have c3b0 : decide (0 < (l0.length : Int)) = false := decide_eq_false c3
  have c3b1 : decide (0 < l0.length) = false := decide_eq_false (by omega)
  clear c3
  (first | rw [c3b0] | (simp only [i64_w, i32_w]; rw [c3b0]) | rw [c3b1] | skip)
  have H' := YK H
  clear H
  go_wp2
  go_meet
  case rel => exact ⟨_, (false), (by first | rfl | (simp; done) | (simp [*]; done)), H', ⟨by first | omega | exact Nat.le_refl _⟩, ⟨by repeat (first | (with_reducible first | exact HB.out | apply YA | apply YB | apply YC) | exact HB.out)⟩⟩
 case rest =>
  clear HC2
  try clear p2; try clear c3
  try clear c3b0; try clear c3b1
  obtain ⟨kq, x3_1, rfl, HA, HJ1, HB⟩ := hcut
  cases kq with
  | zero => exact absurd HA.out (by simp [ack_Check.j0])
  | succ kj1 =>
   have H := HA.out
   clear HA
   simp only [ack_Check.j0] at H
   have H' := YK H
   clear H
   go_wp2
   go_loopg [3, 16] kj1 (fun kq v3 v16 w' => ∃ (x3_2 : Bool) (x16_2 : Int), v3 = .bool x3_2 ∧ v16 = .int .i64 x16_2 ∧ Aside0 (ack_Check.l0 kq l0 x3_2 l0 (l0.length : Int) x16_2 = some r) ∧ Aside0 (kq ≤ kj1) ∧ Aside0 (Below w.heap.size w w'))
   case atStart => exact ⟨(x3_1), (0), (by first | rfl | (simp; done) | (simp [*]; done)), (by first | rfl | (simp; done) | (simp [*]; done)), H', ⟨Nat.le_refl _⟩, ⟨by repeat (first | (with_reducible first | exact HB.out | apply YA | apply YB | apply YC) | exact HB.out)⟩⟩
   case round =>
    clear H'
    try clear p2; try clear c3
    try clear c3b0; try clear c3b1; try clear p2
    obtain ⟨x3_2, x16_2, rfl, rfl, HA, HK2, HB⟩ := hrel
    cases gk with
    | zero => exact absurd HA.out (by simp [ack_Check.l0])
    | succ k2 =>
     have H := HA.out
     clear HA
     simp only [ack_Check.l0] at H
     by_cases c4 : x16_2 < (l0.length : Int)
     ·rw [if_pos c4] at H
      have c4b0 : decide (x16_2 < (l0.length : Int)) = true := decide_eq_true c4
      clear c4
      by_cases c5 : 0 ≤ x16_2
      rotate_left
      ·rw [if_neg c5] at H
       exact absurd H (by simp)
      rw [if_pos c5] at H; have c5b0 : decide (0 ≤ x16_2) = true := decide_eq_true c5; clear c5
      by_cases c6 : x16_2 < (l0.length : Int)
      rotate_left
      ·rw [if_neg c6] at H
       exact absurd H (by simp)
      rw [if_pos c6] at H
      have c6b0 : decide (x16_2 < (l0.length : Int)) = true := decide_eq_true c6
      clear c6
      by_cases c7 : x3_2 = true
      ·subst c7
       have H1 : ((ack_right.f ((rd_T36 l0 x16_2).f0) ((rd_T36 l0 x16_2).f1) ((rd_T36 l0 x16_2).f2) ((rd_T36 l0 x16_2).f3)).bind fun t263 => (if t263 = true then (if x16_2 = 0 then (ack_Check.l0 k2 l0 true l0 (l0.length : Int) (wrap64 (x16_2 + 1))) else (if 0 ≤ (wrap64 (x16_2 - 1)) then (if (wrap64 (x16_2 - 1)) < (l0.length : Int) then (ack_Check.l0 k2 l0 (decide (((rd_T36 l0 (wrap64 (x16_2 - 1))).f0) < ((rd_T36 l0 x16_2).f0))) l0 (l0.length : Int) (wrap64 (x16_2 + 1))) else (none)) else (none))) else (ack_Check.l0 k2 l0 false l0 (l0.length : Int) (wrap64 (x16_2 + 1))))) = some r := by rw [if_pos rfl] at H; exact H
       clear H
       have H := H1
       clear H1; replace H := Option.bind_eq_some_iff.mp H; obtain ⟨t263, A80, H⟩ := H
       replace H : (if t263 = true then (if x16_2 = 0 then (ack_Check.l0 k2 l0 true l0 (l0.length : Int) (wrap64 (x16_2 + 1))) else (if 0 ≤ (wrap64 (x16_2 - 1)) then (if (wrap64 (x16_2 - 1)) < (l0.length : Int) then (ack_Check.l0 k2 l0 (decide (((rd_T36 l0 (wrap64 (x16_2 - 1))).f0) < ((rd_T36 l0 x16_2).f0))) l0 (l0.length : Int) (wrap64 (x16_2 + 1))) else (none)) else (none))) else (ack_Check.l0 k2 l0 false l0 (l0.length : Int) (wrap64 (x16_2 + 1)))) = some r := H
       have A8 := YK A80; clear A80
       by_cases c9 : t263 = true
       ·subst c9
        have H1 : (if x16_2 = 0 then (ack_Check.l0 k2 l0 true l0 (l0.length : Int) (wrap64 (x16_2 + 1))) else (if 0 ≤ (wrap64 (x16_2 - 1)) then (if (wrap64 (x16_2 - 1)) < (l0.length : Int) then (ack_Check.l0 k2 l0 (decide (((rd_T36 l0 (wrap64 (x16_2 - 1))).f0) < ((rd_T36 l0 x16_2).f0))) l0 (l0.length : Int) (wrap64 (x16_2 + 1))) else (none)) else (none))) = some r := by rw [if_pos rfl] at H; exact H
        clear H
        have H := H1
        clear H1
        by_cases c10 : x16_2 = 0
        ·rw [if_pos c10] at H
         have c10b0 : (x16_2 == 0) = true := beq_iff_eq.mpr c10
         have c10b1 : (x16_2 != 0) = false := bne_eq_false_iff_eq.mpr c10
         clear c10
         have H' := YK H
         clear H
         have p261 : 0 ≤ (x16_2 : Int) := of_decide_eq_true (by first | (with_reducible assumption) | assumption)
         have q261 : x16_2 < (l0.length : Int) := of_decide_eq_true (by first | (with_reducible assumption) | assumption)
         obtain ⟨ad261, e261, hx261_0, hx261_1, hx261_2, hx261_3⟩ := at_T36 HR0.out x16_2 p261 q261
         cases e261
         replace hx261_0 := (HB.out.cell (World.block_lt_of_cell? w _ hx261_0)).trans hx261_0
         replace hx261_1 := (HB.out.cell (World.block_lt_of_cell? w _ hx261_1)).trans hx261_1
         replace hx261_2 := (HB.out.cell (World.block_lt_of_cell? w _ hx261_2)).trans hx261_2
         replace hx261_3 := (HB.out.cell (World.block_lt_of_cell? w _ hx261_3)).trans hx261_3
         replace p261 := eq_true p261
         replace q261 := eq_true q261
         try go_wp2_with (first | ((with_reducible refine gate_dst (N := 5) rfl ?_); (try (refine gate_guard (by rfl) ?_; dsimp only)); refine box_event ?hg (N := 5) ?hd (cs := #[.int .i64 0, .int .i64 0, .int .i64 0, .int .i64 0]) (t := 36) ?hr ?_; (case hd => rfl); (case hg => rfl); (case hr => first | (go_simp; done) | (go_simp; rfl)); intro gb262 hg w11 hbox hb; have n0_ := YK (YD (upB HB) hb); have n1_ := YK (hbox); have n2_ := YK ((by rw [hg]; exact (YE (upB HB)) : w.heap.size ≤ gb262)); have n3_ := YK ((by rw [hg]; exact (YE (upB HB)) : w.heap.size ≤ gb262)); clear HB; have HB := n0_; have BK262 := n1_; have GW262 := n2_; have GE262 := n3_; clear n0_ n1_ n2_ n3_; clear hb hbox hg; obtain ⟨q12_0, q12_1, q12_2, q12_3⟩ := cA4 BK262.out; obtain ⟨f12_0, f12_1, f12_2, f12_3⟩ := fA4 BK262.out))
         have n0_ : Aside0 (((((w11.setCell ⟨gb262, 0, none⟩ (.int .i64 ((rd_T36 l0 x16_2).f0))).setCell ⟨gb262, 1, none⟩ (.int .i64 ((rd_T36 l0 x16_2).f1))).setCell ⟨gb262, 2, none⟩ (.int .i64 ((rd_T36 l0 x16_2).f2))).setCell ⟨gb262, 3, none⟩ (.int .i64 ((rd_T36 l0 x16_2).f3))).heap[gb262]? = some (.cells #[.int .i64 ((rd_T36 l0 x16_2).f0), .int .i64 ((rd_T36 l0 x16_2).f1), .int .i64 ((rd_T36 l0 x16_2).f2), .int .i64 ((rd_T36 l0 x16_2).f3)] 36 (0, 0))) := ⟨by (with_reducible repeat (first | refine YF ?_ _ | refine YG ?_ | refine YH ?_ _)); refine blk_put (cs := #[.int .i64 ((rd_T36 l0 x16_2).f0), .int .i64 ((rd_T36 l0 x16_2).f1), .int .i64 ((rd_T36 l0 x16_2).f2), .int .i64 0]) ?_ 3 _ rfl; (with_reducible repeat (first | refine YF ?_ _ | refine YG ?_ | refine YH ?_ _)); refine blk_put (cs := #[.int .i64 ((rd_T36 l0 x16_2).f0), .int .i64 ((rd_T36 l0 x16_2).f1), .int .i64 0, .int .i64 0]) ?_ 2 _ rfl; (with_reducible repeat (first | refine YF ?_ _ | refine YG ?_ | refine YH ?_ _)); refine blk_put (cs := #[.int .i64 ((rd_T36 l0 x16_2).f0), .int .i64 0, .int .i64 0, .int .i64 0]) ?_ 1 _ rfl; (with_reducible repeat (first | refine YF ?_ _ | refine YG ?_ | refine YH ?_ _)); refine blk_put (cs := #[.int .i64 0, .int .i64 0, .int .i64 0, .int .i64 0]) ?_ 0 _ rfl; (with_reducible repeat (first | refine YF ?_ _ | refine YG ?_ | refine YH ?_ _)); exact BK262.out⟩
         have n1_ : Aside0 (Below w.heap.size w ((((w11.setCell ⟨gb262, 0, none⟩ (.int .i64 ((rd_T36 l0 x16_2).f0))).setCell ⟨gb262, 1, none⟩ (.int .i64 ((rd_T36 l0 x16_2).f1))).setCell ⟨gb262, 2, none⟩ (.int .i64 ((rd_T36 l0 x16_2).f2))).setCell ⟨gb262, 3, none⟩ (.int .i64 ((rd_T36 l0 x16_2).f3)))) := ⟨by repeat (first | (with_reducible first | exact HB.out | apply YA | apply YB | apply YC | refine below_set ?_ GE262.out) | exact HB.out)⟩
         (try clear BK262); (try clear HB)
         generalize ((((w11.setCell ⟨gb262, 0, none⟩ (.int .i64 ((rd_T36 l0 x16_2).f0))).setCell ⟨gb262, 1, none⟩ (.int .i64 ((rd_T36 l0 x16_2).f1))).setCell ⟨gb262, 2, none⟩ (.int .i64 ((rd_T36 l0 x16_2).f2))).setCell ⟨gb262, 3, none⟩ (.int .i64 ((rd_T36 l0 x16_2).f3))) = w13 at n0_ n1_ ⊢
         have BK262 := n0_; have HB := n1_; clear n0_ n1_
         have n0_ := YK (YG BK262.out)
         have n1_ := YK (YC HB.out)
         clear BK262; clear HB; have BK262 := n0_; have HB := n1_; clear n0_ n1_
         refine start_ (n := 21) (S := fun w' => w'.cell? ⟨gb262, 0, none⟩ = some (.int .i64 ((rd_T36 l0 x16_2).f0)) ∧ w'.cell? ⟨gb262, 1, none⟩ = some (.int .i64 ((rd_T36 l0 x16_2).f1)) ∧ w'.cell? ⟨gb262, 2, none⟩ = some (.int .i64 ((rd_T36 l0 x16_2).f2)) ∧ w'.cell? ⟨gb262, 3, none⟩ = some (.int .i64 ((rd_T36 l0 x16_2).f3))) (ds := []) #[false, false, false, false, false, false, false, false, false, false, false, false, false, false, false, false, false, false, false, false, false] (by kernel_rfl) rfl rfl ⟨(YI BK262.out 0).trans rfl, (YI BK262.out 1).trans rfl, (YI BK262.out 2).trans rfl, (YI BK262.out 3).trans rfl⟩ (fun hHeld => ?_); refine with_tabW ack_Check.tab5 ack_Check.bits5 (fun HT_ HW_ => ?_)
         generalize w13.drew = w14 at BK262 HB hHeld ⊢
         refine pure_ (i := 0) (N := some 21) (v := ?_) (a' := ?_) #[true, false, false, false, false, false, false, false, false, false, false, false, false, false, false, false, false, false, false, false, false] rfl rfl (any_of HT_.out (by kernel_rfl)) (fun _ _ _ h => h) (Or.inl ⟨by rfl, ?_⟩) ?_ ?_
         rotate_left
         ·intro w'
          go_simp; with_reducible rfl
         rotate_left
         ·simp only [Act.put, YL, YM, YN, i64_w, i32_w]
          rfl
         refine pure_ (i := 1) (N := some 22) (v := ?_) (a' := ?_) #[true, true, false, false, false, false, false, false, false, false, false, false, false, false, false, false, false, false, false, false, false] rfl rfl (any_of HT_.out (by kernel_rfl)) (fun _ _ _ h => h) (Or.inl ⟨by rfl, ?_⟩) ?_ ?_
         rotate_left
         ·intro w'
          go_simp; with_reducible rfl
         rotate_left
         ·simp only [Act.put, YL, YM, YN, i64_w, i32_w]
          rfl
         refine take_ (i := 2) (N := some 23) (v := ?_) (a' := ?_) #[true, true, true, false, false, false, false, false, false, false, false, false, false, false, false, false, false, false, false, false, false] rfl rfl (take_ofW HT_.out HW_.out (by kernel_rfl)) (fun _ _ _ h => h) (Or.inl ⟨by rfl, ?_⟩) hHeld ?_ ?_
         rotate_left
         ·rintro w' ⟨s0, s1, s2, s3⟩
          go_simp; with_reducible rfl
         rotate_left
         ·simp only [Act.put, YL, YM, YN, i64_w, i32_w]
          rfl
         refine oneA (i := 3) (N := some 24) HT_ (fun K hK => ?_)
         refine goes_ Try.func57 (by kernel_rfl) rfl #[.agg #[.int .i64 ((rd_T36 l0 x16_2).f0), .int .i64 ((rd_T36 l0 x16_2).f1), .int .i64 ((rd_T36 l0 x16_2).f2), .int .i64 ((rd_T36 l0 x16_2).f3)]] (by rfl) rfl rfl (by (try simp only [List.map_toArray, List.map_cons, List.map_nil]); first | done | rfl | (simp only [List.length_drop, List.length_take]; rfl)) ?_
         with_reducible refine (ack_right.calls ((rd_T36 l0 x16_2).f0) ((rd_T36 l0 x16_2).f1) ((rd_T36 l0 x16_2).f2) ((rd_T36 l0 x16_2).f3) true _ A8.out).mono ?_
         rintro e w15 ⟨rfl, hb⟩
         refine ⟨_, rfl, ?_⟩
         have n0_ := YK (blk_below (g := gb262) (o := .cells #[.int .i64 ((rd_T36 l0 x16_2).f0), .int .i64 ((rd_T36 l0 x16_2).f1), .int .i64 ((rd_T36 l0 x16_2).f2), .int .i64 ((rd_T36 l0 x16_2).f3)] 36 (0, 0)) (upK BK262) hb)
         have n1_ := YK (YD (upB HB) hb)
         clear BK262; clear HB; have BK262 := n0_; have HB := n1_; clear n0_ n1_; (try clear hb); (try clear hb2); (try clear hk); (try clear hi)
         refine hK.out _ _ ⟨(YI BK262.out 0).trans rfl, (YI BK262.out 1).trans rfl, (YI BK262.out 2).trans rfl, (YI BK262.out 3).trans rfl⟩ (fun hHeld => ?_)
         clear hK K
         refine normA (N := 24) ?_
         refine pure_ (i := 4) (N := some 25) (v := ?_) (a' := ?_) #[true, true, true, true, true, false, false, false, false, false, false, false, false, false, false, false, false, false, false, false, false] rfl rfl (any_of HT_.out (by kernel_rfl)) (fun _ _ _ h => h) (Or.inl ⟨by rfl, ?_⟩) ?_ ?_
         rotate_left
         ·intro w'
          go_simp; with_reducible rfl
         rotate_left
         ·simp only [Act.put, YL, YM, YN, i64_w, i32_w]
          rfl
         refine pure_ (i := 5) (N := some 26) (v := ?_) (a' := ?_) #[true, true, true, true, true, true, false, false, false, false, false, false, false, false, false, false, false, false, false, false, false] rfl rfl (any_of HT_.out (by kernel_rfl)) (fun _ _ _ h => h) (Or.inl ⟨by rfl, ?_⟩) ?_ ?_
         rotate_left
         ·intro w'
          go_simp; with_reducible rfl
         rotate_left
         ·simp only [Act.put, YL, YM, YN, i64_w, i32_w]
          rfl
         refine pure_ (i := 6) (N := some 27) (v := ?_) (a' := ?_) #[true, true, true, true, true, true, true, false, false, false, false, false, false, false, false, false, false, false, false, false, false] rfl rfl (any_of HT_.out (by kernel_rfl)) (fun _ _ _ h => h) (Or.inl ⟨by rfl, ?_⟩) ?_ ?_
         rotate_left
         ·intro w'
          go_simp; with_reducible rfl
         rotate_left
         ·simp only [Act.put, YL, YM, YN, i64_w, i32_w]
          rfl
         refine pure_ (i := 7) (N := some 28) (v := ?_) (a' := ?_) #[true, true, true, true, true, true, true, true, false, false, false, false, false, false, false, false, false, false, false, false, false] rfl rfl (any_of HT_.out (by kernel_rfl)) (fun _ _ _ h => h) (Or.inl ⟨by rfl, ?_⟩) ?_ ?_
         rotate_left
         ·intro w'
          go_simp; with_reducible rfl
         rotate_left
         ·simp only [Act.put, YL, YM, YN, i64_w, i32_w]
          rfl
         refine pure_ (i := 8) (N := some 29) (v := ?_) (a' := ?_) #[true, true, true, true, true, true, true, true, true, false, false, false, false, false, false, false, false, false, false, false, false] rfl rfl (any_of HT_.out (by kernel_rfl)) (fun _ _ _ h => h) (Or.inl ⟨by rfl, ?_⟩) ?_ ?_
         rotate_left
         ·intro w'
          go_simp; with_reducible rfl
         rotate_left
         ·simp only [Act.put, YL, YM, YN, i64_w, i32_w]
          rfl
         refine pure_ (i := 9) (N := some 30) (v := undef) (a' := ?_) #[true, true, true, true, true, true, true, true, true, true, false, false, false, false, false, false, false, false, false, false, false] rfl rfl (any_of HT_.out (by kernel_rfl)) (fun _ _ _ h => h) (Or.inr ⟨by rfl, rfl⟩) ?_ ?_
         rotate_left
         ·simp only [Act.put, YL, YM, YN, i64_w, i32_w]
          rfl
         refine pure_ (i := 10) (N := some 31) (v := undef) (a' := ?_) #[true, true, true, true, true, true, true, true, true, true, true, false, false, false, false, false, false, false, false, false, false] rfl rfl (any_of HT_.out (by kernel_rfl)) (fun _ _ _ h => h) (Or.inr ⟨by rfl, rfl⟩) ?_ ?_
         rotate_left
         ·simp only [Act.put, YL, YM, YN, i64_w, i32_w]
          rfl
         refine pure_ (i := 11) (N := some 32) (v := undef) (a' := ?_) #[true, true, true, true, true, true, true, true, true, true, true, true, false, false, false, false, false, false, false, false, false] rfl rfl (any_of HT_.out (by kernel_rfl)) (fun _ _ _ h => h) (Or.inr ⟨by rfl, rfl⟩) ?_ ?_
         rotate_left
         ·simp only [Act.put, YL, YM, YN, i64_w, i32_w]
          rfl
         refine pure_ (i := 12) (N := some 33) (v := undef) (a' := ?_) #[true, true, true, true, true, true, true, true, true, true, true, true, true, false, false, false, false, false, false, false, false] rfl rfl (any_of HT_.out (by kernel_rfl)) (fun _ _ _ h => h) (Or.inr ⟨by rfl, rfl⟩) ?_ ?_
         rotate_left
         ·simp only [Act.put, YL, YM, YN, i64_w, i32_w]
          rfl
         refine pure_ (i := 13) (N := some 34) (v := undef) (a' := ?_) #[true, true, true, true, true, true, true, true, true, true, true, true, true, true, false, false, false, false, false, false, false] rfl rfl (any_of HT_.out (by kernel_rfl)) (fun _ _ _ h => h) (Or.inr ⟨by rfl, rfl⟩) ?_ ?_
         rotate_left
         ·simp only [Act.put, YL, YM, YN, i64_w, i32_w]
          rfl
         refine pure_ (i := 14) (N := some 35) (v := undef) (a' := ?_) #[true, true, true, true, true, true, true, true, true, true, true, true, true, true, true, false, false, false, false, false, false] rfl rfl (any_of HT_.out (by kernel_rfl)) (fun _ _ _ h => h) (Or.inr ⟨by rfl, rfl⟩) ?_ ?_
         rotate_left
         ·simp only [Act.put, YL, YM, YN, i64_w, i32_w]
          rfl
         refine pure_ (i := 15) (N := some 36) (v := undef) (a' := ?_) #[true, true, true, true, true, true, true, true, true, true, true, true, true, true, true, true, false, false, false, false, false] rfl rfl (any_of HT_.out (by kernel_rfl)) (fun _ _ _ h => h) (Or.inr ⟨by rfl, rfl⟩) ?_ ?_
         rotate_left
         ·simp only [Act.put, YL, YM, YN, i64_w, i32_w]
          rfl
         refine pure_ (i := 16) (N := some 37) (v := undef) (a' := ?_) #[true, true, true, true, true, true, true, true, true, true, true, true, true, true, true, true, true, false, false, false, false] rfl rfl (any_of HT_.out (by kernel_rfl)) (fun _ _ _ h => h) (Or.inr ⟨by rfl, rfl⟩) ?_ ?_
         rotate_left
         ·simp only [Act.put, YL, YM, YN, i64_w, i32_w]
          rfl
         refine pure_ (i := 17) (N := some 38) (v := undef) (a' := ?_) #[true, true, true, true, true, true, true, true, true, true, true, true, true, true, true, true, true, true, false, false, false] rfl rfl (any_of HT_.out (by kernel_rfl)) (fun _ _ _ h => h) (Or.inr ⟨by rfl, rfl⟩) ?_ ?_
         rotate_left
         ·simp only [Act.put, YL, YM, YN, i64_w, i32_w]
          rfl
         refine pure_ (i := 18) (N := some 39) (v := ?_) (a' := ?_) #[true, true, true, true, true, true, true, true, true, true, true, true, true, true, true, true, true, true, true, false, false] rfl rfl (any_of HT_.out (by kernel_rfl)) (fun _ _ _ h => h) (Or.inl ⟨by rfl, ?_⟩) ?_ ?_
         rotate_left
         ·intro w'
          go_simp; with_reducible rfl
         rotate_left
         ·simp only [Act.put, YL, YM, YN, i64_w, i32_w]
          rfl
         refine pure_ (i := 19) (N := some 40) (v := ?_) (a' := ?_) #[true, true, true, true, true, true, true, true, true, true, true, true, true, true, true, true, true, true, true, true, false] rfl rfl (any_of HT_.out (by kernel_rfl)) (fun _ _ _ h => h) (Or.inl ⟨by rfl, ?_⟩) ?_ ?_
         rotate_left
         ·intro w'
          go_simp; with_reducible rfl
         rotate_left
         ·simp only [Act.put, YL, YM, YN, i64_w, i32_w]
          rfl
         refine pure_ (i := 20) (N := some 3) (v := ?_) (a' := ?_) #[true, true, true, true, true, true, true, true, true, true, true, true, true, true, true, true, true, true, true, true, true] rfl rfl (any_of HT_.out (by kernel_rfl)) (fun _ _ _ h => h) (Or.inl ⟨by rfl, ?_⟩) ?_ ?_
         rotate_left
         ·intro w'
          go_simp; with_reducible rfl
         rotate_left
         ·simp only [Act.put, YL, YM, YN, i64_w, i32_w]
          rfl
         refine done_ (done_of HT_.out (by kernel_rfl)) ?_
         try go_wp2
         go_roundg k2
         case measure => have := HJ1.out; have := HK2.out; omega
         case rel => exact ⟨(true), (wrap64 (x16_2 + 1)), (by first | rfl | (simp; done) | (simp [*]; done)), (by first | rfl | (simp; done) | (simp [*]; done)), H', ⟨by have := HJ1.out; have := HK2.out; omega⟩, ⟨by repeat (first | (with_reducible first | exact HB.out | apply YA | apply YB | apply YC | refine below_set ?_ GE262.out) | exact HB.out)⟩⟩
        rw [if_neg c10] at H
        have c10b0 : (x16_2 == 0) = false := beq_eq_false_iff_ne.mpr c10
        have c10b1 : (x16_2 != 0) = true := bne_iff_ne.mpr c10
        obtain ⟨ji16, hji16⟩ : ∃ j_ : Int, (wrap64 (x16_2 - 1)) = j_ := ⟨_, rfl⟩
        replace H : (if 0 ≤ (ji16) then (if (ji16) < (l0.length : Int) then (ack_Check.l0 k2 l0 (decide (((rd_T36 l0 (ji16)).f0) < ((rd_T36 l0 x16_2).f0))) l0 (l0.length : Int) (wrap64 (x16_2 + 1))) else (none)) else (none)) = some r := by first | (rw [hji16] at H; exact H) | (simp only [hji16] at H ⊢; exact H)
        (try rw [hji16] at A8)
        have hji16w : (IntKind.i64.wrap (x16_2 - 1)) = ji16 := (i64_w _).trans hji16
        by_cases c17 : 0 ≤ (ji16)
        rotate_left
        ·rw [if_neg c17] at H
         exact absurd H (by simp)
        rw [if_pos c17] at H; have c17b0 : decide (0 ≤ (ji16)) = true := decide_eq_true c17; clear c17
        by_cases c18 : (ji16) < (l0.length : Int)
        rotate_left
        ·rw [if_neg c18] at H
         exact absurd H (by simp)
        rw [if_pos c18] at H
        have c18b0 : decide ((ji16) < (l0.length : Int)) = true := decide_eq_true c18
        clear c18
        have H' := YK H
        clear H
        have p261 : 0 ≤ (x16_2 : Int) := of_decide_eq_true (by first | (with_reducible assumption) | assumption)
        have q261 : x16_2 < (l0.length : Int) := of_decide_eq_true (by first | (with_reducible assumption) | assumption)
        obtain ⟨ad261, e261, hx261_0, hx261_1, hx261_2, hx261_3⟩ := at_T36 HR0.out x16_2 p261 q261
        cases e261
        replace hx261_0 := (HB.out.cell (World.block_lt_of_cell? w _ hx261_0)).trans hx261_0
        replace hx261_1 := (HB.out.cell (World.block_lt_of_cell? w _ hx261_1)).trans hx261_1
        replace hx261_2 := (HB.out.cell (World.block_lt_of_cell? w _ hx261_2)).trans hx261_2
        replace hx261_3 := (HB.out.cell (World.block_lt_of_cell? w _ hx261_3)).trans hx261_3
        replace p261 := eq_true p261
        replace q261 := eq_true q261
        try go_wp2_with (first | ((with_reducible refine gate_dst (N := 5) rfl ?_); (try (refine gate_guard (by rfl) ?_; dsimp only)); refine box_event ?hg (N := 5) ?hd (cs := #[.int .i64 0, .int .i64 0, .int .i64 0, .int .i64 0]) (t := 36) ?hr ?_; (case hd => rfl); (case hg => rfl); (case hr => first | (go_simp; done) | (go_simp; rfl)); intro gb262 hg w19 hbox hb; have n0_ := YK (YD (upB HB) hb); have n1_ := YK (hbox); have n2_ := YK ((by rw [hg]; exact (YE (upB HB)) : w.heap.size ≤ gb262)); have n3_ := YK ((by rw [hg]; exact (YE (upB HB)) : w.heap.size ≤ gb262)); clear HB; have HB := n0_; have BK262 := n1_; have GW262 := n2_; have GE262 := n3_; clear n0_ n1_ n2_ n3_; clear hb hbox hg; obtain ⟨q20_0, q20_1, q20_2, q20_3⟩ := cA4 BK262.out; obtain ⟨f20_0, f20_1, f20_2, f20_3⟩ := fA4 BK262.out))
        have n0_ : Aside0 (((((w19.setCell ⟨gb262, 0, none⟩ (.int .i64 ((rd_T36 l0 x16_2).f0))).setCell ⟨gb262, 1, none⟩ (.int .i64 ((rd_T36 l0 x16_2).f1))).setCell ⟨gb262, 2, none⟩ (.int .i64 ((rd_T36 l0 x16_2).f2))).setCell ⟨gb262, 3, none⟩ (.int .i64 ((rd_T36 l0 x16_2).f3))).heap[gb262]? = some (.cells #[.int .i64 ((rd_T36 l0 x16_2).f0), .int .i64 ((rd_T36 l0 x16_2).f1), .int .i64 ((rd_T36 l0 x16_2).f2), .int .i64 ((rd_T36 l0 x16_2).f3)] 36 (0, 0))) := ⟨by (with_reducible repeat (first | refine YF ?_ _ | refine YG ?_ | refine YH ?_ _)); refine blk_put (cs := #[.int .i64 ((rd_T36 l0 x16_2).f0), .int .i64 ((rd_T36 l0 x16_2).f1), .int .i64 ((rd_T36 l0 x16_2).f2), .int .i64 0]) ?_ 3 _ rfl; (with_reducible repeat (first | refine YF ?_ _ | refine YG ?_ | refine YH ?_ _)); refine blk_put (cs := #[.int .i64 ((rd_T36 l0 x16_2).f0), .int .i64 ((rd_T36 l0 x16_2).f1), .int .i64 0, .int .i64 0]) ?_ 2 _ rfl; (with_reducible repeat (first | refine YF ?_ _ | refine YG ?_ | refine YH ?_ _)); refine blk_put (cs := #[.int .i64 ((rd_T36 l0 x16_2).f0), .int .i64 0, .int .i64 0, .int .i64 0]) ?_ 1 _ rfl; (with_reducible repeat (first | refine YF ?_ _ | refine YG ?_ | refine YH ?_ _)); refine blk_put (cs := #[.int .i64 0, .int .i64 0, .int .i64 0, .int .i64 0]) ?_ 0 _ rfl; (with_reducible repeat (first | refine YF ?_ _ | refine YG ?_ | refine YH ?_ _)); exact BK262.out⟩
        have n1_ : Aside0 (Below w.heap.size w ((((w19.setCell ⟨gb262, 0, none⟩ (.int .i64 ((rd_T36 l0 x16_2).f0))).setCell ⟨gb262, 1, none⟩ (.int .i64 ((rd_T36 l0 x16_2).f1))).setCell ⟨gb262, 2, none⟩ (.int .i64 ((rd_T36 l0 x16_2).f2))).setCell ⟨gb262, 3, none⟩ (.int .i64 ((rd_T36 l0 x16_2).f3)))) := ⟨by repeat (first | (with_reducible first | exact HB.out | apply YA | apply YB | apply YC | refine below_set ?_ GE262.out) | exact HB.out)⟩
        (try clear BK262); (try clear HB)
        generalize ((((w19.setCell ⟨gb262, 0, none⟩ (.int .i64 ((rd_T36 l0 x16_2).f0))).setCell ⟨gb262, 1, none⟩ (.int .i64 ((rd_T36 l0 x16_2).f1))).setCell ⟨gb262, 2, none⟩ (.int .i64 ((rd_T36 l0 x16_2).f2))).setCell ⟨gb262, 3, none⟩ (.int .i64 ((rd_T36 l0 x16_2).f3))) = w21 at n0_ n1_ ⊢
        have BK262 := n0_; have HB := n1_; clear n0_ n1_
        have n0_ := YK (YG BK262.out)
        have n1_ := YK (YC HB.out)
        clear BK262; clear HB; have BK262 := n0_; have HB := n1_; clear n0_ n1_
        have p264 : 0 ≤ ((ji16) : Int) := of_decide_eq_true (by first | (with_reducible assumption) | assumption)
        have q264 : (ji16) < (l0.length : Int) := of_decide_eq_true (by first | (with_reducible assumption) | assumption)
        obtain ⟨ad264, e264, hx264_0, hx264_1, hx264_2, hx264_3⟩ := at_T36 HR0.out (ji16) p264 q264
        have hw264_3 := hx264_3
        have hw264_2 := hx264_2
        have hw264_1 := hx264_1
        have hw264_0 := hx264_0
        obtain rfl : ad261 = ad264 := (by injection e264)
        replace hx264_0 := (HB.out.cell (World.block_lt_of_cell? w _ hx264_0)).trans hx264_0
        replace hx264_1 := (HB.out.cell (World.block_lt_of_cell? w _ hx264_1)).trans hx264_1
        replace hx264_2 := (HB.out.cell (World.block_lt_of_cell? w _ hx264_2)).trans hx264_2
        replace hx264_3 := (HB.out.cell (World.block_lt_of_cell? w _ hx264_3)).trans hx264_3
        replace p264 := eq_true p264
        replace q264 := eq_true q264
        refine start_ (n := 21) (S := fun w' => w'.cell? ⟨gb262, 0, none⟩ = some (.int .i64 ((rd_T36 l0 x16_2).f0)) ∧ w'.cell? ⟨gb262, 1, none⟩ = some (.int .i64 ((rd_T36 l0 x16_2).f1)) ∧ w'.cell? ⟨gb262, 2, none⟩ = some (.int .i64 ((rd_T36 l0 x16_2).f2)) ∧ w'.cell? ⟨gb262, 3, none⟩ = some (.int .i64 ((rd_T36 l0 x16_2).f3)) ∧ w'.cell? (ad261.add (((ji16)).toNat * 4)) = some (.int .i64 ((rd_T36 l0 (ji16)).f0)) ∧ w'.cell? ⟨(ad261.add (((ji16)).toNat * 4)).block, (ad261.add (((ji16)).toNat * 4)).off + 1, none⟩ = some (.int .i64 ((rd_T36 l0 (ji16)).f1)) ∧ w'.cell? ⟨(ad261.add (((ji16)).toNat * 4)).block, (ad261.add (((ji16)).toNat * 4)).off + 2, none⟩ = some (.int .i64 ((rd_T36 l0 (ji16)).f2)) ∧ w'.cell? ⟨(ad261.add (((ji16)).toNat * 4)).block, (ad261.add (((ji16)).toNat * 4)).off + 3, none⟩ = some (.int .i64 ((rd_T36 l0 (ji16)).f3))) (ds := []) #[false, false, false, false, false, false, false, false, false, false, false, false, false, false, false, false, false, false, false, false, false] (by kernel_rfl) rfl rfl ⟨(YI BK262.out 0).trans rfl, (YI BK262.out 1).trans rfl, (YI BK262.out 2).trans rfl, (YI BK262.out 3).trans rfl, ((HB.out.cell (World.block_lt_of_cell? w _ hw264_0)).trans hw264_0), ((HB.out.cell (World.block_lt_of_cell? w _ hw264_1)).trans hw264_1), ((HB.out.cell (World.block_lt_of_cell? w _ hw264_2)).trans hw264_2), ((HB.out.cell (World.block_lt_of_cell? w _ hw264_3)).trans hw264_3)⟩ (fun hHeld => ?_); refine with_tabW ack_Check.tab5 ack_Check.bits5 (fun HT_ HW_ => ?_)
        generalize w21.drew = w22 at BK262 HB hx264_0 hx264_1 hx264_2 hx264_3 hHeld ⊢
        refine pure_ (i := 0) (N := some 21) (v := ?_) (a' := ?_) #[true, false, false, false, false, false, false, false, false, false, false, false, false, false, false, false, false, false, false, false, false] rfl rfl (any_of HT_.out (by kernel_rfl)) (fun _ _ _ h => h) (Or.inl ⟨by rfl, ?_⟩) ?_ ?_
        rotate_left
        ·intro w'
         go_simp; with_reducible rfl
        rotate_left
        ·simp only [Act.put, YL, YM, YN, i64_w, i32_w]
         rfl
        refine pure_ (i := 1) (N := some 22) (v := ?_) (a' := ?_) #[true, true, false, false, false, false, false, false, false, false, false, false, false, false, false, false, false, false, false, false, false] rfl rfl (any_of HT_.out (by kernel_rfl)) (fun _ _ _ h => h) (Or.inl ⟨by rfl, ?_⟩) ?_ ?_
        rotate_left
        ·intro w'
         go_simp; with_reducible rfl
        rotate_left
        ·simp only [Act.put, YL, YM, YN, i64_w, i32_w]
         rfl
        refine take_ (i := 2) (N := some 23) (v := ?_) (a' := ?_) #[true, true, true, false, false, false, false, false, false, false, false, false, false, false, false, false, false, false, false, false, false] rfl rfl (take_ofW HT_.out HW_.out (by kernel_rfl)) (fun _ _ _ h => h) (Or.inl ⟨by rfl, ?_⟩) hHeld ?_ ?_
        rotate_left
        ·rintro w' ⟨s0, s1, s2, s3, s4, s5, s6, s7⟩
         go_simp; with_reducible rfl
        rotate_left
        ·simp only [Act.put, YL, YM, YN, i64_w, i32_w]
         rfl
        refine oneA (i := 3) (N := some 24) HT_ (fun K hK => ?_)
        refine goes_ Try.func57 (by kernel_rfl) rfl #[.agg #[.int .i64 ((rd_T36 l0 x16_2).f0), .int .i64 ((rd_T36 l0 x16_2).f1), .int .i64 ((rd_T36 l0 x16_2).f2), .int .i64 ((rd_T36 l0 x16_2).f3)]] (by rfl) rfl rfl (by (try simp only [List.map_toArray, List.map_cons, List.map_nil]); first | done | rfl | (simp only [List.length_drop, List.length_take]; rfl)) ?_
        with_reducible refine (ack_right.calls ((rd_T36 l0 x16_2).f0) ((rd_T36 l0 x16_2).f1) ((rd_T36 l0 x16_2).f2) ((rd_T36 l0 x16_2).f3) true _ A8.out).mono ?_
        rintro e w23 ⟨rfl, hb⟩
        refine ⟨_, rfl, ?_⟩
        have n0_ := YK (blk_below (g := gb262) (o := .cells #[.int .i64 ((rd_T36 l0 x16_2).f0), .int .i64 ((rd_T36 l0 x16_2).f1), .int .i64 ((rd_T36 l0 x16_2).f2), .int .i64 ((rd_T36 l0 x16_2).f3)] 36 (0, 0)) (upK BK262) hb)
        have n1_ := YK (YD (upB HB) hb)
        clear BK262; clear HB; have BK262 := n0_; have HB := n1_; clear n0_ n1_; (try clear hb); (try clear hb2); (try clear hk); (try clear hi)
        refine hK.out _ _ ⟨(YI BK262.out 0).trans rfl, (YI BK262.out 1).trans rfl, (YI BK262.out 2).trans rfl, (YI BK262.out 3).trans rfl, ((HB.out.cell (World.block_lt_of_cell? w _ hw264_0)).trans hw264_0), ((HB.out.cell (World.block_lt_of_cell? w _ hw264_1)).trans hw264_1), ((HB.out.cell (World.block_lt_of_cell? w _ hw264_2)).trans hw264_2), ((HB.out.cell (World.block_lt_of_cell? w _ hw264_3)).trans hw264_3)⟩ (fun hHeld => ?_)
        clear hK K
        refine normA (N := 24) ?_
        refine pure_ (i := 4) (N := some 25) (v := ?_) (a' := ?_) #[true, true, true, true, true, false, false, false, false, false, false, false, false, false, false, false, false, false, false, false, false] rfl rfl (any_of HT_.out (by kernel_rfl)) (fun _ _ _ h => h) (Or.inl ⟨by rfl, ?_⟩) ?_ ?_
        rotate_left
        ·intro w'
         go_simp; with_reducible rfl
        rotate_left
        ·simp only [Act.put, YL, YM, YN, i64_w, i32_w]
         rfl
        refine pure_ (i := 5) (N := some 26) (v := ?_) (a' := ?_) #[true, true, true, true, true, true, false, false, false, false, false, false, false, false, false, false, false, false, false, false, false] rfl rfl (any_of HT_.out (by kernel_rfl)) (fun _ _ _ h => h) (Or.inl ⟨by rfl, ?_⟩) ?_ ?_
        rotate_left
        ·intro w'
         go_simp; with_reducible rfl
        rotate_left
        ·simp only [Act.put, YL, YM, YN, i64_w, i32_w]
         rfl
        refine pure_ (i := 6) (N := some 27) (v := ?_) (a' := ?_) #[true, true, true, true, true, true, true, false, false, false, false, false, false, false, false, false, false, false, false, false, false] rfl rfl (any_of HT_.out (by kernel_rfl)) (fun _ _ _ h => h) (Or.inl ⟨by rfl, ?_⟩) ?_ ?_
        rotate_left
        ·intro w'
         go_simp; with_reducible rfl
        rotate_left
        ·simp only [Act.put, YL, YM, YN, i64_w, i32_w]
         rfl
        refine pure_ (i := 7) (N := some 28) (v := ?_) (a' := ?_) #[true, true, true, true, true, true, true, true, false, false, false, false, false, false, false, false, false, false, false, false, false] rfl rfl (any_of HT_.out (by kernel_rfl)) (fun _ _ _ h => h) (Or.inl ⟨by rfl, ?_⟩) ?_ ?_
        rotate_left
        ·intro w'
         go_simp; with_reducible rfl
        rotate_left
        ·simp only [Act.put, YL, YM, YN, i64_w, i32_w]
         rfl
        refine pure_ (i := 8) (N := some 29) (v := ?_) (a' := ?_) #[true, true, true, true, true, true, true, true, true, false, false, false, false, false, false, false, false, false, false, false, false] rfl rfl (any_of HT_.out (by kernel_rfl)) (fun _ _ _ h => h) (Or.inl ⟨by rfl, ?_⟩) ?_ ?_
        rotate_left
        ·intro w'
         go_simp; with_reducible rfl
        rotate_left
        ·simp only [Act.put, YL, YM, YN, i64_w, i32_w]
         rfl
        refine pure_ (i := 9) (N := some 30) (v := ?_) (a' := ?_) #[true, true, true, true, true, true, true, true, true, true, false, false, false, false, false, false, false, false, false, false, false] rfl rfl (any_of HT_.out (by kernel_rfl)) (fun _ _ _ h => h) (Or.inl ⟨by rfl, ?_⟩) ?_ ?_
        rotate_left
        ·intro w'
         go_simp; with_reducible rfl
        rotate_left
        ·simp only [Act.put, YL, YM, YN, i64_w, i32_w]
         rfl
        refine pure_ (i := 10) (N := some 31) (v := ?_) (a' := ?_) #[true, true, true, true, true, true, true, true, true, true, true, false, false, false, false, false, false, false, false, false, false] rfl rfl (any_of HT_.out (by kernel_rfl)) (fun _ _ _ h => h) (Or.inl ⟨by rfl, ?_⟩) ?_ ?_
        rotate_left
        ·intro w'
         go_simp; with_reducible rfl
        rotate_left
        ·simp only [Act.put, YL, YM, YN, i64_w, i32_w]
         rfl
        refine pure_ (i := 11) (N := some 32) (v := ?_) (a' := ?_) #[true, true, true, true, true, true, true, true, true, true, true, true, false, false, false, false, false, false, false, false, false] rfl rfl (any_of HT_.out (by kernel_rfl)) (fun _ _ _ h => h) (Or.inl ⟨by rfl, ?_⟩) ?_ ?_
        rotate_left
        ·intro w'
         go_simp; with_reducible rfl
        rotate_left
        ·simp only [Act.put, YL, YM, YN, i64_w, i32_w]
         rfl
        refine pure_ (i := 12) (N := some 33) (v := ?_) (a' := ?_) #[true, true, true, true, true, true, true, true, true, true, true, true, true, false, false, false, false, false, false, false, false] rfl rfl (any_of HT_.out (by kernel_rfl)) (fun _ _ _ h => h) (Or.inl ⟨by rfl, ?_⟩) ?_ ?_
        rotate_left
        ·intro w'
         go_simp; with_reducible rfl
        rotate_left
        ·simp only [Act.put, YL, YM, YN, i64_w, i32_w]
         rfl
        refine pure_ (i := 13) (N := some 34) (v := ?_) (a' := ?_) #[true, true, true, true, true, true, true, true, true, true, true, true, true, true, false, false, false, false, false, false, false] rfl rfl (any_of HT_.out (by kernel_rfl)) (fun _ _ _ h => h) (Or.inl ⟨by rfl, ?_⟩) ?_ ?_
        rotate_left
        ·intro w'
         go_simp; with_reducible rfl
        rotate_left
        ·simp only [Act.put, YL, YM, YN, i64_w, i32_w]
         rfl
        refine pure_ (i := 15) (N := some 36) (v := ?_) (a' := ?_) #[true, true, true, true, true, true, true, true, true, true, true, true, true, true, false, true, false, false, false, false, false] rfl rfl (any_of HT_.out (by kernel_rfl)) (fun _ _ _ h => h) (Or.inl ⟨by rfl, ?_⟩) ?_ ?_
        rotate_left
        ·intro w'
         go_simp; with_reducible rfl
        rotate_left
        ·simp only [Act.put, YL, YM, YN, i64_w, i32_w]
         rfl
        refine take_ (i := 14) (N := some 35) (v := ?_) (a' := ?_) #[true, true, true, true, true, true, true, true, true, true, true, true, true, true, true, true, false, false, false, false, false] rfl rfl (take_ofW HT_.out HW_.out (by kernel_rfl)) (fun _ _ _ h => h) (Or.inl ⟨by rfl, ?_⟩) hHeld ?_ ?_
        rotate_left
        ·rintro w' ⟨s0, s1, s2, s3, s4, s5, s6, s7⟩
         go_simp; with_reducible rfl
        rotate_left
        ·simp only [Act.put, YL, YM, YN, i64_w, i32_w]
         rfl
        refine take_ (i := 16) (N := some 37) (v := ?_) (a' := ?_) #[true, true, true, true, true, true, true, true, true, true, true, true, true, true, true, true, true, false, false, false, false] rfl rfl (take_ofW HT_.out HW_.out (by kernel_rfl)) (fun _ _ _ h => h) (Or.inl ⟨by rfl, ?_⟩) hHeld ?_ ?_
        rotate_left
        ·rintro w' ⟨s0, s1, s2, s3, s4, s5, s6, s7⟩
         go_simp; with_reducible rfl
        rotate_left
        ·simp only [Act.put, YL, YM, YN, i64_w, i32_w]
         rfl
        refine pure_ (i := 17) (N := some 38) (v := ?_) (a' := ?_) #[true, true, true, true, true, true, true, true, true, true, true, true, true, true, true, true, true, true, false, false, false] rfl rfl (any_of HT_.out (by kernel_rfl)) (fun _ _ _ h => h) (Or.inl ⟨by rfl, ?_⟩) ?_ ?_
        rotate_left
        ·intro w'
         go_simp; with_reducible rfl
        rotate_left
        ·simp only [Act.put, YL, YM, YN, i64_w, i32_w]
         rfl
        refine pure_ (i := 18) (N := some 39) (v := ?_) (a' := ?_) #[true, true, true, true, true, true, true, true, true, true, true, true, true, true, true, true, true, true, true, false, false] rfl rfl (any_of HT_.out (by kernel_rfl)) (fun _ _ _ h => h) (Or.inl ⟨by rfl, ?_⟩) ?_ ?_
        rotate_left
        ·intro w'
         go_simp; with_reducible rfl
        rotate_left
        ·simp only [Act.put, YL, YM, YN, i64_w, i32_w]
         rfl
        refine pure_ (i := 19) (N := some 40) (v := ?_) (a' := ?_) #[true, true, true, true, true, true, true, true, true, true, true, true, true, true, true, true, true, true, true, true, false] rfl rfl (any_of HT_.out (by kernel_rfl)) (fun _ _ _ h => h) (Or.inl ⟨by rfl, ?_⟩) ?_ ?_
        rotate_left
        ·intro w'
         go_simp; with_reducible rfl
        rotate_left
        ·simp only [Act.put, YL, YM, YN, i64_w, i32_w]
         rfl
        refine pure_ (i := 20) (N := some 3) (v := ?_) (a' := ?_) #[true, true, true, true, true, true, true, true, true, true, true, true, true, true, true, true, true, true, true, true, true] rfl rfl (any_of HT_.out (by kernel_rfl)) (fun _ _ _ h => h) (Or.inl ⟨by rfl, ?_⟩) ?_ ?_
        rotate_left
        ·intro w'
         go_simp; with_reducible rfl
        rotate_left
        ·simp only [Act.put, YL, YM, YN, i64_w, i32_w]
         rfl
        refine done_ (done_of HT_.out (by kernel_rfl)) ?_
        try go_wp2
        go_roundg k2
        case measure => have := HJ1.out; have := HK2.out; omega
        case rel => exact ⟨(decide (((rd_T36 l0 (ji16)).f0) < ((rd_T36 l0 x16_2).f0))), (wrap64 (x16_2 + 1)), (by first | rfl | (simp; done) | (simp only [← hji16] <;> (first | rfl | simp)) | (simp [*]; done)), (by first | rfl | (simp; done) | (simp [*]; done)), H', ⟨by have := HJ1.out; have := HK2.out; omega⟩, ⟨by repeat (first | (with_reducible first | exact HB.out | apply YA | apply YB | apply YC | refine below_set ?_ GE262.out) | exact HB.out)⟩⟩
       replace c9 := Bool.eq_false_iff.mpr c9
       subst c9
       have H1 : (ack_Check.l0 k2 l0 false l0 (l0.length : Int) (wrap64 (x16_2 + 1))) = some r := by rw [if_neg (show ¬ (false = true) by decide)] at H; exact H
       clear H
       have H := H1
       clear H1
       have H' := YK H
       clear H
       have p261 : 0 ≤ (x16_2 : Int) := of_decide_eq_true (by first | (with_reducible assumption) | assumption)
       have q261 : x16_2 < (l0.length : Int) := of_decide_eq_true (by first | (with_reducible assumption) | assumption)
       obtain ⟨ad261, e261, hx261_0, hx261_1, hx261_2, hx261_3⟩ := at_T36 HR0.out x16_2 p261 q261
       cases e261
       replace hx261_0 := (HB.out.cell (World.block_lt_of_cell? w _ hx261_0)).trans hx261_0
       replace hx261_1 := (HB.out.cell (World.block_lt_of_cell? w _ hx261_1)).trans hx261_1
       replace hx261_2 := (HB.out.cell (World.block_lt_of_cell? w _ hx261_2)).trans hx261_2
       replace hx261_3 := (HB.out.cell (World.block_lt_of_cell? w _ hx261_3)).trans hx261_3
       replace p261 := eq_true p261
       replace q261 := eq_true q261
       try go_wp2_with (first | ((with_reducible refine gate_dst (N := 5) rfl ?_); (try (refine gate_guard (by rfl) ?_; dsimp only)); refine box_event ?hg (N := 5) ?hd (cs := #[.int .i64 0, .int .i64 0, .int .i64 0, .int .i64 0]) (t := 36) ?hr ?_; (case hd => rfl); (case hg => rfl); (case hr => first | (go_simp; done) | (go_simp; rfl)); intro gb262 hg w24 hbox hb; have n0_ := YK (YD (upB HB) hb); have n1_ := YK (hbox); have n2_ := YK ((by rw [hg]; exact (YE (upB HB)) : w.heap.size ≤ gb262)); have n3_ := YK ((by rw [hg]; exact (YE (upB HB)) : w.heap.size ≤ gb262)); clear HB; have HB := n0_; have BK262 := n1_; have GW262 := n2_; have GE262 := n3_; clear n0_ n1_ n2_ n3_; clear hb hbox hg; obtain ⟨q25_0, q25_1, q25_2, q25_3⟩ := cA4 BK262.out; obtain ⟨f25_0, f25_1, f25_2, f25_3⟩ := fA4 BK262.out))
       have n0_ : Aside0 (((((w24.setCell ⟨gb262, 0, none⟩ (.int .i64 ((rd_T36 l0 x16_2).f0))).setCell ⟨gb262, 1, none⟩ (.int .i64 ((rd_T36 l0 x16_2).f1))).setCell ⟨gb262, 2, none⟩ (.int .i64 ((rd_T36 l0 x16_2).f2))).setCell ⟨gb262, 3, none⟩ (.int .i64 ((rd_T36 l0 x16_2).f3))).heap[gb262]? = some (.cells #[.int .i64 ((rd_T36 l0 x16_2).f0), .int .i64 ((rd_T36 l0 x16_2).f1), .int .i64 ((rd_T36 l0 x16_2).f2), .int .i64 ((rd_T36 l0 x16_2).f3)] 36 (0, 0))) := ⟨by (with_reducible repeat (first | refine YF ?_ _ | refine YG ?_ | refine YH ?_ _)); refine blk_put (cs := #[.int .i64 ((rd_T36 l0 x16_2).f0), .int .i64 ((rd_T36 l0 x16_2).f1), .int .i64 ((rd_T36 l0 x16_2).f2), .int .i64 0]) ?_ 3 _ rfl; (with_reducible repeat (first | refine YF ?_ _ | refine YG ?_ | refine YH ?_ _)); refine blk_put (cs := #[.int .i64 ((rd_T36 l0 x16_2).f0), .int .i64 ((rd_T36 l0 x16_2).f1), .int .i64 0, .int .i64 0]) ?_ 2 _ rfl; (with_reducible repeat (first | refine YF ?_ _ | refine YG ?_ | refine YH ?_ _)); refine blk_put (cs := #[.int .i64 ((rd_T36 l0 x16_2).f0), .int .i64 0, .int .i64 0, .int .i64 0]) ?_ 1 _ rfl; (with_reducible repeat (first | refine YF ?_ _ | refine YG ?_ | refine YH ?_ _)); refine blk_put (cs := #[.int .i64 0, .int .i64 0, .int .i64 0, .int .i64 0]) ?_ 0 _ rfl; (with_reducible repeat (first | refine YF ?_ _ | refine YG ?_ | refine YH ?_ _)); exact BK262.out⟩
       have n1_ : Aside0 (Below w.heap.size w ((((w24.setCell ⟨gb262, 0, none⟩ (.int .i64 ((rd_T36 l0 x16_2).f0))).setCell ⟨gb262, 1, none⟩ (.int .i64 ((rd_T36 l0 x16_2).f1))).setCell ⟨gb262, 2, none⟩ (.int .i64 ((rd_T36 l0 x16_2).f2))).setCell ⟨gb262, 3, none⟩ (.int .i64 ((rd_T36 l0 x16_2).f3)))) := ⟨by repeat (first | (with_reducible first | exact HB.out | apply YA | apply YB | apply YC | refine below_set ?_ GE262.out) | exact HB.out)⟩
       (try clear BK262); (try clear HB)
       generalize ((((w24.setCell ⟨gb262, 0, none⟩ (.int .i64 ((rd_T36 l0 x16_2).f0))).setCell ⟨gb262, 1, none⟩ (.int .i64 ((rd_T36 l0 x16_2).f1))).setCell ⟨gb262, 2, none⟩ (.int .i64 ((rd_T36 l0 x16_2).f2))).setCell ⟨gb262, 3, none⟩ (.int .i64 ((rd_T36 l0 x16_2).f3))) = w26 at n0_ n1_ ⊢
       have BK262 := n0_; have HB := n1_; clear n0_ n1_
       have n0_ := YK (YG BK262.out)
       have n1_ := YK (YC HB.out)
       clear BK262; clear HB; have BK262 := n0_; have HB := n1_; clear n0_ n1_
       refine start_ (n := 21) (S := fun w' => w'.cell? ⟨gb262, 0, none⟩ = some (.int .i64 ((rd_T36 l0 x16_2).f0)) ∧ w'.cell? ⟨gb262, 1, none⟩ = some (.int .i64 ((rd_T36 l0 x16_2).f1)) ∧ w'.cell? ⟨gb262, 2, none⟩ = some (.int .i64 ((rd_T36 l0 x16_2).f2)) ∧ w'.cell? ⟨gb262, 3, none⟩ = some (.int .i64 ((rd_T36 l0 x16_2).f3))) (ds := []) #[false, false, false, false, false, false, false, false, false, false, false, false, false, false, false, false, false, false, false, false, false] (by kernel_rfl) rfl rfl ⟨(YI BK262.out 0).trans rfl, (YI BK262.out 1).trans rfl, (YI BK262.out 2).trans rfl, (YI BK262.out 3).trans rfl⟩ (fun hHeld => ?_); refine with_tabW ack_Check.tab5 ack_Check.bits5 (fun HT_ HW_ => ?_)
       generalize w26.drew = w27 at BK262 HB hHeld ⊢
       refine pure_ (i := 0) (N := some 21) (v := ?_) (a' := ?_) #[true, false, false, false, false, false, false, false, false, false, false, false, false, false, false, false, false, false, false, false, false] rfl rfl (any_of HT_.out (by kernel_rfl)) (fun _ _ _ h => h) (Or.inl ⟨by rfl, ?_⟩) ?_ ?_
       rotate_left
       ·intro w'
        go_simp; with_reducible rfl
       rotate_left
       ·simp only [Act.put, YL, YM, YN, i64_w, i32_w]
        rfl
       refine pure_ (i := 1) (N := some 22) (v := ?_) (a' := ?_) #[true, true, false, false, false, false, false, false, false, false, false, false, false, false, false, false, false, false, false, false, false] rfl rfl (any_of HT_.out (by kernel_rfl)) (fun _ _ _ h => h) (Or.inl ⟨by rfl, ?_⟩) ?_ ?_
       rotate_left
       ·intro w'
        go_simp; with_reducible rfl
       rotate_left
       ·simp only [Act.put, YL, YM, YN, i64_w, i32_w]
        rfl
       refine take_ (i := 2) (N := some 23) (v := ?_) (a' := ?_) #[true, true, true, false, false, false, false, false, false, false, false, false, false, false, false, false, false, false, false, false, false] rfl rfl (take_ofW HT_.out HW_.out (by kernel_rfl)) (fun _ _ _ h => h) (Or.inl ⟨by rfl, ?_⟩) hHeld ?_ ?_
       rotate_left
       ·rintro w' ⟨s0, s1, s2, s3⟩
        go_simp; with_reducible rfl
       rotate_left
       ·simp only [Act.put, YL, YM, YN, i64_w, i32_w]
        rfl
       refine oneA (i := 3) (N := some 24) HT_ (fun K hK => ?_)
       refine goes_ Try.func57 (by kernel_rfl) rfl #[.agg #[.int .i64 ((rd_T36 l0 x16_2).f0), .int .i64 ((rd_T36 l0 x16_2).f1), .int .i64 ((rd_T36 l0 x16_2).f2), .int .i64 ((rd_T36 l0 x16_2).f3)]] (by rfl) rfl rfl (by (try simp only [List.map_toArray, List.map_cons, List.map_nil]); first | done | rfl | (simp only [List.length_drop, List.length_take]; rfl)) ?_
       with_reducible refine (ack_right.calls ((rd_T36 l0 x16_2).f0) ((rd_T36 l0 x16_2).f1) ((rd_T36 l0 x16_2).f2) ((rd_T36 l0 x16_2).f3) false _ A8.out).mono ?_
       rintro e w28 ⟨rfl, hb⟩
       refine ⟨_, rfl, ?_⟩
       have n0_ := YK (blk_below (g := gb262) (o := .cells #[.int .i64 ((rd_T36 l0 x16_2).f0), .int .i64 ((rd_T36 l0 x16_2).f1), .int .i64 ((rd_T36 l0 x16_2).f2), .int .i64 ((rd_T36 l0 x16_2).f3)] 36 (0, 0)) (upK BK262) hb)
       have n1_ := YK (YD (upB HB) hb)
       clear BK262; clear HB; have BK262 := n0_; have HB := n1_; clear n0_ n1_; (try clear hb); (try clear hb2); (try clear hk); (try clear hi)
       refine hK.out _ _ ⟨(YI BK262.out 0).trans rfl, (YI BK262.out 1).trans rfl, (YI BK262.out 2).trans rfl, (YI BK262.out 3).trans rfl⟩ (fun hHeld => ?_)
       clear hK K
       refine normA (N := 24) ?_
       refine pure_ (i := 4) (N := some 25) (v := ?_) (a' := ?_) #[true, true, true, true, true, false, false, false, false, false, false, false, false, false, false, false, false, false, false, false, false] rfl rfl (any_of HT_.out (by kernel_rfl)) (fun _ _ _ h => h) (Or.inl ⟨by rfl, ?_⟩) ?_ ?_
       rotate_left
       ·intro w'
        go_simp; with_reducible rfl
       rotate_left
       ·simp only [Act.put, YL, YM, YN, i64_w, i32_w]
        rfl
       refine pure_ (i := 5) (N := some 26) (v := ?_) (a' := ?_) #[true, true, true, true, true, true, false, false, false, false, false, false, false, false, false, false, false, false, false, false, false] rfl rfl (any_of HT_.out (by kernel_rfl)) (fun _ _ _ h => h) (Or.inl ⟨by rfl, ?_⟩) ?_ ?_
       rotate_left
       ·intro w'
        go_simp; with_reducible rfl
       rotate_left
       ·simp only [Act.put, YL, YM, YN, i64_w, i32_w]
        rfl
       refine pure_ (i := 6) (N := some 27) (v := undef) (a' := ?_) #[true, true, true, true, true, true, true, false, false, false, false, false, false, false, false, false, false, false, false, false, false] rfl rfl (any_of HT_.out (by kernel_rfl)) (fun _ _ _ h => h) (Or.inr ⟨by rfl, rfl⟩) ?_ ?_
       rotate_left
       ·simp only [Act.put, YL, YM, YN, i64_w, i32_w]
        rfl
       refine pure_ (i := 7) (N := some 28) (v := undef) (a' := ?_) #[true, true, true, true, true, true, true, true, false, false, false, false, false, false, false, false, false, false, false, false, false] rfl rfl (any_of HT_.out (by kernel_rfl)) (fun _ _ _ h => h) (Or.inr ⟨by rfl, rfl⟩) ?_ ?_
       rotate_left
       ·simp only [Act.put, YL, YM, YN, i64_w, i32_w]
        rfl
       refine pure_ (i := 8) (N := some 29) (v := undef) (a' := ?_) #[true, true, true, true, true, true, true, true, true, false, false, false, false, false, false, false, false, false, false, false, false] rfl rfl (any_of HT_.out (by kernel_rfl)) (fun _ _ _ h => h) (Or.inr ⟨by rfl, rfl⟩) ?_ ?_
       rotate_left
       ·simp only [Act.put, YL, YM, YN, i64_w, i32_w]
        rfl
       refine pure_ (i := 9) (N := some 30) (v := undef) (a' := ?_) #[true, true, true, true, true, true, true, true, true, true, false, false, false, false, false, false, false, false, false, false, false] rfl rfl (any_of HT_.out (by kernel_rfl)) (fun _ _ _ h => h) (Or.inr ⟨by rfl, rfl⟩) ?_ ?_
       rotate_left
       ·simp only [Act.put, YL, YM, YN, i64_w, i32_w]
        rfl
       refine pure_ (i := 10) (N := some 31) (v := undef) (a' := ?_) #[true, true, true, true, true, true, true, true, true, true, true, false, false, false, false, false, false, false, false, false, false] rfl rfl (any_of HT_.out (by kernel_rfl)) (fun _ _ _ h => h) (Or.inr ⟨by rfl, rfl⟩) ?_ ?_
       rotate_left
       ·simp only [Act.put, YL, YM, YN, i64_w, i32_w]
        rfl
       refine pure_ (i := 11) (N := some 32) (v := undef) (a' := ?_) #[true, true, true, true, true, true, true, true, true, true, true, true, false, false, false, false, false, false, false, false, false] rfl rfl (any_of HT_.out (by kernel_rfl)) (fun _ _ _ h => h) (Or.inr ⟨by rfl, rfl⟩) ?_ ?_
       rotate_left
       ·simp only [Act.put, YL, YM, YN, i64_w, i32_w]
        rfl
       refine pure_ (i := 12) (N := some 33) (v := undef) (a' := ?_) #[true, true, true, true, true, true, true, true, true, true, true, true, true, false, false, false, false, false, false, false, false] rfl rfl (any_of HT_.out (by kernel_rfl)) (fun _ _ _ h => h) (Or.inr ⟨by rfl, rfl⟩) ?_ ?_
       rotate_left
       ·simp only [Act.put, YL, YM, YN, i64_w, i32_w]
        rfl
       refine pure_ (i := 13) (N := some 34) (v := undef) (a' := ?_) #[true, true, true, true, true, true, true, true, true, true, true, true, true, true, false, false, false, false, false, false, false] rfl rfl (any_of HT_.out (by kernel_rfl)) (fun _ _ _ h => h) (Or.inr ⟨by rfl, rfl⟩) ?_ ?_
       rotate_left
       ·simp only [Act.put, YL, YM, YN, i64_w, i32_w]
        rfl
       refine pure_ (i := 14) (N := some 35) (v := undef) (a' := ?_) #[true, true, true, true, true, true, true, true, true, true, true, true, true, true, true, false, false, false, false, false, false] rfl rfl (any_of HT_.out (by kernel_rfl)) (fun _ _ _ h => h) (Or.inr ⟨by rfl, rfl⟩) ?_ ?_
       rotate_left
       ·simp only [Act.put, YL, YM, YN, i64_w, i32_w]
        rfl
       refine pure_ (i := 15) (N := some 36) (v := undef) (a' := ?_) #[true, true, true, true, true, true, true, true, true, true, true, true, true, true, true, true, false, false, false, false, false] rfl rfl (any_of HT_.out (by kernel_rfl)) (fun _ _ _ h => h) (Or.inr ⟨by rfl, rfl⟩) ?_ ?_
       rotate_left
       ·simp only [Act.put, YL, YM, YN, i64_w, i32_w]
        rfl
       refine pure_ (i := 16) (N := some 37) (v := undef) (a' := ?_) #[true, true, true, true, true, true, true, true, true, true, true, true, true, true, true, true, true, false, false, false, false] rfl rfl (any_of HT_.out (by kernel_rfl)) (fun _ _ _ h => h) (Or.inr ⟨by rfl, rfl⟩) ?_ ?_
       rotate_left
       ·simp only [Act.put, YL, YM, YN, i64_w, i32_w]
        rfl
       refine pure_ (i := 17) (N := some 38) (v := undef) (a' := ?_) #[true, true, true, true, true, true, true, true, true, true, true, true, true, true, true, true, true, true, false, false, false] rfl rfl (any_of HT_.out (by kernel_rfl)) (fun _ _ _ h => h) (Or.inr ⟨by rfl, rfl⟩) ?_ ?_
       rotate_left
       ·simp only [Act.put, YL, YM, YN, i64_w, i32_w]
        rfl
       refine pure_ (i := 18) (N := some 39) (v := undef) (a' := ?_) #[true, true, true, true, true, true, true, true, true, true, true, true, true, true, true, true, true, true, true, false, false] rfl rfl (any_of HT_.out (by kernel_rfl)) (fun _ _ _ h => h) (Or.inr ⟨by rfl, rfl⟩) ?_ ?_
       rotate_left
       ·simp only [Act.put, YL, YM, YN, i64_w, i32_w]
        rfl
       refine pure_ (i := 19) (N := some 40) (v := ?_) (a' := ?_) #[true, true, true, true, true, true, true, true, true, true, true, true, true, true, true, true, true, true, true, true, false] rfl rfl (any_of HT_.out (by kernel_rfl)) (fun _ _ _ h => h) (Or.inl ⟨by rfl, ?_⟩) ?_ ?_
       rotate_left
       ·intro w'
        go_simp; with_reducible rfl
       rotate_left
       ·simp only [Act.put, YL, YM, YN, i64_w, i32_w]
        rfl
       refine pure_ (i := 20) (N := some 3) (v := ?_) (a' := ?_) #[true, true, true, true, true, true, true, true, true, true, true, true, true, true, true, true, true, true, true, true, true] rfl rfl (any_of HT_.out (by kernel_rfl)) (fun _ _ _ h => h) (Or.inl ⟨by rfl, ?_⟩) ?_ ?_
       rotate_left
       ·intro w'
        go_simp; with_reducible rfl
       rotate_left
       ·simp only [Act.put, YL, YM, YN, i64_w, i32_w]
        rfl
       refine done_ (done_of HT_.out (by kernel_rfl)) ?_
       try go_wp2
       go_roundg k2
       case measure => have := HJ1.out; have := HK2.out; omega
       case rel => exact ⟨(false), (wrap64 (x16_2 + 1)), (by first | rfl | (simp; done) | (simp [*]; done)), (by first | rfl | (simp; done) | (simp [*]; done)), H', ⟨by have := HJ1.out; have := HK2.out; omega⟩, ⟨by repeat (first | (with_reducible first | exact HB.out | apply YA | apply YB | apply YC | refine below_set ?_ GE262.out) | exact HB.out)⟩⟩
      replace c7 := Bool.eq_false_iff.mpr c7
      subst c7
      have H1 : (ack_Check.l0 k2 l0 false l0 (l0.length : Int) (wrap64 (x16_2 + 1))) = some r := by rw [if_neg (show ¬ (false = true) by decide)] at H; exact H
      clear H
      have H := H1
      clear H1
      have H' := YK H
      clear H
      have p261 : 0 ≤ (x16_2 : Int) := of_decide_eq_true (by first | (with_reducible assumption) | assumption)
      have q261 : x16_2 < (l0.length : Int) := of_decide_eq_true (by first | (with_reducible assumption) | assumption)
      obtain ⟨ad261, e261, hx261_0, hx261_1, hx261_2, hx261_3⟩ := at_T36 HR0.out x16_2 p261 q261
      cases e261
      replace hx261_0 := (HB.out.cell (World.block_lt_of_cell? w _ hx261_0)).trans hx261_0
      replace hx261_1 := (HB.out.cell (World.block_lt_of_cell? w _ hx261_1)).trans hx261_1
      replace hx261_2 := (HB.out.cell (World.block_lt_of_cell? w _ hx261_2)).trans hx261_2
      replace hx261_3 := (HB.out.cell (World.block_lt_of_cell? w _ hx261_3)).trans hx261_3
      replace p261 := eq_true p261
      replace q261 := eq_true q261
      try go_wp2_with (first | ((with_reducible refine gate_dst (N := 5) rfl ?_); (try (refine gate_guard (by rfl) ?_; dsimp only)); refine box_event ?hg (N := 5) ?hd (cs := #[.int .i64 0, .int .i64 0, .int .i64 0, .int .i64 0]) (t := 36) ?hr ?_; (case hd => rfl); (case hg => rfl); (case hr => first | (go_simp; done) | (go_simp; rfl)); intro gb262 hg w29 hbox hb; have n0_ := YK (YD (upB HB) hb); have n1_ := YK (hbox); have n2_ := YK ((by rw [hg]; exact (YE (upB HB)) : w.heap.size ≤ gb262)); have n3_ := YK ((by rw [hg]; exact (YE (upB HB)) : w.heap.size ≤ gb262)); clear HB; have HB := n0_; have BK262 := n1_; have GW262 := n2_; have GE262 := n3_; clear n0_ n1_ n2_ n3_; clear hb hbox hg; obtain ⟨q30_0, q30_1, q30_2, q30_3⟩ := cA4 BK262.out; obtain ⟨f30_0, f30_1, f30_2, f30_3⟩ := fA4 BK262.out))
      have n0_ : Aside0 (((((w29.setCell ⟨gb262, 0, none⟩ (.int .i64 ((rd_T36 l0 x16_2).f0))).setCell ⟨gb262, 1, none⟩ (.int .i64 ((rd_T36 l0 x16_2).f1))).setCell ⟨gb262, 2, none⟩ (.int .i64 ((rd_T36 l0 x16_2).f2))).setCell ⟨gb262, 3, none⟩ (.int .i64 ((rd_T36 l0 x16_2).f3))).heap[gb262]? = some (.cells #[.int .i64 ((rd_T36 l0 x16_2).f0), .int .i64 ((rd_T36 l0 x16_2).f1), .int .i64 ((rd_T36 l0 x16_2).f2), .int .i64 ((rd_T36 l0 x16_2).f3)] 36 (0, 0))) := ⟨by (with_reducible repeat (first | refine YF ?_ _ | refine YG ?_ | refine YH ?_ _)); refine blk_put (cs := #[.int .i64 ((rd_T36 l0 x16_2).f0), .int .i64 ((rd_T36 l0 x16_2).f1), .int .i64 ((rd_T36 l0 x16_2).f2), .int .i64 0]) ?_ 3 _ rfl; (with_reducible repeat (first | refine YF ?_ _ | refine YG ?_ | refine YH ?_ _)); refine blk_put (cs := #[.int .i64 ((rd_T36 l0 x16_2).f0), .int .i64 ((rd_T36 l0 x16_2).f1), .int .i64 0, .int .i64 0]) ?_ 2 _ rfl; (with_reducible repeat (first | refine YF ?_ _ | refine YG ?_ | refine YH ?_ _)); refine blk_put (cs := #[.int .i64 ((rd_T36 l0 x16_2).f0), .int .i64 0, .int .i64 0, .int .i64 0]) ?_ 1 _ rfl; (with_reducible repeat (first | refine YF ?_ _ | refine YG ?_ | refine YH ?_ _)); refine blk_put (cs := #[.int .i64 0, .int .i64 0, .int .i64 0, .int .i64 0]) ?_ 0 _ rfl; (with_reducible repeat (first | refine YF ?_ _ | refine YG ?_ | refine YH ?_ _)); exact BK262.out⟩
      have n1_ : Aside0 (Below w.heap.size w ((((w29.setCell ⟨gb262, 0, none⟩ (.int .i64 ((rd_T36 l0 x16_2).f0))).setCell ⟨gb262, 1, none⟩ (.int .i64 ((rd_T36 l0 x16_2).f1))).setCell ⟨gb262, 2, none⟩ (.int .i64 ((rd_T36 l0 x16_2).f2))).setCell ⟨gb262, 3, none⟩ (.int .i64 ((rd_T36 l0 x16_2).f3)))) := ⟨by repeat (first | (with_reducible first | exact HB.out | apply YA | apply YB | apply YC | refine below_set ?_ GE262.out) | exact HB.out)⟩
      (try clear BK262); (try clear HB)
      generalize ((((w29.setCell ⟨gb262, 0, none⟩ (.int .i64 ((rd_T36 l0 x16_2).f0))).setCell ⟨gb262, 1, none⟩ (.int .i64 ((rd_T36 l0 x16_2).f1))).setCell ⟨gb262, 2, none⟩ (.int .i64 ((rd_T36 l0 x16_2).f2))).setCell ⟨gb262, 3, none⟩ (.int .i64 ((rd_T36 l0 x16_2).f3))) = w31 at n0_ n1_ ⊢
      have BK262 := n0_; have HB := n1_; clear n0_ n1_
      have n0_ := YK (YG BK262.out)
      have n1_ := YK (YC HB.out)
      clear BK262; clear HB; have BK262 := n0_; have HB := n1_; clear n0_ n1_
      refine start_ (n := 21) (S := fun w' => True) (ds := []) #[false, false, false, false, false, false, false, false, false, false, false, false, false, false, false, false, false, false, false, false, false] (by kernel_rfl) rfl rfl trivial (fun hHeld => ?_); refine with_tabW ack_Check.tab5 ack_Check.bits5 (fun HT_ HW_ => ?_)
      generalize w31.drew = w32 at BK262 HB hHeld ⊢
      refine pure_ (i := 0) (N := some 21) (v := ?_) (a' := ?_) #[true, false, false, false, false, false, false, false, false, false, false, false, false, false, false, false, false, false, false, false, false] rfl rfl (any_of HT_.out (by kernel_rfl)) (fun _ _ _ h => h) (Or.inl ⟨by rfl, ?_⟩) ?_ ?_
      rotate_left
      ·intro w'
       go_simp; with_reducible rfl
      rotate_left
      ·simp only [Act.put, YL, YM, YN, i64_w, i32_w]
       rfl
      refine pure_ (i := 1) (N := some 22) (v := ?_) (a' := ?_) #[true, true, false, false, false, false, false, false, false, false, false, false, false, false, false, false, false, false, false, false, false] rfl rfl (any_of HT_.out (by kernel_rfl)) (fun _ _ _ h => h) (Or.inl ⟨by rfl, ?_⟩) ?_ ?_
      rotate_left
      ·intro w'
       go_simp; with_reducible rfl
      rotate_left
      ·simp only [Act.put, YL, YM, YN, i64_w, i32_w]
       rfl
      refine pure_ (i := 2) (N := some 23) (v := undef) (a' := ?_) #[true, true, true, false, false, false, false, false, false, false, false, false, false, false, false, false, false, false, false, false, false] rfl rfl (any_of HT_.out (by kernel_rfl)) (fun _ _ _ h => h) (Or.inr ⟨by rfl, rfl⟩) ?_ ?_
      rotate_left
      ·simp only [Act.put, YL, YM, YN, i64_w, i32_w]
       rfl
      refine pure_ (i := 3) (N := some 24) (v := undef) (a' := ?_) #[true, true, true, true, false, false, false, false, false, false, false, false, false, false, false, false, false, false, false, false, false] rfl rfl (any_of HT_.out (by kernel_rfl)) (fun _ _ _ h => h) (Or.inr ⟨by rfl, rfl⟩) ?_ ?_
      rotate_left
      ·simp only [Act.put, YL, YM, YN, i64_w, i32_w]
       rfl
      refine pure_ (i := 4) (N := some 25) (v := ?_) (a' := ?_) #[true, true, true, true, true, false, false, false, false, false, false, false, false, false, false, false, false, false, false, false, false] rfl rfl (any_of HT_.out (by kernel_rfl)) (fun _ _ _ h => h) (Or.inl ⟨by rfl, ?_⟩) ?_ ?_
      rotate_left
      ·intro w'
       go_simp; with_reducible rfl
      rotate_left
      ·simp only [Act.put, YL, YM, YN, i64_w, i32_w]
       rfl
      refine pure_ (i := 5) (N := some 26) (v := ?_) (a' := ?_) #[true, true, true, true, true, true, false, false, false, false, false, false, false, false, false, false, false, false, false, false, false] rfl rfl (any_of HT_.out (by kernel_rfl)) (fun _ _ _ h => h) (Or.inl ⟨by rfl, ?_⟩) ?_ ?_
      rotate_left
      ·intro w'
       go_simp; with_reducible rfl
      rotate_left
      ·simp only [Act.put, YL, YM, YN, i64_w, i32_w]
       rfl
      refine pure_ (i := 6) (N := some 27) (v := undef) (a' := ?_) #[true, true, true, true, true, true, true, false, false, false, false, false, false, false, false, false, false, false, false, false, false] rfl rfl (any_of HT_.out (by kernel_rfl)) (fun _ _ _ h => h) (Or.inr ⟨by rfl, rfl⟩) ?_ ?_
      rotate_left
      ·simp only [Act.put, YL, YM, YN, i64_w, i32_w]
       rfl
      refine pure_ (i := 7) (N := some 28) (v := undef) (a' := ?_) #[true, true, true, true, true, true, true, true, false, false, false, false, false, false, false, false, false, false, false, false, false] rfl rfl (any_of HT_.out (by kernel_rfl)) (fun _ _ _ h => h) (Or.inr ⟨by rfl, rfl⟩) ?_ ?_
      rotate_left
      ·simp only [Act.put, YL, YM, YN, i64_w, i32_w]
       rfl
      refine pure_ (i := 8) (N := some 29) (v := undef) (a' := ?_) #[true, true, true, true, true, true, true, true, true, false, false, false, false, false, false, false, false, false, false, false, false] rfl rfl (any_of HT_.out (by kernel_rfl)) (fun _ _ _ h => h) (Or.inr ⟨by rfl, rfl⟩) ?_ ?_
      rotate_left
      ·simp only [Act.put, YL, YM, YN, i64_w, i32_w]
       rfl
      refine pure_ (i := 9) (N := some 30) (v := undef) (a' := ?_) #[true, true, true, true, true, true, true, true, true, true, false, false, false, false, false, false, false, false, false, false, false] rfl rfl (any_of HT_.out (by kernel_rfl)) (fun _ _ _ h => h) (Or.inr ⟨by rfl, rfl⟩) ?_ ?_
      rotate_left
      ·simp only [Act.put, YL, YM, YN, i64_w, i32_w]
       rfl
      refine pure_ (i := 10) (N := some 31) (v := undef) (a' := ?_) #[true, true, true, true, true, true, true, true, true, true, true, false, false, false, false, false, false, false, false, false, false] rfl rfl (any_of HT_.out (by kernel_rfl)) (fun _ _ _ h => h) (Or.inr ⟨by rfl, rfl⟩) ?_ ?_
      rotate_left
      ·simp only [Act.put, YL, YM, YN, i64_w, i32_w]
       rfl
      refine pure_ (i := 11) (N := some 32) (v := undef) (a' := ?_) #[true, true, true, true, true, true, true, true, true, true, true, true, false, false, false, false, false, false, false, false, false] rfl rfl (any_of HT_.out (by kernel_rfl)) (fun _ _ _ h => h) (Or.inr ⟨by rfl, rfl⟩) ?_ ?_
      rotate_left
      ·simp only [Act.put, YL, YM, YN, i64_w, i32_w]
       rfl
      refine pure_ (i := 12) (N := some 33) (v := undef) (a' := ?_) #[true, true, true, true, true, true, true, true, true, true, true, true, true, false, false, false, false, false, false, false, false] rfl rfl (any_of HT_.out (by kernel_rfl)) (fun _ _ _ h => h) (Or.inr ⟨by rfl, rfl⟩) ?_ ?_
      rotate_left
      ·simp only [Act.put, YL, YM, YN, i64_w, i32_w]
       rfl
      refine pure_ (i := 13) (N := some 34) (v := undef) (a' := ?_) #[true, true, true, true, true, true, true, true, true, true, true, true, true, true, false, false, false, false, false, false, false] rfl rfl (any_of HT_.out (by kernel_rfl)) (fun _ _ _ h => h) (Or.inr ⟨by rfl, rfl⟩) ?_ ?_
      rotate_left
      ·simp only [Act.put, YL, YM, YN, i64_w, i32_w]
       rfl
      refine pure_ (i := 14) (N := some 35) (v := undef) (a' := ?_) #[true, true, true, true, true, true, true, true, true, true, true, true, true, true, true, false, false, false, false, false, false] rfl rfl (any_of HT_.out (by kernel_rfl)) (fun _ _ _ h => h) (Or.inr ⟨by rfl, rfl⟩) ?_ ?_
      rotate_left
      ·simp only [Act.put, YL, YM, YN, i64_w, i32_w]
       rfl
      refine pure_ (i := 15) (N := some 36) (v := undef) (a' := ?_) #[true, true, true, true, true, true, true, true, true, true, true, true, true, true, true, true, false, false, false, false, false] rfl rfl (any_of HT_.out (by kernel_rfl)) (fun _ _ _ h => h) (Or.inr ⟨by rfl, rfl⟩) ?_ ?_
      rotate_left
      ·simp only [Act.put, YL, YM, YN, i64_w, i32_w]
       rfl
      refine pure_ (i := 16) (N := some 37) (v := undef) (a' := ?_) #[true, true, true, true, true, true, true, true, true, true, true, true, true, true, true, true, true, false, false, false, false] rfl rfl (any_of HT_.out (by kernel_rfl)) (fun _ _ _ h => h) (Or.inr ⟨by rfl, rfl⟩) ?_ ?_
      rotate_left
      ·simp only [Act.put, YL, YM, YN, i64_w, i32_w]
       rfl
      refine pure_ (i := 17) (N := some 38) (v := undef) (a' := ?_) #[true, true, true, true, true, true, true, true, true, true, true, true, true, true, true, true, true, true, false, false, false] rfl rfl (any_of HT_.out (by kernel_rfl)) (fun _ _ _ h => h) (Or.inr ⟨by rfl, rfl⟩) ?_ ?_
      rotate_left
      ·simp only [Act.put, YL, YM, YN, i64_w, i32_w]
       rfl
      refine pure_ (i := 18) (N := some 39) (v := undef) (a' := ?_) #[true, true, true, true, true, true, true, true, true, true, true, true, true, true, true, true, true, true, true, false, false] rfl rfl (any_of HT_.out (by kernel_rfl)) (fun _ _ _ h => h) (Or.inr ⟨by rfl, rfl⟩) ?_ ?_
      rotate_left
      ·simp only [Act.put, YL, YM, YN, i64_w, i32_w]
       rfl
      refine pure_ (i := 19) (N := some 40) (v := ?_) (a' := ?_) #[true, true, true, true, true, true, true, true, true, true, true, true, true, true, true, true, true, true, true, true, false] rfl rfl (any_of HT_.out (by kernel_rfl)) (fun _ _ _ h => h) (Or.inl ⟨by rfl, ?_⟩) ?_ ?_
      rotate_left
      ·intro w'
       go_simp; with_reducible rfl
      rotate_left
      ·simp only [Act.put, YL, YM, YN, i64_w, i32_w]
       rfl
      refine pure_ (i := 20) (N := some 3) (v := ?_) (a' := ?_) #[true, true, true, true, true, true, true, true, true, true, true, true, true, true, true, true, true, true, true, true, true] rfl rfl (any_of HT_.out (by kernel_rfl)) (fun _ _ _ h => h) (Or.inl ⟨by rfl, ?_⟩) ?_ ?_
      rotate_left
      ·intro w'
       go_simp; with_reducible rfl
      rotate_left
      ·simp only [Act.put, YL, YM, YN, i64_w, i32_w]
       rfl
      refine done_ (done_of HT_.out (by kernel_rfl)) ?_
      try go_wp2
      go_roundg k2
      case measure => have := HJ1.out; have := HK2.out; omega
      case rel => exact ⟨(false), (wrap64 (x16_2 + 1)), (by first | rfl | (simp; done) | (simp [*]; done)), (by first | rfl | (simp; done) | (simp [*]; done)), H', ⟨by have := HJ1.out; have := HK2.out; omega⟩, ⟨by repeat (first | (with_reducible first | exact HB.out | apply YA | apply YB | apply YC | refine below_set ?_ GE262.out) | exact HB.out)⟩⟩
     rw [if_neg c4] at H
     have c4b0 : decide (x16_2 < (l0.length : Int)) = false := decide_eq_false c4
     clear c4
     by_cases c33 : x3_2 = true
     ·subst c33
      have H1 : (some 0) = some r := by rw [if_pos rfl] at H; exact H
      clear H
      have H := H1
      clear H1
      obtain rfl := Option.some.inj H
      go_wp2
      go_ret
      exact ⟨by first | rfl | (simp [errW_none, errW_some] <;> rfl) | (simp [*, errW_none, errW_some] <;> rfl), by repeat (first | (with_reducible first | exact HB.out | apply YA | apply YB | apply YC) | exact HB.out)⟩
     replace c33 := Bool.eq_false_iff.mpr c33
     subst c33
     have H1 : (some 1) = some r := by rw [if_neg (show ¬ (false = true) by decide)] at H; exact H
     clear H
     have H := H1
     clear H1
     obtain rfl := Option.some.inj H
     go_wp2
     go_ret
     exact ⟨by first | rfl | (simp [errW_none, errW_some] <;> rfl) | (simp [*, errW_none, errW_some] <;> rfl), by repeat (first | (with_reducible first | exact HB.out | apply YA | apply YB | apply YC) | exact HB.out)⟩
end Go.Proofs.Ytclbempnhelmoaa.P
namespace Go.Proofs.Ytclbempnhelmoaa.P
open Go.RowKit YtclbempnhelmoaaW.PrintWords YtclbempnhelmoaaW.PrintLast YtclbempnhelmoaaW.PrintMore
theorem oneA_C {w : World} {h : Nat} {a0 a1 a2 a3 : Int} (hv : w.heap[h]? = some (.cells #[.int .i64 a0, .int .i64 a1, .int .i64 a2, .int .i64 a3] 36 (0, 0))) : k36.C w (some ⟨h, 0, none⟩) 1 [⟨a0, a1, a2, a3⟩] := by
 refine ⟨rfl, by omega, fun _ => ⟨_, rfl, fun j p hp => ?_⟩⟩
 have hj : j = 0 := by have := (List.getElem?_eq_some_iff.1 hp).1; simpa using this
 subst hj
 obtain rfl : (⟨a0, a1, a2, a3⟩ : S36) = p := by simpa using hp
 refine ⟨[.int .i64 a0, .int .i64 a1, .int .i64 a2, .int .i64 a3], rfl, k36_mk w _, fun i u hu => ?_⟩
 rw [show 0 * k36.sz + i = i by omega, add_plain]
 exact (blk_cell hv i).trans (by simpa using hu)
theorem ack_one (KK : Nat) {a0 a1 a2 a3 r : Int} {w : World} {gl : Nat} (hk : ack_Check.f KK [⟨a0, a1, a2, a3⟩] = some r) (hv : w.heap[gl]? = some (.cells #[.int .i64 a0, .int .i64 a1, .int .i64 a2, .int .i64 a3] 36 (0, 0))) :
  Calls Try.prog 35 #[.slice (some ⟨gl, 0, none⟩) 1 1] w fun e w' => e = .returned (.int .i64 r) ∧ Below w.heap.size w w' :=
 ack_Check.calls KK (some ⟨gl, 0, none⟩) 1 [⟨a0, a1, a2, a3⟩] r w (oneA_C hv) (Nat.le_refl _) hk
theorem got_del {w : World} {base n c B : Nat} {ok : Nat → Prop} {A : Option Addr} {O : List (It × Int)} (hR : kIt.R 73 w base ok (.slice A n c) (O.map Prod.fst)) (hbs : base ≤ w.heap.size) (hn : n = O.length) (hl : O.length ≤ 1000000) (KK : Nat) (a0 a1 a2 a3 : Int) (hs : Int → Bool) (hA : w.heap[B]? = some (.cells #[.int .i64 a0, .int .i64 a1, .int .i64 a2, .int .i64 a3] 36 (0, 0))) (hh : ∀ o ∈ O, ack_Has.f KK a0 a1 a2 a3 o.1.b.f0 = some (hs o.1.b.f0)) (hB : some B ≠ (Value.slice A n c).ownBlock) :
  Calls Try.prog 36 #[.slice A n c, .func (.func 37) #[] #[.pointer (some ⟨B, 0, none⟩)]] w fun e w' => ∃ m, e = .returned (.slice A m c) ∧ kIt.R 73 w' base ok (.slice A m c) ((O.filter (fun o => !goQ hs o)).map Prod.fst) ∧ w.grownBy w' (Value.slice A n c).ownBlock ∧ m = (O.filter (fun o => !goQ hs o)).length := by
 rcases ixB_at (q := goQ hs) O 0 with ⟨h1, h2⟩ | ⟨i, h1, h2, h3, h4⟩
 ·refine (got_del_none A c n B O w hn (Kd.R_reads' hR).2.2 hl KK a0 a1 a2 a3 hs hA hh h2).mono ?_
  rintro e w' ⟨rfl, hb⟩
  have hf : O.filter (fun o => !goQ hs o) = O := List.filter_eq_self.2 (fun o ho => by rw [h2 o ho]; rfl)
  rw [hf]
  exact ⟨n, rfl, Kd.R_below hR hb, grown_of_below hb _, hn⟩
 ·obtain ⟨gq, cap, ev, _, _⟩ := Kd.R_form hR (by rw [List.length_map]; omega)
  injection ev with ea en ec
  subst ea
  refine (got_del_some gq c n B O w base ok hR hbs hn hl KK a0 a1 a2 a3 hs hA hh (fun e => hB (by rw [e]; rfl)) i h1 (by rw [h2]; omega) h3 h4).mono ?_
  rintro e w' ⟨m, rfl, hr, hg⟩
  exact ⟨m, rfl, hr, hg, by have := (Kd.R_reads' hr).1; rw [List.length_map] at this; exact this⟩
section
variable {w0 w w' : World} {F : Nat → Prop} {g : Nat} {wn tr nx : Int} {W : List S34} {O O2 : List (It × Int)} {vw vo v2 : Value}
theorem Sd.del (h : Sd w0 w F g wn tr W O nx vw vo) (hs : O2.Sublist O) (hr : kIt.R 73 w' w0.heap.size (fun k => F k ∧ k ≠ g ∧ some k ≠ vw.ownBlock ∧ ∀ o ∈ O, k ≠ o.1.p) v2 (O2.map Prod.fst)) (hg : w.grownBy w' vo.ownBlock) (hv : v2.ownBlock = vo.ownBlock) :
  Sd w0 (w'.setCell ⟨g, 3, none⟩ v2) F g wn tr W O2 nx vw v2 := by
 have hw0 := below_size h.bl
 have hbase : ∀ k, vo.ownBlock = some k → w0.heap.size ≤ k := fun k hk => Kd.R_base h.rowo k hk
 have hgw : some g ≠ vo.ownBlock := fun e => (h.rowo.1 g e.symm).2.1 rfl
 have hx := (hg.block g (blk_lt h.blk) hgw).trans h.blk
 refine ⟨(pw_below_grown h.bl _ hw0 hg hbase).setCell h.new _, blk_put hx 3 v2 rfl, h.new, fun k hk => Nat.lt_of_lt_of_le (h.lt k hk) (Nat.le_trans hg.size (set_size _ _ _)), h.fg, ?_, ?_, fun o ho => ?_, h.apart.sublist hs⟩
 ·refine Kd.R_mono (Kd.R_far (p := ⟨g, 3, none⟩) (Kd.R_grown h.roww hg (fun k hk => hk.2.2.1)) (fun k hk e => hk.2.1 e) v2) (fun k hk => ⟨hk.1, hk.2.1, by rw [hv]; exact hk.2.2.1, fun o ho => hk.2.2.2 o (hs.subset ho)⟩)
 ·exact Kd.R_mono (Kd.R_far (p := ⟨g, 3, none⟩) hr (fun k hk e => hk.2.1 e) v2) (fun k hk => ⟨hk.1, hk.2.1, hk.2.2.1, fun o ho => hk.2.2.2 o (hs.subset ho)⟩)
 ·obtain ⟨a, b, c, d⟩ := h.cnt o (hs.subset ho)
  have hne : some o.1.p ≠ vo.ownBlock := fun e => (h.rowo.1 _ e.symm).2.2.2 o (hs.subset ho) rfl
  exact ⟨a, b, c, (Below.heap_setCell w' ⟨g, 3, none⟩ v2 o.1.p b).trans ((hg.block _ (blk_lt d) hne).trans d)⟩
theorem Sd.delX (h : Sd w0 w F g wn tr W O nx vw vo) (hs : O2.Sublist O) (hg : w.grownBy w' vo.ownBlock) (hv : v2.ownBlock = vo.ownBlock) :
  SX w F (Wr g vw vo O) (w'.setCell ⟨g, 3, none⟩ v2) F (Wr g vw v2 O2) := by
 refine ⟨Nat.le_trans hg.size (set_size _ _ _), fun k hk hr => (Below.heap_setCell w' ⟨g, 3, none⟩ v2 k (fun e => hr (.inl e))).trans (hg.block k hk (fun e => hr (.inr (.inr (.inl e))))), fun k hk => .inl hk, fun k hk => ?_⟩
 rcases hk with e | e | e | ⟨o, ho, e⟩
 ·exact .inl (.inl e)
 ·exact .inl (.inr (.inl e))
 ·exact .inl (.inr (.inr (.inl (by rw [← hv]; exact e))))
 ·exact .inl (.inr (.inr (.inr ⟨o, hs.subset ho, e⟩)))
end
def sgo.T1 : Bool × List (List Nat × List Nat) := (true, [([], []), ([0], [0]), ([1], [1]), ([2], [2]), ([3, 2], [2, 3]), ([4, 2, 2], [2, 4]), ([5, 2], [2, 5]), ([2, 6], [2, 6]), ([7, 5], [7]), ([8], [8]), ([9, 8, 8], [8, 9]), ([8], [8]), ([11, 8], [8, 11]), ([10, 12, 10, 8], [8, 10, 12]), ([8], [8]), ([14, 13, 8], [8, 14]), ([8], [8]), ([16, 8], [8, 16]), ([17, 8], [8, 17]), ([18, 8], [8, 18]), ([15, 19, 15, 8], [8, 15, 19]), ([13, 20, 8], [8, 13, 20]), ([8, 21], [8, 21])])
def sgo.B1 : List Nat := [0, 1, 3, 7, 15, 31, 63, 127, 255, 511, 1023, 511, 2559, 8191, 511, 32767, 511, 66047, 197119, 459263, 1048575, 2097151, 4194303]
theorem sgo.tab1 : rtab .any (opsOf Try.f14 1) = sgo.T1 := by kernel_rfl
theorem sgo.bits1 : waitsOk sgo.T1.2 sgo.B1 = true := by kernel_rfl
theorem sgot_bad {w0 w : World} {F : Nat → Prop} {g : Nat} {wn tr nx : Int} {W : List S34} {O : List (It × Int)} {vw vo : Value} (h : Sd w0 w F g wn tr W O nx vw vo) (KK : Nat) (a0 a1 a2 a3 : Int) (r : Int) (hk : ack_Check.f KK [⟨a0, a1, a2, a3⟩] = some r) (hr : r ≠ 0) :
  Calls Try.prog 14 #[.pointer (some ⟨g, 0, none⟩), .agg #[.int .i64 a0, .int .i64 a1, .int .i64 a2, .int .i64 a3]] w fun e w' => e = .returned (.int .i64 0) ∧ Below w.heap.size w w' := by
 have HS := Aside0.mk h
 have HK := Aside0.mk hk
 have bq : (r != 0) = true := bne_iff_ne.mpr hr
 clear h hk hr
 go_enter Try.func14, Try.ntmps14
 go_upto_region 1 with ((with_reducible refine gate_dst (N := 3) rfl ?_); refine box_event ?hg (N := 3) ?hd (cs := #[.int .i64 a0, .int .i64 a1, .int .i64 a2, .int .i64 a3]) (t := 36) ?hr ?_; (case hd => rfl); (case hg => rfl); (case hr => first | (go_simp; done) | (go_simp; rfl) | rfl | kernel_rfl); intro gA hgA w2 hbox hb; have BA2 := Aside0.mk hbox; have BB2 := Aside0.mk hb; have S2 := Aside0.mk (HS.out.below hb); obtain ⟨x0, x1, x2, x3⟩ := cA4 BA2.out; have x4 : w2.cell? ⟨g, 4, none⟩ = some (.int .i64 nx) := (blk_cell S2.out.blk 4).trans rfl; clear hb hbox hgA)
 refine start_ (n := 23) (S := fun w' => w'.cell? ⟨gA, 0, none⟩ = some (.int .i64 a0) ∧ w'.cell? ⟨gA, 1, none⟩ = some (.int .i64 a1) ∧ w'.cell? ⟨gA, 2, none⟩ = some (.int .i64 a2) ∧ w'.cell? ⟨gA, 3, none⟩ = some (.int .i64 a3) ∧ w'.cell? ⟨g, 4, none⟩ = some (.int .i64 nx)) (ds := [5]) #[false, false, false, false, false, false, false, false, false, false, false, false, false, false, false, false, false, false, false, false, false, false, false] (by kernel_rfl) rfl rfl ⟨x0, x1, x2, x3, x4⟩ (fun hHeld => ?_); refine with_tabW sgo.tab1 sgo.bits1 (fun HT_ HW_ => ?_)
 refine pureA (i := 0) (N := some 6) HT_ ?_
 refine pureA (i := 1) (N := some 7) HT_ ?_
 refine pureA (i := 2) (N := some 8) HT_ ?_
 refine takeA (i := 3) (N := some 9) HT_ HW_ hHeld ?_
 refine oneA (i := 4) (N := some 10) HT_ (fun K hK => ?_)
 refine lit1_step ?hg (N := 10) ?hd (cs := #[.int .i64 a0, .int .i64 a1, .int .i64 a2, .int .i64 a3]) (t := 36) (n := 1) ?hr ?_
 (case hd => rfl)
 (case hg => rfl)
 (case hr => first | (go_simp; done) | (go_simp; rfl))
 intro gl hgl w3 hbox hb3
 have S3 := Aside0.mk (S2.out.below (below_step (below_drew (Below.refl _ _)) hb3))
 have BB3 := Aside0.mk (below_step BB2.out (below_step (below_drew (Below.refl _ _)) hb3))
 have BL := Aside0.mk hbox
 have BA3 := Aside0.mk (blk_below (blk_below BA2.out (below_drew (Below.refl _ _))) hb3)
 refine hK.out _ _ ⟨(hb3.cell (World.block_lt_of_cell? _ _ hHeld.1)).trans hHeld.1, (hb3.cell (World.block_lt_of_cell? _ _ hHeld.2.1)).trans hHeld.2.1, (hb3.cell (World.block_lt_of_cell? _ _ hHeld.2.2.1)).trans hHeld.2.2.1, (hb3.cell (World.block_lt_of_cell? _ _ hHeld.2.2.2.1)).trans hHeld.2.2.2.1, (hb3.cell (World.block_lt_of_cell? _ _ hHeld.2.2.2.2)).trans hHeld.2.2.2.2⟩ (fun hHeld => ?_)
 clear hK K
 refine normA (N := 10) ?_
 refine last_ (i := 5) (N := some 11) #[true, true, true, true, true, true, false, false, false, false, false, false, false, false, false, false, false, false, false, false, false, false, false] rfl rfl (one_of HT_.out (by kernel_rfl)) (by decide) (fun K hK => ?_)
 refine goes_ Try.func35 (by kernel_rfl) rfl #[.slice (some ⟨gl, 0, none⟩) 1 1] (by rfl) rfl rfl (by simp only [List.map_toArray, List.map_cons, List.map_nil]; rfl) ?_
 with_reducible refine (ack_one KK HK.out BL.out).mono ?_
 rintro e w4 ⟨rfl, hb4⟩
 refine ⟨_, rfl, ?_⟩
 have S4 := Aside0.mk (S3.out.below hb4)
 have BB4 := Aside0.mk (below_step BB3.out hb4)
 have BA4 := Aside0.mk (blk_below BA3.out hb4)
 refine hK.out _ _ ?_
 clear hK K
 refine normA (N := 11) ?_
 refine pureA (i := 6) (N := some 12) HT_ ?_
 refine pureA (i := 7) (N := some 13) HT_ ?_
 refine pureA (i := 8) (N := some 14) HT_ ?_
 refine pure_ (i := 9) (N := some 15) (v := undef) (a' := ?_) #[true, true, true, true, true, true, true, true, true, true, false, false, false, false, false, false, false, false, false, false, false, false, false] rfl rfl (any_of HT_.out (by kernel_rfl)) (fun _ _ _ h => h) (Or.inr ⟨by rfl, rfl⟩) ?_ ?_
 rotate_left
 ·simp only [Act.put, List.setIfInBounds_toArray, List.set_cons_zero, List.set_cons_succ, i64_w, i32_w]
  rfl
 refine pure_ (i := 10) (N := some 16) (v := undef) (a' := ?_) #[true, true, true, true, true, true, true, true, true, true, true, false, false, false, false, false, false, false, false, false, false, false, false] rfl rfl (any_of HT_.out (by kernel_rfl)) (fun _ _ _ h => h) (Or.inr ⟨by rfl, rfl⟩) ?_ ?_
 rotate_left
 ·simp only [Act.put, List.setIfInBounds_toArray, List.set_cons_zero, List.set_cons_succ, i64_w, i32_w]
  rfl
 refine pure_ (i := 11) (N := some 17) (v := undef) (a' := ?_) #[true, true, true, true, true, true, true, true, true, true, true, true, false, false, false, false, false, false, false, false, false, false, false] rfl rfl (any_of HT_.out (by kernel_rfl)) (fun _ _ _ h => h) (Or.inr ⟨by rfl, rfl⟩) ?_ ?_
 rotate_left
 ·simp only [Act.put, List.setIfInBounds_toArray, List.set_cons_zero, List.set_cons_succ, i64_w, i32_w]
  rfl
 refine pure_ (i := 12) (N := some 18) (v := undef) (a' := ?_) #[true, true, true, true, true, true, true, true, true, true, true, true, true, false, false, false, false, false, false, false, false, false, false] rfl rfl (any_of HT_.out (by kernel_rfl)) (fun _ _ _ h => h) (Or.inr ⟨by rfl, rfl⟩) ?_ ?_
 rotate_left
 ·simp only [Act.put, List.setIfInBounds_toArray, List.set_cons_zero, List.set_cons_succ, i64_w, i32_w]
  rfl
 refine pure_ (i := 13) (N := some 19) (v := undef) (a' := ?_) #[true, true, true, true, true, true, true, true, true, true, true, true, true, true, false, false, false, false, false, false, false, false, false] rfl rfl (any_of HT_.out (by kernel_rfl)) (fun _ _ _ h => h) (Or.inr ⟨by rfl, rfl⟩) ?_ ?_
 rotate_left
 ·simp only [Act.put, List.setIfInBounds_toArray, List.set_cons_zero, List.set_cons_succ, i64_w, i32_w]
  rfl
 refine pure_ (i := 14) (N := some 20) (v := undef) (a' := ?_) #[true, true, true, true, true, true, true, true, true, true, true, true, true, true, true, false, false, false, false, false, false, false, false] rfl rfl (any_of HT_.out (by kernel_rfl)) (fun _ _ _ h => h) (Or.inr ⟨by rfl, rfl⟩) ?_ ?_
 rotate_left
 ·simp only [Act.put, List.setIfInBounds_toArray, List.set_cons_zero, List.set_cons_succ, i64_w, i32_w]
  rfl
 refine pure_ (i := 15) (N := some 21) (v := undef) (a' := ?_) #[true, true, true, true, true, true, true, true, true, true, true, true, true, true, true, true, false, false, false, false, false, false, false] rfl rfl (any_of HT_.out (by kernel_rfl)) (fun _ _ _ h => h) (Or.inr ⟨by rfl, rfl⟩) ?_ ?_
 rotate_left
 ·simp only [Act.put, List.setIfInBounds_toArray, List.set_cons_zero, List.set_cons_succ, i64_w, i32_w]
  rfl
 refine pure_ (i := 16) (N := some 22) (v := undef) (a' := ?_) #[true, true, true, true, true, true, true, true, true, true, true, true, true, true, true, true, true, false, false, false, false, false, false] rfl rfl (any_of HT_.out (by kernel_rfl)) (fun _ _ _ h => h) (Or.inr ⟨by rfl, rfl⟩) ?_ ?_
 rotate_left
 ·simp only [Act.put, List.setIfInBounds_toArray, List.set_cons_zero, List.set_cons_succ, i64_w, i32_w]
  rfl
 refine pure_ (i := 17) (N := some 23) (v := undef) (a' := ?_) #[true, true, true, true, true, true, true, true, true, true, true, true, true, true, true, true, true, true, false, false, false, false, false] rfl rfl (any_of HT_.out (by kernel_rfl)) (fun _ _ _ h => h) (Or.inr ⟨by rfl, rfl⟩) ?_ ?_
 rotate_left
 ·simp only [Act.put, List.setIfInBounds_toArray, List.set_cons_zero, List.set_cons_succ, i64_w, i32_w]
  rfl
 refine pure_ (i := 18) (N := some 24) (v := undef) (a' := ?_) #[true, true, true, true, true, true, true, true, true, true, true, true, true, true, true, true, true, true, true, false, false, false, false] rfl rfl (any_of HT_.out (by kernel_rfl)) (fun _ _ _ h => h) (Or.inr ⟨by rfl, rfl⟩) ?_ ?_
 rotate_left
 ·simp only [Act.put, List.setIfInBounds_toArray, List.set_cons_zero, List.set_cons_succ, i64_w, i32_w]
  rfl
 refine pure_ (i := 19) (N := some 25) (v := undef) (a' := ?_) #[true, true, true, true, true, true, true, true, true, true, true, true, true, true, true, true, true, true, true, true, false, false, false] rfl rfl (any_of HT_.out (by kernel_rfl)) (fun _ _ _ h => h) (Or.inr ⟨by rfl, rfl⟩) ?_ ?_
 rotate_left
 ·simp only [Act.put, List.setIfInBounds_toArray, List.set_cons_zero, List.set_cons_succ, i64_w, i32_w]
  rfl
 refine pure_ (i := 20) (N := some 26) (v := undef) (a' := ?_) #[true, true, true, true, true, true, true, true, true, true, true, true, true, true, true, true, true, true, true, true, true, false, false] rfl rfl (any_of HT_.out (by kernel_rfl)) (fun _ _ _ h => h) (Or.inr ⟨by rfl, rfl⟩) ?_ ?_
 rotate_left
 ·simp only [Act.put, List.setIfInBounds_toArray, List.set_cons_zero, List.set_cons_succ, i64_w, i32_w]
  rfl
 refine pure_ (i := 21) (N := some 27) (v := undef) (a' := ?_) #[true, true, true, true, true, true, true, true, true, true, true, true, true, true, true, true, true, true, true, true, true, true, false] rfl rfl (any_of HT_.out (by kernel_rfl)) (fun _ _ _ h => h) (Or.inr ⟨by rfl, rfl⟩) ?_ ?_
 rotate_left
 ·simp only [Act.put, List.setIfInBounds_toArray, List.set_cons_zero, List.set_cons_succ, i64_w, i32_w]
  rfl
 refine pureA (i := 22) (N := some 28) HT_ ?_
 refine done_ (done_of HT_.out (by kernel_rfl)) ?_
 go_wp2
 go_ret
 exact ⟨rfl, BB4.out⟩
theorem sgot_far {w0 w : World} {F : Nat → Prop} {g : Nat} {wn tr nx : Int} {W : List S34} {O : List (It × Int)} {vw vo : Value} (h : Sd w0 w F g wn tr W O nx vw vo) (KK : Nat) (a0 a1 a2 a3 : Int) (hk : ack_Check.f KK [⟨a0, a1, a2, a3⟩] = some 0) (f1 f2 : Int) (h1 : serial_Far.f KK (firstL O nx) a2 = some f1) (h2 : serial_Far.f KK (firstL O nx) nx = some f2) (hf : f1 > f2) :
  Calls Try.prog 14 #[.pointer (some ⟨g, 0, none⟩), .agg #[.int .i64 a0, .int .i64 a1, .int .i64 a2, .int .i64 a3]] w fun e w' => e = .returned (.int .i64 0) ∧ Below w.heap.size w w' := by
 obtain ⟨fst, hfs⟩ : ∃ fst, fst = firstL O nx := ⟨_, rfl⟩
 rw [← hfs] at h1 h2
 obtain ⟨Ao, co, rfl⟩ := Kd.R_slice h.rowo
 obtain ⟨n, hn⟩ : ∃ n, n = (O.map Prod.fst).length := ⟨_, rfl⟩
 rw [← hn] at h
 have HS := Aside0.mk h
 have HK := Aside0.mk hk
 have HFS := Aside0.mk hfs
 have HF1 := Aside0.mk h1
 have HF2 := Aside0.mk h2
 have bq : decide (f1 > f2) = true := decide_eq_true hf
 clear h hk hf hfs h1 h2 hn
 go_enter Try.func14, Try.ntmps14
 go_upto_region 1 with ((with_reducible refine gate_dst (N := 3) rfl ?_); refine box_event ?hg (N := 3) ?hd (cs := #[.int .i64 a0, .int .i64 a1, .int .i64 a2, .int .i64 a3]) (t := 36) ?hr ?_; (case hd => rfl); (case hg => rfl); (case hr => first | (go_simp; done) | (go_simp; rfl) | rfl | kernel_rfl); intro gA hgA w2 hbox hb; have BA2 := Aside0.mk hbox; have BB2 := Aside0.mk hb; have S2 := Aside0.mk (HS.out.below hb); obtain ⟨x0, x1, x2, x3⟩ := cA4 BA2.out; have x4 : w2.cell? ⟨g, 4, none⟩ = some (.int .i64 nx) := (blk_cell S2.out.blk 4).trans rfl; clear hb hbox hgA)
 refine start_ (n := 23) (S := fun w' => w'.cell? ⟨gA, 0, none⟩ = some (.int .i64 a0) ∧ w'.cell? ⟨gA, 1, none⟩ = some (.int .i64 a1) ∧ w'.cell? ⟨gA, 2, none⟩ = some (.int .i64 a2) ∧ w'.cell? ⟨gA, 3, none⟩ = some (.int .i64 a3) ∧ w'.cell? ⟨g, 4, none⟩ = some (.int .i64 nx)) (ds := [20]) #[false, false, false, false, false, false, false, false, false, false, false, false, false, false, false, false, false, false, false, false, false, false, false] (by kernel_rfl) rfl rfl ⟨x0, x1, x2, x3, x4⟩ (fun hHeld => ?_); refine with_tabW sgo.tab1 sgo.bits1 (fun HT_ HW_ => ?_)
 refine pureA (i := 0) (N := some 6) HT_ ?_
 refine pureA (i := 1) (N := some 7) HT_ ?_
 refine pureA (i := 2) (N := some 8) HT_ ?_
 refine takeA (i := 3) (N := some 9) HT_ HW_ hHeld ?_
 refine oneA (i := 4) (N := some 10) HT_ (fun K hK => ?_)
 refine lit1_step ?hg (N := 10) ?hd (cs := #[.int .i64 a0, .int .i64 a1, .int .i64 a2, .int .i64 a3]) (t := 36) (n := 1) ?hr ?_
 (case hd => rfl)
 (case hg => rfl)
 (case hr => first | (go_simp; done) | (go_simp; rfl))
 intro gl hgl w3 hbox hb3
 have S3 := Aside0.mk (S2.out.below (below_step (below_drew (Below.refl _ _)) hb3))
 have BB3 := Aside0.mk (below_step BB2.out (below_step (below_drew (Below.refl _ _)) hb3))
 have BL := Aside0.mk hbox
 have BA3 := Aside0.mk (blk_below (blk_below BA2.out (below_drew (Below.refl _ _))) hb3)
 refine hK.out _ _ ⟨(hb3.cell (World.block_lt_of_cell? _ _ hHeld.1)).trans hHeld.1, (hb3.cell (World.block_lt_of_cell? _ _ hHeld.2.1)).trans hHeld.2.1, (hb3.cell (World.block_lt_of_cell? _ _ hHeld.2.2.1)).trans hHeld.2.2.1, (hb3.cell (World.block_lt_of_cell? _ _ hHeld.2.2.2.1)).trans hHeld.2.2.2.1, (hb3.cell (World.block_lt_of_cell? _ _ hHeld.2.2.2.2)).trans hHeld.2.2.2.2⟩ (fun hHeld => ?_)
 clear hK K
 refine normA (N := 10) ?_
 refine oneA (i := 5) (N := some 11) HT_ (fun K hK => ?_)
 refine goes_ Try.func35 (by kernel_rfl) rfl #[.slice (some ⟨gl, 0, none⟩) 1 1] (by rfl) rfl rfl (by simp only [List.map_toArray, List.map_cons, List.map_nil]; rfl) ?_
 with_reducible refine (ack_one KK HK.out BL.out).mono ?_
 rintro e w4 ⟨rfl, hb4⟩
 refine ⟨_, rfl, ?_⟩
 have S4 := Aside0.mk (S3.out.below hb4)
 have BB4 := Aside0.mk (below_step BB3.out hb4)
 have BA4 := Aside0.mk (blk_below BA3.out hb4)
 refine hK.out _ _ ⟨(hb4.cell (World.block_lt_of_cell? _ _ hHeld.1)).trans hHeld.1, (hb4.cell (World.block_lt_of_cell? _ _ hHeld.2.1)).trans hHeld.2.1, (hb4.cell (World.block_lt_of_cell? _ _ hHeld.2.2.1)).trans hHeld.2.2.1, (hb4.cell (World.block_lt_of_cell? _ _ hHeld.2.2.2.1)).trans hHeld.2.2.2.1, (hb4.cell (World.block_lt_of_cell? _ _ hHeld.2.2.2.2)).trans hHeld.2.2.2.2⟩ (fun hHeld => ?_)
 clear hK K
 refine normA (N := 11) ?_
 refine pureA (i := 6) (N := some 12) HT_ ?_
 refine pureA (i := 7) (N := some 13) HT_ ?_
 refine pureA (i := 8) (N := some 14) HT_ ?_
 refine pureA (i := 9) (N := some 15) HT_ ?_
 refine pureA (i := 11) (N := some 17) HT_ ?_
 refine pureA (i := 14) (N := some 20) HT_ ?_
 refine pureA (i := 16) (N := some 22) HT_ ?_
 refine pureA (i := 17) (N := some 23) HT_ ?_
 refine pureA (i := 18) (N := some 24) HT_ ?_
 refine takeA (i := 12) (N := some 18) HT_ HW_ hHeld ?_
 refine takeA (i := 19) (N := some 25) HT_ HW_ hHeld ?_
 refine oneA (i := 10) (N := some 16) HT_ (fun K hK => ?_)
 refine goes_ Try.func28 (by kernel_rfl) rfl #[.pointer (some ⟨g, 0, none⟩)] (by rfl) rfl rfl (by simp only [List.map_toArray, List.map_cons, List.map_nil]; rfl) ?_
 with_reducible refine (sfirst_s S4.out).mono ?_
 rintro e w5 ⟨rfl, hw5⟩
 refine ⟨_, rfl, ?_⟩
 subst hw5
 rw [← HFS.out]
 refine hK.out _ _ ⟨hHeld.1, hHeld.2.1, hHeld.2.2.1, hHeld.2.2.2.1, hHeld.2.2.2.2⟩ (fun hHeld => ?_)
 clear hK K
 refine normA (N := 16) ?_
 refine oneA (i := 13) (N := some 19) HT_ (fun K hK => ?_)
 refine goes_ Try.func24 (by kernel_rfl) rfl #[.int .i64 fst, .int .i64 a2] (by rfl) rfl rfl (by simp only [List.map_toArray, List.map_cons, List.map_nil]; rfl) ?_
 with_reducible refine (serial_Far.calls KK fst a2 f1 _ HF1.out).mono ?_
 rintro e w5 ⟨rfl, hb5⟩
 refine ⟨_, rfl, ?_⟩
 have S5 := Aside0.mk (S4.out.below hb5)
 have BB5 := Aside0.mk (below_step BB4.out hb5)
 have BA5 := Aside0.mk (blk_below BA4.out hb5)
 refine hK.out _ _ ⟨(hb5.cell (World.block_lt_of_cell? _ _ hHeld.1)).trans hHeld.1, (hb5.cell (World.block_lt_of_cell? _ _ hHeld.2.1)).trans hHeld.2.1, (hb5.cell (World.block_lt_of_cell? _ _ hHeld.2.2.1)).trans hHeld.2.2.1, (hb5.cell (World.block_lt_of_cell? _ _ hHeld.2.2.2.1)).trans hHeld.2.2.2.1, (hb5.cell (World.block_lt_of_cell? _ _ hHeld.2.2.2.2)).trans hHeld.2.2.2.2⟩ (fun hHeld => ?_)
 clear hK K
 refine normA (N := 19) ?_
 refine oneA (i := 15) (N := some 21) HT_ (fun K hK => ?_)
 refine goes_ Try.func28 (by kernel_rfl) rfl #[.pointer (some ⟨g, 0, none⟩)] (by rfl) rfl rfl (by simp only [List.map_toArray, List.map_cons, List.map_nil]; rfl) ?_
 with_reducible refine (sfirst_s S5.out).mono ?_
 rintro e w6 ⟨rfl, hw6⟩
 refine ⟨_, rfl, ?_⟩
 subst hw6
 rw [← HFS.out]
 refine hK.out _ _ ⟨hHeld.1, hHeld.2.1, hHeld.2.2.1, hHeld.2.2.2.1, hHeld.2.2.2.2⟩ (fun hHeld => ?_)
 clear hK K
 refine normA (N := 21) ?_
 refine last_ (i := 20) (N := some 26) #[true, true, true, true, true, true, true, true, true, true, true, true, true, true, true, true, true, true, true, true, true, false, false] rfl rfl (one_of HT_.out (by kernel_rfl)) (by decide) (fun K hK => ?_)
 refine goes_ Try.func24 (by kernel_rfl) rfl #[.int .i64 fst, .int .i64 nx] (by rfl) rfl rfl (by simp only [List.map_toArray, List.map_cons, List.map_nil]; rfl) ?_
 with_reducible refine (serial_Far.calls KK fst nx f2 _ HF2.out).mono ?_
 rintro e w7 ⟨rfl, hb7⟩
 refine ⟨_, rfl, ?_⟩
 have S7 := Aside0.mk (S5.out.below hb7)
 have BB7 := Aside0.mk (below_step BB5.out hb7)
 have BA7 := Aside0.mk (blk_below BA5.out hb7)
 have z3 : w7.cell? ⟨g, 3, none⟩ = some (.slice Ao n co) := (blk_cell S7.out.blk 3).trans rfl
 clear hb7
 refine hK.out _ _ ?_
 clear hK K
 refine normA (N := 26) ?_
 refine pureA (i := 21) (N := some 27) HT_ ?_
 refine pureA (i := 22) (N := some 28) HT_ ?_
 refine done_ (done_of HT_.out (by kernel_rfl)) ?_
 go_wp2
 go_ret
 exact ⟨rfl, BB7.out⟩
theorem sgot_ok {w0 w : World} {F : Nat → Prop} {g : Nat} {wn tr nx : Int} {W : List S34} {O : List (It × Int)} {vw vo : Value} (h : Sd w0 w F g wn tr W O nx vw vo) (hl : O.length ≤ 1000000) (KK : Nat) (a0 a1 a2 a3 : Int) (hk : ack_Check.f KK [⟨a0, a1, a2, a3⟩] = some 0) (f1 f2 : Int) (h1 : serial_Far.f KK (firstL O nx) a2 = some f1) (h2 : serial_Far.f KK (firstL O nx) nx = some f2) (hf : ¬ f1 > f2) (hs : Int → Bool) (hh : ∀ o ∈ O, ack_Has.f KK a0 a1 a2 a3 o.1.b.f0 = some (hs o.1.b.f0)) :
  Calls Try.prog 14 #[.pointer (some ⟨g, 0, none⟩), .agg #[.int .i64 a0, .int .i64 a1, .int .i64 a2, .int .i64 a3]] w fun e w' => ∃ vo', e = .returned (.int .i64 ((O.length : Int) - ((O.filter (fun o => !goQ hs o)).length : Int))) ∧ Sd w0 w' F g wn tr W (O.filter (fun o => !goQ hs o)) nx vw vo' ∧ SX w F (Wr g vw vo O) w' F (Wr g vw vo' (O.filter (fun o => !goQ hs o))) := by
 obtain ⟨fst, hfs⟩ : ∃ fst, fst = firstL O nx := ⟨_, rfl⟩
 rw [← hfs] at h1 h2
 obtain ⟨Ao, co, rfl⟩ := Kd.R_slice h.rowo
 obtain ⟨n, hn⟩ : ∃ n, n = (O.map Prod.fst).length := ⟨_, rfl⟩
 rw [← hn] at h ⊢
 have HS := Aside0.mk h
 have HN := Aside0.mk (show n = O.length by rw [hn, List.length_map])
 have HL := Aside0.mk hl
 have HH := Aside0.mk hh
 have HK := Aside0.mk hk
 have HFS := Aside0.mk hfs
 have HF1 := Aside0.mk h1
 have HF2 := Aside0.mk h2
 have HLF := Aside0.mk (show (O.filter (fun o => !goQ hs o)).length ≤ O.length from List.length_filter_le _ _)
 have bq : decide (f1 > f2) = false := decide_eq_false hf
 clear h hk hf hfs h1 h2 hn hl hh
 go_enter Try.func14, Try.ntmps14
 go_upto_region 1 with ((with_reducible refine gate_dst (N := 3) rfl ?_); refine box_event ?hg (N := 3) ?hd (cs := #[.int .i64 a0, .int .i64 a1, .int .i64 a2, .int .i64 a3]) (t := 36) ?hr ?_; (case hd => rfl); (case hg => rfl); (case hr => first | (go_simp; done) | (go_simp; rfl) | rfl | kernel_rfl); intro gA hgA w2 hbox hb; have BA2 := Aside0.mk hbox; have BB2 := Aside0.mk hb; have S2 := Aside0.mk (HS.out.below hb); obtain ⟨x0, x1, x2, x3⟩ := cA4 BA2.out; have x4 : w2.cell? ⟨g, 4, none⟩ = some (.int .i64 nx) := (blk_cell S2.out.blk 4).trans rfl; clear hb hbox hgA)
 refine start_ (n := 23) (S := fun w' => w'.cell? ⟨gA, 0, none⟩ = some (.int .i64 a0) ∧ w'.cell? ⟨gA, 1, none⟩ = some (.int .i64 a1) ∧ w'.cell? ⟨gA, 2, none⟩ = some (.int .i64 a2) ∧ w'.cell? ⟨gA, 3, none⟩ = some (.int .i64 a3) ∧ w'.cell? ⟨g, 4, none⟩ = some (.int .i64 nx)) (ds := [20]) #[false, false, false, false, false, false, false, false, false, false, false, false, false, false, false, false, false, false, false, false, false, false, false] (by kernel_rfl) rfl rfl ⟨x0, x1, x2, x3, x4⟩ (fun hHeld => ?_); refine with_tabW sgo.tab1 sgo.bits1 (fun HT_ HW_ => ?_)
 refine pureA (i := 0) (N := some 6) HT_ ?_
 refine pureA (i := 1) (N := some 7) HT_ ?_
 refine pureA (i := 2) (N := some 8) HT_ ?_
 refine takeA (i := 3) (N := some 9) HT_ HW_ hHeld ?_
 refine oneA (i := 4) (N := some 10) HT_ (fun K hK => ?_)
 refine lit1_step ?hg (N := 10) ?hd (cs := #[.int .i64 a0, .int .i64 a1, .int .i64 a2, .int .i64 a3]) (t := 36) (n := 1) ?hr ?_
 (case hd => rfl)
 (case hg => rfl)
 (case hr => first | (go_simp; done) | (go_simp; rfl))
 intro gl hgl w3 hbox hb3
 have S3 := Aside0.mk (S2.out.below (below_step (below_drew (Below.refl _ _)) hb3))
 have BB3 := Aside0.mk (below_step BB2.out (below_step (below_drew (Below.refl _ _)) hb3))
 have BL := Aside0.mk hbox
 have BA3 := Aside0.mk (blk_below (blk_below BA2.out (below_drew (Below.refl _ _))) hb3)
 refine hK.out _ _ ⟨(hb3.cell (World.block_lt_of_cell? _ _ hHeld.1)).trans hHeld.1, (hb3.cell (World.block_lt_of_cell? _ _ hHeld.2.1)).trans hHeld.2.1, (hb3.cell (World.block_lt_of_cell? _ _ hHeld.2.2.1)).trans hHeld.2.2.1, (hb3.cell (World.block_lt_of_cell? _ _ hHeld.2.2.2.1)).trans hHeld.2.2.2.1, (hb3.cell (World.block_lt_of_cell? _ _ hHeld.2.2.2.2)).trans hHeld.2.2.2.2⟩ (fun hHeld => ?_)
 clear hK K
 refine normA (N := 10) ?_
 refine oneA (i := 5) (N := some 11) HT_ (fun K hK => ?_)
 refine goes_ Try.func35 (by kernel_rfl) rfl #[.slice (some ⟨gl, 0, none⟩) 1 1] (by rfl) rfl rfl (by simp only [List.map_toArray, List.map_cons, List.map_nil]; rfl) ?_
 with_reducible refine (ack_one KK HK.out BL.out).mono ?_
 rintro e w4 ⟨rfl, hb4⟩
 refine ⟨_, rfl, ?_⟩
 have S4 := Aside0.mk (S3.out.below hb4)
 have BB4 := Aside0.mk (below_step BB3.out hb4)
 have BA4 := Aside0.mk (blk_below BA3.out hb4)
 refine hK.out _ _ ⟨(hb4.cell (World.block_lt_of_cell? _ _ hHeld.1)).trans hHeld.1, (hb4.cell (World.block_lt_of_cell? _ _ hHeld.2.1)).trans hHeld.2.1, (hb4.cell (World.block_lt_of_cell? _ _ hHeld.2.2.1)).trans hHeld.2.2.1, (hb4.cell (World.block_lt_of_cell? _ _ hHeld.2.2.2.1)).trans hHeld.2.2.2.1, (hb4.cell (World.block_lt_of_cell? _ _ hHeld.2.2.2.2)).trans hHeld.2.2.2.2⟩ (fun hHeld => ?_)
 clear hK K
 refine normA (N := 11) ?_
 refine pureA (i := 6) (N := some 12) HT_ ?_
 refine pureA (i := 7) (N := some 13) HT_ ?_
 refine pureA (i := 8) (N := some 14) HT_ ?_
 refine pureA (i := 9) (N := some 15) HT_ ?_
 refine pureA (i := 11) (N := some 17) HT_ ?_
 refine pureA (i := 14) (N := some 20) HT_ ?_
 refine pureA (i := 16) (N := some 22) HT_ ?_
 refine pureA (i := 17) (N := some 23) HT_ ?_
 refine pureA (i := 18) (N := some 24) HT_ ?_
 refine takeA (i := 12) (N := some 18) HT_ HW_ hHeld ?_
 refine takeA (i := 19) (N := some 25) HT_ HW_ hHeld ?_
 refine oneA (i := 10) (N := some 16) HT_ (fun K hK => ?_)
 refine goes_ Try.func28 (by kernel_rfl) rfl #[.pointer (some ⟨g, 0, none⟩)] (by rfl) rfl rfl (by simp only [List.map_toArray, List.map_cons, List.map_nil]; rfl) ?_
 with_reducible refine (sfirst_s S4.out).mono ?_
 rintro e w5 ⟨rfl, hw5⟩
 refine ⟨_, rfl, ?_⟩
 subst hw5
 rw [← HFS.out]
 refine hK.out _ _ ⟨hHeld.1, hHeld.2.1, hHeld.2.2.1, hHeld.2.2.2.1, hHeld.2.2.2.2⟩ (fun hHeld => ?_)
 clear hK K
 refine normA (N := 16) ?_
 refine oneA (i := 13) (N := some 19) HT_ (fun K hK => ?_)
 refine goes_ Try.func24 (by kernel_rfl) rfl #[.int .i64 fst, .int .i64 a2] (by rfl) rfl rfl (by simp only [List.map_toArray, List.map_cons, List.map_nil]; rfl) ?_
 with_reducible refine (serial_Far.calls KK fst a2 f1 _ HF1.out).mono ?_
 rintro e w5 ⟨rfl, hb5⟩
 refine ⟨_, rfl, ?_⟩
 have S5 := Aside0.mk (S4.out.below hb5)
 have BB5 := Aside0.mk (below_step BB4.out hb5)
 have BA5 := Aside0.mk (blk_below BA4.out hb5)
 refine hK.out _ _ ⟨(hb5.cell (World.block_lt_of_cell? _ _ hHeld.1)).trans hHeld.1, (hb5.cell (World.block_lt_of_cell? _ _ hHeld.2.1)).trans hHeld.2.1, (hb5.cell (World.block_lt_of_cell? _ _ hHeld.2.2.1)).trans hHeld.2.2.1, (hb5.cell (World.block_lt_of_cell? _ _ hHeld.2.2.2.1)).trans hHeld.2.2.2.1, (hb5.cell (World.block_lt_of_cell? _ _ hHeld.2.2.2.2)).trans hHeld.2.2.2.2⟩ (fun hHeld => ?_)
 clear hK K
 refine normA (N := 19) ?_
 refine oneA (i := 15) (N := some 21) HT_ (fun K hK => ?_)
 refine goes_ Try.func28 (by kernel_rfl) rfl #[.pointer (some ⟨g, 0, none⟩)] (by rfl) rfl rfl (by simp only [List.map_toArray, List.map_cons, List.map_nil]; rfl) ?_
 with_reducible refine (sfirst_s S5.out).mono ?_
 rintro e w6 ⟨rfl, hw6⟩
 refine ⟨_, rfl, ?_⟩
 subst hw6
 rw [← HFS.out]
 refine hK.out _ _ ⟨hHeld.1, hHeld.2.1, hHeld.2.2.1, hHeld.2.2.2.1, hHeld.2.2.2.2⟩ (fun hHeld => ?_)
 clear hK K
 refine normA (N := 21) ?_
 refine last_ (i := 20) (N := some 26) #[true, true, true, true, true, true, true, true, true, true, true, true, true, true, true, true, true, true, true, true, true, false, false] rfl rfl (one_of HT_.out (by kernel_rfl)) (by decide) (fun K hK => ?_)
 refine goes_ Try.func24 (by kernel_rfl) rfl #[.int .i64 fst, .int .i64 nx] (by rfl) rfl rfl (by simp only [List.map_toArray, List.map_cons, List.map_nil]; rfl) ?_
 with_reducible refine (serial_Far.calls KK fst nx f2 _ HF2.out).mono ?_
 rintro e w7 ⟨rfl, hb7⟩
 refine ⟨_, rfl, ?_⟩
 have S7 := Aside0.mk (S5.out.below hb7)
 have BB7 := Aside0.mk (below_step BB5.out hb7)
 have BA7 := Aside0.mk (blk_below BA5.out hb7)
 have z3 : w7.cell? ⟨g, 3, none⟩ = some (.slice Ao n co) := (blk_cell S7.out.blk 3).trans rfl
 clear hb7
 refine hK.out _ _ ?_
 clear hK K
 refine normA (N := 26) ?_
 refine pureA (i := 21) (N := some 27) HT_ ?_
 refine pureA (i := 22) (N := some 28) HT_ ?_
 refine done_ (done_of HT_.out (by kernel_rfl)) ?_
 go_wp2_with (go_at_call 36; (with_reducible refine (got_del S7.out.rowo (below_size S7.out.bl) HN.out HL.out KK a0 a1 a2 a3 hs BA7.out HH.out (Kd.R_ne S7.out.rowo BA7.out (by decide))).mono ?_); rintro e w8 ⟨m, rfl, hr, hg, hm⟩; have HR8 := Aside0.mk hr; have HG8 := Aside0.mk hg; have HM8 := Aside0.mk hm; have BG8 := Aside0.mk (blk_grown S7.out.blk hg (Kd.R_ne S7.out.rowo S7.out.blk (by decide))); have z38 : w8.cell? ⟨g, 3, none⟩ = some (.slice Ao n co) := (blk_cell BG8.out 3).trans rfl; have zf8 := blk_frozen BG8.out 3; have BG9 := Aside0.mk (blk_put BG8.out 3 (.slice Ao m co) (cs' := SdC wn tr vw (.slice Ao m co) nx) rfl); have z39 : (w8.setCell ⟨g, 3, none⟩ (.slice Ao m co)).cell? ⟨g, 3, none⟩ = some (.slice Ao m co) := (blk_cell BG9.out 3).trans rfl; have hwm : wrap64 ((n : Int) - (m : Int)) = (n : Int) - (m : Int) := w64 (by have := HN.out; have := HL.out; have := HM8.out; have := HLF.out; omega) (by have := HN.out; have := HL.out; omega); clear hr hg hm)
 go_ret
 have hsub : (O.filter (fun o => !goQ hs o)).Sublist O := List.filter_sublist
 refine ⟨.slice Ao m co, by rw [← HN.out, ← HM8.out, hwm]; rfl, S7.out.del hsub HR8.out HG8.out ?_, (SX.of_below F _ BB7.out).trans (S7.out.delX hsub HG8.out ?_)⟩
 ·cases Ao <;> rfl
 ·cases Ao <;> rfl
theorem ssend_nil (w : World) :
  Calls Try.prog 12 #[.pointer none] w fun e w' => e = .returned (.slice none 0 0) ∧ w = w' := by
 go_enter Try.func12, Try.ntmps12
 go_wp2_with go_step3
 (try simp only [Exit.noGoto_ret])
 go_ret
 exact ⟨rfl, rfl⟩
def sgn.T1 : Bool × List (List Nat × List Nat) := (true, [([], []), ([0], [0]), ([1], [1]), ([2], [2]), ([3, 2], [2, 3]), ([4, 2, 2], [2, 4]), ([5, 2], [2, 5]), ([2, 6], [2, 6]), ([7, 5], [7]), ([8], [8]), ([9, 8, 8], [8, 9]), ([8], [8]), ([11, 8], [8, 11]), ([10, 12, 10, 8], [8, 10, 12]), ([8], [8]), ([14, 13, 8], [8, 14]), ([8], [8]), ([16, 8], [8, 16]), ([17, 8], [8, 17]), ([18, 8], [8, 18]), ([15, 19, 15, 8], [8, 15, 19]), ([13, 20, 8], [8, 13, 20]), ([8, 21], [8, 21])])
def sgn.B1 : List Nat := [0, 1, 3, 7, 15, 31, 63, 127, 255, 511, 1023, 511, 2559, 8191, 511, 32767, 511, 66047, 197119, 459263, 1048575, 2097151, 4194303]
theorem sgn.tab1 : rtab .any (opsOf Try.f14 1) = sgn.T1 := by kernel_rfl
theorem sgn.bits1 : waitsOk sgn.T1.2 sgn.B1 = true := by kernel_rfl
theorem sgot_nil (w : World) (a0 a1 a2 a3 : Int) :
  Calls Try.prog 14 #[.pointer none, .agg #[.int .i64 a0, .int .i64 a1, .int .i64 a2, .int .i64 a3]] w fun e w' => e = .returned (.int .i64 0) ∧ Below w.heap.size w w' := by
 go_enter Try.func14, Try.ntmps14
 go_upto_region 1 with ((with_reducible refine gate_dst (N := 3) rfl ?_); refine box_event ?hg (N := 3) ?hd (cs := #[.int .i64 a0, .int .i64 a1, .int .i64 a2, .int .i64 a3]) (t := 36) ?hr ?_; (case hd => rfl); (case hg => rfl); (case hr => first | (go_simp; done) | (go_simp; rfl) | rfl | kernel_rfl); intro gA hgA w2 hbox hb; have BB2 := Aside0.mk hb; clear hb hbox hgA)
 refine start_ (n := 23) (S := fun w' => True) (ds := []) #[false, false, false, false, false, false, false, false, false, false, false, false, false, false, false, false, false, false, false, false, false, false, false] (by kernel_rfl) rfl rfl trivial (fun hHeld => ?_); refine with_tabW sgn.tab1 sgn.bits1 (fun HT_ HW_ => ?_)
 refine pureA (i := 0) (N := some 6) HT_ ?_
 refine pureA (i := 1) (N := some 7) HT_ ?_
 refine pureA (i := 2) (N := some 8) HT_ ?_
 refine pure_ (i := 3) (N := some 9) (v := undef) (a' := ?_) #[true, true, true, true, false, false, false, false, false, false, false, false, false, false, false, false, false, false, false, false, false, false, false] rfl rfl (any_of HT_.out (by kernel_rfl)) (fun _ _ _ h => h) (Or.inr ⟨by rfl, rfl⟩) ?_ ?_
 rotate_left
 ·simp only [Act.put, List.setIfInBounds_toArray, List.set_cons_zero, List.set_cons_succ, i64_w, i32_w]
  rfl
 refine pure_ (i := 4) (N := some 10) (v := undef) (a' := ?_) #[true, true, true, true, true, false, false, false, false, false, false, false, false, false, false, false, false, false, false, false, false, false, false] rfl rfl (any_of HT_.out (by kernel_rfl)) (fun _ _ _ h => h) (Or.inr ⟨by rfl, rfl⟩) ?_ ?_
 rotate_left
 ·simp only [Act.put, List.setIfInBounds_toArray, List.set_cons_zero, List.set_cons_succ, i64_w, i32_w]
  rfl
 refine pure_ (i := 5) (N := some 11) (v := undef) (a' := ?_) #[true, true, true, true, true, true, false, false, false, false, false, false, false, false, false, false, false, false, false, false, false, false, false] rfl rfl (any_of HT_.out (by kernel_rfl)) (fun _ _ _ h => h) (Or.inr ⟨by rfl, rfl⟩) ?_ ?_
 rotate_left
 ·simp only [Act.put, List.setIfInBounds_toArray, List.set_cons_zero, List.set_cons_succ, i64_w, i32_w]
  rfl
 refine pure_ (i := 6) (N := some 12) (v := undef) (a' := ?_) #[true, true, true, true, true, true, true, false, false, false, false, false, false, false, false, false, false, false, false, false, false, false, false] rfl rfl (any_of HT_.out (by kernel_rfl)) (fun _ _ _ h => h) (Or.inr ⟨by rfl, rfl⟩) ?_ ?_
 rotate_left
 ·simp only [Act.put, List.setIfInBounds_toArray, List.set_cons_zero, List.set_cons_succ, i64_w, i32_w]
  rfl
 refine pureA (i := 7) (N := some 13) HT_ ?_
 refine pureA (i := 8) (N := some 14) HT_ ?_
 refine pure_ (i := 9) (N := some 15) (v := undef) (a' := ?_) #[true, true, true, true, true, true, true, true, true, true, false, false, false, false, false, false, false, false, false, false, false, false, false] rfl rfl (any_of HT_.out (by kernel_rfl)) (fun _ _ _ h => h) (Or.inr ⟨by rfl, rfl⟩) ?_ ?_
 rotate_left
 ·simp only [Act.put, List.setIfInBounds_toArray, List.set_cons_zero, List.set_cons_succ, i64_w, i32_w]
  rfl
 refine pure_ (i := 10) (N := some 16) (v := undef) (a' := ?_) #[true, true, true, true, true, true, true, true, true, true, true, false, false, false, false, false, false, false, false, false, false, false, false] rfl rfl (any_of HT_.out (by kernel_rfl)) (fun _ _ _ h => h) (Or.inr ⟨by rfl, rfl⟩) ?_ ?_
 rotate_left
 ·simp only [Act.put, List.setIfInBounds_toArray, List.set_cons_zero, List.set_cons_succ, i64_w, i32_w]
  rfl
 refine pure_ (i := 11) (N := some 17) (v := undef) (a' := ?_) #[true, true, true, true, true, true, true, true, true, true, true, true, false, false, false, false, false, false, false, false, false, false, false] rfl rfl (any_of HT_.out (by kernel_rfl)) (fun _ _ _ h => h) (Or.inr ⟨by rfl, rfl⟩) ?_ ?_
 rotate_left
 ·simp only [Act.put, List.setIfInBounds_toArray, List.set_cons_zero, List.set_cons_succ, i64_w, i32_w]
  rfl
 refine pure_ (i := 12) (N := some 18) (v := undef) (a' := ?_) #[true, true, true, true, true, true, true, true, true, true, true, true, true, false, false, false, false, false, false, false, false, false, false] rfl rfl (any_of HT_.out (by kernel_rfl)) (fun _ _ _ h => h) (Or.inr ⟨by rfl, rfl⟩) ?_ ?_
 rotate_left
 ·simp only [Act.put, List.setIfInBounds_toArray, List.set_cons_zero, List.set_cons_succ, i64_w, i32_w]
  rfl
 refine pure_ (i := 13) (N := some 19) (v := undef) (a' := ?_) #[true, true, true, true, true, true, true, true, true, true, true, true, true, true, false, false, false, false, false, false, false, false, false] rfl rfl (any_of HT_.out (by kernel_rfl)) (fun _ _ _ h => h) (Or.inr ⟨by rfl, rfl⟩) ?_ ?_
 rotate_left
 ·simp only [Act.put, List.setIfInBounds_toArray, List.set_cons_zero, List.set_cons_succ, i64_w, i32_w]
  rfl
 refine pure_ (i := 14) (N := some 20) (v := undef) (a' := ?_) #[true, true, true, true, true, true, true, true, true, true, true, true, true, true, true, false, false, false, false, false, false, false, false] rfl rfl (any_of HT_.out (by kernel_rfl)) (fun _ _ _ h => h) (Or.inr ⟨by rfl, rfl⟩) ?_ ?_
 rotate_left
 ·simp only [Act.put, List.setIfInBounds_toArray, List.set_cons_zero, List.set_cons_succ, i64_w, i32_w]
  rfl
 refine pure_ (i := 15) (N := some 21) (v := undef) (a' := ?_) #[true, true, true, true, true, true, true, true, true, true, true, true, true, true, true, true, false, false, false, false, false, false, false] rfl rfl (any_of HT_.out (by kernel_rfl)) (fun _ _ _ h => h) (Or.inr ⟨by rfl, rfl⟩) ?_ ?_
 rotate_left
 ·simp only [Act.put, List.setIfInBounds_toArray, List.set_cons_zero, List.set_cons_succ, i64_w, i32_w]
  rfl
 refine pure_ (i := 16) (N := some 22) (v := undef) (a' := ?_) #[true, true, true, true, true, true, true, true, true, true, true, true, true, true, true, true, true, false, false, false, false, false, false] rfl rfl (any_of HT_.out (by kernel_rfl)) (fun _ _ _ h => h) (Or.inr ⟨by rfl, rfl⟩) ?_ ?_
 rotate_left
 ·simp only [Act.put, List.setIfInBounds_toArray, List.set_cons_zero, List.set_cons_succ, i64_w, i32_w]
  rfl
 refine pure_ (i := 17) (N := some 23) (v := undef) (a' := ?_) #[true, true, true, true, true, true, true, true, true, true, true, true, true, true, true, true, true, true, false, false, false, false, false] rfl rfl (any_of HT_.out (by kernel_rfl)) (fun _ _ _ h => h) (Or.inr ⟨by rfl, rfl⟩) ?_ ?_
 rotate_left
 ·simp only [Act.put, List.setIfInBounds_toArray, List.set_cons_zero, List.set_cons_succ, i64_w, i32_w]
  rfl
 refine pure_ (i := 18) (N := some 24) (v := undef) (a' := ?_) #[true, true, true, true, true, true, true, true, true, true, true, true, true, true, true, true, true, true, true, false, false, false, false] rfl rfl (any_of HT_.out (by kernel_rfl)) (fun _ _ _ h => h) (Or.inr ⟨by rfl, rfl⟩) ?_ ?_
 rotate_left
 ·simp only [Act.put, List.setIfInBounds_toArray, List.set_cons_zero, List.set_cons_succ, i64_w, i32_w]
  rfl
 refine pure_ (i := 19) (N := some 25) (v := undef) (a' := ?_) #[true, true, true, true, true, true, true, true, true, true, true, true, true, true, true, true, true, true, true, true, false, false, false] rfl rfl (any_of HT_.out (by kernel_rfl)) (fun _ _ _ h => h) (Or.inr ⟨by rfl, rfl⟩) ?_ ?_
 rotate_left
 ·simp only [Act.put, List.setIfInBounds_toArray, List.set_cons_zero, List.set_cons_succ, i64_w, i32_w]
  rfl
 refine pure_ (i := 20) (N := some 26) (v := undef) (a' := ?_) #[true, true, true, true, true, true, true, true, true, true, true, true, true, true, true, true, true, true, true, true, true, false, false] rfl rfl (any_of HT_.out (by kernel_rfl)) (fun _ _ _ h => h) (Or.inr ⟨by rfl, rfl⟩) ?_ ?_
 rotate_left
 ·simp only [Act.put, List.setIfInBounds_toArray, List.set_cons_zero, List.set_cons_succ, i64_w, i32_w]
  rfl
 refine pure_ (i := 21) (N := some 27) (v := undef) (a' := ?_) #[true, true, true, true, true, true, true, true, true, true, true, true, true, true, true, true, true, true, true, true, true, true, false] rfl rfl (any_of HT_.out (by kernel_rfl)) (fun _ _ _ h => h) (Or.inr ⟨by rfl, rfl⟩) ?_ ?_
 rotate_left
 ·simp only [Act.put, List.setIfInBounds_toArray, List.set_cons_zero, List.set_cons_succ, i64_w, i32_w]
  rfl
 refine pureA (i := 22) (N := some 28) HT_ ?_
 refine done_ (done_of HT_.out (by kernel_rfl)) ?_
 go_wp2
 go_ret
 exact ⟨rfl, below_step BB2.out (below_drew (Below.refl _ _))⟩
def far (a b : Int) : Int := (b - a) % 65536
theorem far_range (a b : Int) : 0 ≤ far a b ∧ far a b < 65536 := by unfold far; omega
theorem serial_Far_eq (k : Nat) (a b : Int) : serial_Far.f (k + 3) a b = some (far a b) := by
 unfold serial_Far.f serial_of.f
 simp only [serial_of.l0, List.length_cons, List.length_nil]
 simp [rd, wrap64, IntKind.wrap_u16, far]
 omega
theorem serial_Far_ev (a b : Int) : Ev (fun k => serial_Far.f k a b) (far a b) := Ev.from 3 (fun k => serial_Far_eq k a b)
def hasB (nx : Int) (m : Nat) (n : Int) : Bool := decide (32768 ≤ far nx n) || (decide (1 ≤ far nx n) && (decide (far nx n ≤ 16) && m.testBit (far nx n - 1).toNat))
theorem mask_has_eq (m : Nat) (t : Int) (hm : m < 65536) (h1 : 1 ≤ t) (h2 : t ≤ 16) : ack_mask_has.f (m : Int) t = some (m.testBit (t - 1).toNat) := by
 unfold ack_mask_has.f
 rw [w64 (by omega) (by omega), if_pos (by omega)]
 congr 1
 unfold shr
 rw [Nat.min_eq_left (by simp [IntKind.bits]; omega)]
 rw [show ((m : Int) / 2 ^ (t - 1).toNat) = ((m / 2 ^ (t - 1).toNat : Nat) : Int) by simp]
 have hq : m / 2 ^ (t - 1).toNat ≤ m := Nat.div_le_self _ _
 have hb := bits_and_i64 (m / 2 ^ (t - 1).toNat) 1 (by omega) (by decide)
 rw [show ((1 : Nat) : Int) = 1 from rfl] at hb
 rw [hb, Nat.and_one_is_mod, Nat.testBit_eq_decide_div_mod_eq]
 rw [Bool.eq_iff_iff]
 simp only [beq_iff_eq, decide_eq_true_eq]
 omega
theorem ack_Has_ev (nx : Int) (m : Nat) (n : Int) (h0 : 0 ≤ nx) (h1 : nx ≤ 65535) (hm : m < 65536) : Ev (fun k => ack_Has.f k 0 0 nx m n) (hasB nx m n) := by
 have hr : ack_right.f 0 0 nx m = some true := by
  unfold ack_right.f
  simp only [if_pos (show (0 : Int) ≥ 0 by decide), if_pos (show (0 : Int) < 64 by decide), if_pos (show (0 : Int) ≤ 4294967295 by decide), if_pos (show nx ≥ 0 by omega), if_pos h1, if_pos (show (m : Int) ≥ 0 by omega)]
  rw [decide_eq_true (show (m : Int) ≤ 65535 by omega)]
 unfold ack_Has.f
 simp only [hr, Option.bind_some, if_true]
 refine Ev.bind (serial_Far_ev _ _) ?_
 have hf := far_range nx n
 unfold hasB
 by_cases c0 : far nx n ≥ 32768
 ·simp only [if_pos c0]
  rw [decide_eq_true (show 32768 ≤ far nx n from c0)]
  exact Ev.now _
 ·simp only [if_neg c0]
  rw [decide_eq_false (show ¬ 32768 ≤ far nx n from c0), Bool.false_or]
  by_cases c1 : far nx n ≥ 1
  ·simp only [if_pos c1]
   rw [decide_eq_true (show 1 ≤ far nx n from c1), Bool.true_and]
   by_cases c2 : far nx n ≤ 16
   ·simp only [if_pos c2, mask_has_eq m _ hm c1 c2, Option.bind_some]
    rw [decide_eq_true c2, Bool.true_and]
    exact Ev.now _
   ·simp only [if_neg c2]
    rw [decide_eq_false c2, Bool.false_and]
    exact Ev.now _
  ·simp only [if_neg c1]
   rw [decide_eq_false (show ¬ 1 ≤ far nx n from c1), Bool.false_and]
   exact Ev.now _
end Go.Proofs.Ytclbempnhelmoaa.P
namespace Go.Proofs.Ytclbempnhelmoaa.P
open Go.RowKit YtclbempnhelmoaaW.PrintWords YtclbempnhelmoaaW.PrintLast YtclbempnhelmoaaW.PrintMore
open YtclbempnhelmoaaW.PrintWords.Aside0 renaming mk → YA
attribute [local go_sem] max2_int min2_int max_two min_two max_three min_three max_four min_four
def thalwegref03_Left.f (a0 : Int) : Option (Int) := if (Int.tmod a0 65536) < 0 then (some (wrap64 ((Int.tmod a0 65536) + 65536))) else (some (Int.tmod a0 65536))
theorem thalwegref03_Left.calls (a0 : Int) (r : Int) (w : World) (h : thalwegref03_Left.f a0 = some r) :
  Calls Try.prog 62 #[.int .i64 a0] w fun e w' => e = .returned (.int .i64 r) ∧ Drawn0 w w' := by
 have H : (if (Int.tmod a0 65536) < 0 then (some (wrap64 ((Int.tmod a0 65536) + 65536))) else (some (Int.tmod a0 65536))) = some r := h
 clear h
 by_cases c2 : (Int.tmod a0 65536) < 0
 ·rw [if_pos c2] at H
  have c2b0 : decide ((Int.tmod a0 65536) < 0) = true := decide_eq_true c2; clear c2
  obtain rfl := Option.some.inj H
  go_enter Try.func62, Try.ntmps62
  go_wp2
  go_ret
  exact ⟨by first | rfl | (simp; done) | (simp [*]; done), by repeat (first | exact Drawn0.refl _ | apply Drawn0.step)⟩
 rw [if_neg c2] at H; have c2b0 : decide ((Int.tmod a0 65536) < 0) = false := decide_eq_false c2; clear c2
 obtain rfl := Option.some.inj H
 go_enter Try.func62, Try.ntmps62
 go_wp2
 go_ret
 exact ⟨by first | rfl | (simp; done) | (simp [*]; done), by repeat (first | exact Drawn0.refl _ | apply Drawn0.step)⟩
def thalwegref03_Next.f (a0 : Int) : Option (Int) := (thalwegref03_Left.f a0).bind fun t276 => (some (Int.tmod (wrap64 (t276 + 1)) 65536))
theorem thalwegref03_Next.calls (a0 : Int) (r : Int) (w : World) (h : thalwegref03_Next.f a0 = some r) :
  Calls Try.prog 43 #[.int .i64 a0] w fun e w' => e = .returned (.int .i64 r) ∧ Drawn0 w w' := by
 have H : ((thalwegref03_Left.f a0).bind fun t276 => (some (Int.tmod (wrap64 (t276 + 1)) 65536))) = some r := h
 clear h; replace H := Option.bind_eq_some_iff.mp H; obtain ⟨t276, A20, H⟩ := H
 replace H : (some (Int.tmod (wrap64 (t276 + 1)) 65536)) = some r := H
 have A2 := YA A20; clear A20
 obtain rfl := Option.some.inj H
 go_enter Try.func43, Try.ntmps43
 go_wp2_with (first | ((with_reducible refine gate_callee (f := 62) rfl ?_); refine goesA (some 4) Try.func62 #[.int .i64 a0] ?_; (with_reducible refine (thalwegref03_Left.calls a0 t276 _ A2.out).mono ?_); rintro e w' ⟨rfl, ⟨nd, rfl⟩⟩; refine ⟨_, rfl, ?_⟩))
 go_ret
 exact ⟨by first | rfl | (simp; done) | (simp [*]; done), by repeat (first | exact Drawn0.refl _ | apply Drawn0.step)⟩
def thalwegref04_Own.f (l0 : List (S34)) : Option ((List (S34))) := if ([] : List (S34)).length + l0.length < 1466015503701 then (some (([] : List (S34)) ++ l0)) else (none)
theorem thalwegref04_Own.calls (A0 : Option Addr) (c0 : Nat) (l0 : List (S34)) (r : List (S34)) (w : World) (hr0 : Kd.C k34 w A0 l0.length l0) (hc0 : l0.length ≤ c0) (h : thalwegref04_Own.f l0 = some r) :
  Calls Try.prog 44 #[.slice A0 l0.length c0] w fun e w' => ∃ v0_ : Value, e = .returned (v0_) ∧ Kd.R k34 34 w' w.heap.size (fun _ => True) v0_ r ∧ Below w.heap.size w w' := by
 have HR0 := YA hr0; have HC0 := YA hc0; clear hr0 hc0
 have HB := YA (Below.refl w.heap.size w)
 have H : (if ([] : List (S34)).length + l0.length < 1466015503701 then (some (([] : List (S34)) ++ l0)) else (none)) = some r := h
 clear h
 by_cases c2 : ([] : List (S34)).length + l0.length < 1466015503701
 rotate_left
 ·rw [if_neg c2] at H
  exact absurd H (by simp)
 rw [if_pos c2] at H; have LMc2 := YA c2; clear c2
 obtain ⟨y277, hy277⟩ : ∃ y_ : List (S34), y_ = (([] : List (S34)) ++ l0) := ⟨_, rfl⟩
 replace H : (some y277) = some r := by first | (rw [hy277]; with_reducible exact H) | (have H2_ := (Option.bind_some _ _).symm.trans H; rw [hy277]; with_reducible exact H2_) | (have H2_ := (Option.bind_some _ _).symm.trans H; with_reducible exact H2_) | with_reducible exact H | (rw [hy277]; exact H) | exact H
 have Ny277 := YA hy277; clear hy277
 obtain rfl := Option.some.inj H
 go_enter Try.func44, Try.ntmps44
 go_wp2_with (first | ((with_reducible refine gate_builtin (b := .append) (xs := #[.tmp 4, .tmp 5]) rfl ?_); at_builtin; refine Kd.R_append_rows k34 (w0 := w) w.heap.size rfl (.tmp 4) (.tmp 5) 46 34 (.agg #[(.int .i64 0), (.int .i64 0), (.bool false), (.int .i64 0), (.int .i64 0), (.int .i64 0), (.int .i64 0), (.int .i64 0), (.int .i64 0), (.int .i64 0), (.int .i64 0), (.int .i64 0)]) 96 rfl Try.underlying46 info34 rfl (by decide) (by omega) (.slice none 0 0) ([] : List (S34)) l0 _ _ _ (fun _ => True) (fun _ => False) rfl rfl ?aO ?aR (fun _ _ h => h) (fun _ h => h.elim) ?aF ?aB ?aS ?aL ?_; (case aR => repeat (first | exact HR0.out | (with_reducible refine Kd.C_alloc ?_ _) | (with_reducible refine Kd.C_drewN ?_ _) | (with_reducible refine Kd.C_drew ?_))); (case aB => exact (upB HB)); (case aF => exact (fun _ _ => trivial)); (case aO => exact ((Kd.R_nil _ _ _ _ (fun _ => True)))); (case aS => exact (below_size (upB HB))); (case aL => have := LMc2.out; omega); intro v278 w3 ho hb hg hat; rw [← Ny277.out] at ho; have n0_ := YA (hb); have n1_ := YA (ho); clear HB; have HB := n0_; have HO279 := n1_; clear n0_ n1_; clear ho hb hg hat))
 go_ret
 exact ⟨_, by first | rfl | (simp [errW_none, errW_some] <;> rfl) | (simp [*, errW_none, errW_some] <;> rfl), by (with_reducible repeat (first | apply Kd.R_alloc | apply Kd.R_drewN | apply Kd.R_drew)); exact HO279.out, by repeat (first | (with_reducible first | exact HB.out | apply below_alloc | apply pw_below_drewN | apply below_drew1) | exact HB.out)⟩
end Go.Proofs.Ytclbempnhelmoaa.P
namespace Go.Proofs.Ytclbempnhelmoaa.P
open Go.RowKit YtclbempnhelmoaaW.PrintWords YtclbempnhelmoaaW.PrintLast YtclbempnhelmoaaW.PrintMore
open YtclbempnhelmoaaW.PrintWords renaming below_alloc → YA, pw_below_drewN → YB, below_drew1 → YC, below_step → YD, below_size → YE, blk_cell → YF, blk_frozen → YG
open YtclbempnhelmoaaW.PrintWords.Aside0 renaming mk → YH
attribute [local go_sem] max2_int min2_int max_two min_two max_three min_three max_four min_four
def thalwegref03_Far.f (a0 : Int) (a1 : Int) : Option (Int) := (thalwegref03_Left.f a1).bind fun t390 => ((thalwegref03_Left.f a0).bind fun t391 => ((thalwegref03_Left.f (wrap64 (t390 - t391))).bind fun t392 => (some t392)))
theorem thalwegref03_Far.calls (a0 : Int) (a1 : Int) (r : Int) (w : World) (h : thalwegref03_Far.f a0 a1 = some r) :
  Calls Try.prog 42 #[.int .i64 a0, .int .i64 a1] w fun e w' => e = .returned (.int .i64 r) ∧ Drawn0 w w' := by
 have H : ((thalwegref03_Left.f a1).bind fun t390 => ((thalwegref03_Left.f a0).bind fun t391 => ((thalwegref03_Left.f (wrap64 (t390 - t391))).bind fun t392 => (some t392)))) = some r := h
 clear h; replace H := Option.bind_eq_some_iff.mp H; obtain ⟨t390, A30, H⟩ := H
 replace H : ((thalwegref03_Left.f a0).bind fun t391 => ((thalwegref03_Left.f (wrap64 (t390 - t391))).bind fun t392 => (some t392))) = some r := H
 have A3 := YH A30; clear A30; replace H := Option.bind_eq_some_iff.mp H; obtain ⟨t391, A40, H⟩ := H
 replace H : ((thalwegref03_Left.f (wrap64 (t390 - t391))).bind fun t392 => (some t392)) = some r := H
 have A4 := YH A40; clear A40; replace H := Option.bind_eq_some_iff.mp H; obtain ⟨t392, A50, H⟩ := H
 replace H : (some t392) = some r := H
 have A5 := YH A50; clear A50
 obtain rfl := Option.some.inj H
 go_enter Try.func42, Try.ntmps42
 go_wp2_with (first | ((with_reducible refine gate_callee (f := 62) rfl ?_); refine goesA (some 6) Try.func62 #[.int .i64 a1] ?_; (with_reducible refine (thalwegref03_Left.calls a1 t390 _ A3.out).mono ?_); rintro e w' ⟨rfl, ⟨nd, rfl⟩⟩; refine ⟨_, rfl, ?_⟩) | ((with_reducible refine gate_callee (f := 62) rfl ?_); refine goesA (some 8) Try.func62 #[.int .i64 a0] ?_; (with_reducible refine (thalwegref03_Left.calls a0 t391 _ A4.out).mono ?_); rintro e w' ⟨rfl, ⟨nd, rfl⟩⟩; refine ⟨_, rfl, ?_⟩) | ((with_reducible refine gate_callee (f := 62) rfl ?_); refine goesA (some 10) Try.func62 #[.int .i64 (wrap64 (t390 - t391))] ?_; (with_reducible refine (thalwegref03_Left.calls (wrap64 (t390 - t391)) t392 _ A5.out).mono ?_); rintro e w' ⟨rfl, ⟨nd, rfl⟩⟩; refine ⟨_, rfl, ?_⟩))
 go_ret
 exact ⟨by first | rfl | (simp; done) | (simp [*]; done), by repeat (first | exact Drawn0.refl _ | apply Drawn0.step)⟩
def thalwegref06_Epoch.f (a0 : Int) : Option (Bool) := if a0 ≥ 0 then (some (decide (a0 ≤ 4294967295))) else (some false)
theorem thalwegref06_Epoch.calls (a0 : Int) (r : Bool) (w : World) (h : thalwegref06_Epoch.f a0 = some r) :
  Calls Try.prog 63 #[.int .i64 a0] w fun e w' => e = .returned (.bool r) ∧ Drawn0 w w' := by
 have H : (if a0 ≥ 0 then (some (decide (a0 ≤ 4294967295))) else (some false)) = some r := h
 clear h
 by_cases c2 : a0 ≥ 0
 ·rw [if_pos c2] at H
  have c2b0 : decide (0 ≤ a0) = true := decide_eq_true c2; clear c2
  obtain rfl := Option.some.inj H
  go_enter Try.func63, Try.ntmps63
  go_wp2
  go_ret
  exact ⟨by first | rfl | (simp; done) | (simp [*]; done), by repeat (first | exact Drawn0.refl _ | apply Drawn0.step)⟩
 rw [if_neg c2] at H; have c2b0 : decide (0 ≤ a0) = false := decide_eq_false c2; clear c2
 obtain rfl := Option.some.inj H
 go_enter Try.func63, Try.ntmps63
 go_wp2
 go_ret
 exact ⟨by first | rfl | (simp; done) | (simp [*]; done), by repeat (first | exact Drawn0.refl _ | apply Drawn0.step)⟩
def thalwegref07_One.f (a0_0 : Int) (a0_1 : Int) (a0_2 : Int) (a0_3 : Int) : Option (Bool) := if a0_0 ≥ 0 then (if a0_0 < 64 then ((thalwegref06_Epoch.f a0_1).bind fun t394 => (if t394 = true then (if a0_2 ≥ 0 then (if a0_2 ≤ 65535 then (if a0_3 ≥ 0 then (some (decide (a0_3 ≤ 65535))) else (some false)) else (some false)) else (some false)) else (some false))) else (some false)) else (some false)
theorem thalwegref07_One.calls (a0_0 : Int) (a0_1 : Int) (a0_2 : Int) (a0_3 : Int) (r : Bool) (w : World) (h : thalwegref07_One.f a0_0 a0_1 a0_2 a0_3 = some r) :
  Calls Try.prog 45 #[.agg #[.int .i64 a0_0, .int .i64 a0_1, .int .i64 a0_2, .int .i64 a0_3]] w fun e w' => e = .returned (.bool r) ∧ Below w.heap.size w w' := by
 have hu36 := Try.underlying36
 have HB := YH (Below.refl w.heap.size w)
 have H : (if a0_0 ≥ 0 then (if a0_0 < 64 then ((thalwegref06_Epoch.f a0_1).bind fun t394 => (if t394 = true then (if a0_2 ≥ 0 then (if a0_2 ≤ 65535 then (if a0_3 ≥ 0 then (some (decide (a0_3 ≤ 65535))) else (some false)) else (some false)) else (some false)) else (some false))) else (some false)) else (some false)) = some r := h
 clear h
 by_cases c2 : a0_0 ≥ 0
 ·rw [if_pos c2] at H
  have c2b0 : decide (0 ≤ a0_0) = true := decide_eq_true c2; clear c2
  by_cases c3 : a0_0 < 64
  ·rw [if_pos c3] at H
   have c3b0 : decide (a0_0 < 64) = true := decide_eq_true c3; clear c3; replace H := Option.bind_eq_some_iff.mp H; obtain ⟨t394, A40, H⟩ := H
   replace H : (if t394 = true then (if a0_2 ≥ 0 then (if a0_2 ≤ 65535 then (if a0_3 ≥ 0 then (some (decide (a0_3 ≤ 65535))) else (some false)) else (some false)) else (some false)) else (some false)) = some r := H
   have A4 := YH A40; clear A40
   by_cases c5 : t394 = true
   ·subst c5
    have H1 : (if a0_2 ≥ 0 then (if a0_2 ≤ 65535 then (if a0_3 ≥ 0 then (some (decide (a0_3 ≤ 65535))) else (some false)) else (some false)) else (some false)) = some r := by rw [if_pos rfl] at H; exact H
    clear H
    have H := H1
    clear H1
    by_cases c6 : a0_2 ≥ 0
    ·rw [if_pos c6] at H
     have c6b0 : decide (0 ≤ a0_2) = true := decide_eq_true c6; clear c6
     by_cases c7 : a0_2 ≤ 65535
     ·rw [if_pos c7] at H
      have c7b0 : decide (a0_2 ≤ 65535) = true := decide_eq_true c7; clear c7
      by_cases c8 : a0_3 ≥ 0
      ·rw [if_pos c8] at H
       have c8b0 : decide (0 ≤ a0_3) = true := decide_eq_true c8; clear c8
       obtain rfl := Option.some.inj H
       go_enter Try.func45, Try.ntmps45
       go_wp2_with (first | ((with_reducible refine gate_dst (N := 1) rfl ?_); refine box_event ?hg (N := 1) ?hd (cs := #[.int .i64 a0_0, .int .i64 a0_1, .int .i64 a0_2, .int .i64 a0_3]) (t := 36) ?hr ?_; (case hd => rfl); (case hg => rfl); (case hr => first | (go_simp; done) | (go_simp; rfl)); intro gb393 hg w9 hbox hb; have n0_ := YH (YD (upB HB) hb); have n1_ := YH (hbox); have n2_ := YH ((by rw [hg]; exact (YE (upB HB)) : w.heap.size ≤ gb393)); have n3_ := YH ((by rw [hg]; exact (YE (upB HB)) : w.heap.size ≤ gb393)); clear HB; have HB := n0_; have BK393 := n1_; have GW393 := n2_; have GE393 := n3_; clear n0_ n1_ n2_ n3_; clear hb hbox hg; obtain ⟨q10_0, q10_1, q10_2, q10_3⟩ := cA4 BK393.out; obtain ⟨f10_0, f10_1, f10_2, f10_3⟩ := fA4 BK393.out) | (go_at_call 63; (with_reducible refine (thalwegref06_Epoch.calls a0_1 true _ A4.out).mono ?_); rintro e w' ⟨rfl, ⟨nd, rfl⟩⟩))
       go_ret
       exact ⟨by first | rfl | (simp [errW_none, errW_some] <;> rfl) | (simp [*, errW_none, errW_some] <;> rfl), by repeat (first | (with_reducible first | exact HB.out | apply YA | apply YB | apply YC | refine below_set ?_ GE393.out) | exact HB.out)⟩
      rw [if_neg c8] at H; have c8b0 : decide (0 ≤ a0_3) = false := decide_eq_false c8; clear c8
      obtain rfl := Option.some.inj H
      go_enter Try.func45, Try.ntmps45
      go_wp2_with (first | ((with_reducible refine gate_dst (N := 1) rfl ?_); refine box_event ?hg (N := 1) ?hd (cs := #[.int .i64 a0_0, .int .i64 a0_1, .int .i64 a0_2, .int .i64 a0_3]) (t := 36) ?hr ?_; (case hd => rfl); (case hg => rfl); (case hr => first | (go_simp; done) | (go_simp; rfl)); intro gb393 hg w11 hbox hb; have n0_ := YH (YD (upB HB) hb); have n1_ := YH (hbox); have n2_ := YH ((by rw [hg]; exact (YE (upB HB)) : w.heap.size ≤ gb393)); have n3_ := YH ((by rw [hg]; exact (YE (upB HB)) : w.heap.size ≤ gb393)); clear HB; have HB := n0_; have BK393 := n1_; have GW393 := n2_; have GE393 := n3_; clear n0_ n1_ n2_ n3_; clear hb hbox hg; obtain ⟨q12_0, q12_1, q12_2, q12_3⟩ := cA4 BK393.out; obtain ⟨f12_0, f12_1, f12_2, f12_3⟩ := fA4 BK393.out) | (go_at_call 63; (with_reducible refine (thalwegref06_Epoch.calls a0_1 true _ A4.out).mono ?_); rintro e w' ⟨rfl, ⟨nd, rfl⟩⟩))
      go_ret
      exact ⟨by first | rfl | (simp [errW_none, errW_some] <;> rfl) | (simp [*, errW_none, errW_some] <;> rfl), by repeat (first | (with_reducible first | exact HB.out | apply YA | apply YB | apply YC | refine below_set ?_ GE393.out) | exact HB.out)⟩
     rw [if_neg c7] at H; have c7b0 : decide (a0_2 ≤ 65535) = false := decide_eq_false c7; clear c7
     obtain rfl := Option.some.inj H
     go_enter Try.func45, Try.ntmps45
     go_wp2_with (first | ((with_reducible refine gate_dst (N := 1) rfl ?_); refine box_event ?hg (N := 1) ?hd (cs := #[.int .i64 a0_0, .int .i64 a0_1, .int .i64 a0_2, .int .i64 a0_3]) (t := 36) ?hr ?_; (case hd => rfl); (case hg => rfl); (case hr => first | (go_simp; done) | (go_simp; rfl)); intro gb393 hg w13 hbox hb; have n0_ := YH (YD (upB HB) hb); have n1_ := YH (hbox); have n2_ := YH ((by rw [hg]; exact (YE (upB HB)) : w.heap.size ≤ gb393)); have n3_ := YH ((by rw [hg]; exact (YE (upB HB)) : w.heap.size ≤ gb393)); clear HB; have HB := n0_; have BK393 := n1_; have GW393 := n2_; have GE393 := n3_; clear n0_ n1_ n2_ n3_; clear hb hbox hg; obtain ⟨q14_0, q14_1, q14_2, q14_3⟩ := cA4 BK393.out; obtain ⟨f14_0, f14_1, f14_2, f14_3⟩ := fA4 BK393.out) | (go_at_call 63; (with_reducible refine (thalwegref06_Epoch.calls a0_1 true _ A4.out).mono ?_); rintro e w' ⟨rfl, ⟨nd, rfl⟩⟩))
     go_ret
     exact ⟨by first | rfl | (simp [errW_none, errW_some] <;> rfl) | (simp [*, errW_none, errW_some] <;> rfl), by repeat (first | (with_reducible first | exact HB.out | apply YA | apply YB | apply YC | refine below_set ?_ GE393.out) | exact HB.out)⟩
    rw [if_neg c6] at H; have c6b0 : decide (0 ≤ a0_2) = false := decide_eq_false c6; clear c6
    obtain rfl := Option.some.inj H
    go_enter Try.func45, Try.ntmps45
    go_wp2_with (first | ((with_reducible refine gate_dst (N := 1) rfl ?_); refine box_event ?hg (N := 1) ?hd (cs := #[.int .i64 a0_0, .int .i64 a0_1, .int .i64 a0_2, .int .i64 a0_3]) (t := 36) ?hr ?_; (case hd => rfl); (case hg => rfl); (case hr => first | (go_simp; done) | (go_simp; rfl)); intro gb393 hg w15 hbox hb; have n0_ := YH (YD (upB HB) hb); have n1_ := YH (hbox); have n2_ := YH ((by rw [hg]; exact (YE (upB HB)) : w.heap.size ≤ gb393)); have n3_ := YH ((by rw [hg]; exact (YE (upB HB)) : w.heap.size ≤ gb393)); clear HB; have HB := n0_; have BK393 := n1_; have GW393 := n2_; have GE393 := n3_; clear n0_ n1_ n2_ n3_; clear hb hbox hg; obtain ⟨q16_0, q16_1, q16_2, q16_3⟩ := cA4 BK393.out; obtain ⟨f16_0, f16_1, f16_2, f16_3⟩ := fA4 BK393.out) | (go_at_call 63; (with_reducible refine (thalwegref06_Epoch.calls a0_1 true _ A4.out).mono ?_); rintro e w' ⟨rfl, ⟨nd, rfl⟩⟩))
    go_ret
    exact ⟨by first | rfl | (simp [errW_none, errW_some] <;> rfl) | (simp [*, errW_none, errW_some] <;> rfl), by repeat (first | (with_reducible first | exact HB.out | apply YA | apply YB | apply YC | refine below_set ?_ GE393.out) | exact HB.out)⟩
   replace c5 := Bool.eq_false_iff.mpr c5
   subst c5
   have H1 : (some false) = some r := by rw [if_neg (show ¬ (false = true) by decide)] at H; exact H
   clear H
   have H := H1
   clear H1
   obtain rfl := Option.some.inj H
   go_enter Try.func45, Try.ntmps45
   go_wp2_with (first | ((with_reducible refine gate_dst (N := 1) rfl ?_); refine box_event ?hg (N := 1) ?hd (cs := #[.int .i64 a0_0, .int .i64 a0_1, .int .i64 a0_2, .int .i64 a0_3]) (t := 36) ?hr ?_; (case hd => rfl); (case hg => rfl); (case hr => first | (go_simp; done) | (go_simp; rfl)); intro gb393 hg w17 hbox hb; have n0_ := YH (YD (upB HB) hb); have n1_ := YH (hbox); have n2_ := YH ((by rw [hg]; exact (YE (upB HB)) : w.heap.size ≤ gb393)); have n3_ := YH ((by rw [hg]; exact (YE (upB HB)) : w.heap.size ≤ gb393)); clear HB; have HB := n0_; have BK393 := n1_; have GW393 := n2_; have GE393 := n3_; clear n0_ n1_ n2_ n3_; clear hb hbox hg; obtain ⟨q18_0, q18_1, q18_2, q18_3⟩ := cA4 BK393.out; obtain ⟨f18_0, f18_1, f18_2, f18_3⟩ := fA4 BK393.out) | (go_at_call 63; (with_reducible refine (thalwegref06_Epoch.calls a0_1 false _ A4.out).mono ?_); rintro e w' ⟨rfl, ⟨nd, rfl⟩⟩))
   go_ret
   exact ⟨by first | rfl | (simp [errW_none, errW_some] <;> rfl) | (simp [*, errW_none, errW_some] <;> rfl), by repeat (first | (with_reducible first | exact HB.out | apply YA | apply YB | apply YC | refine below_set ?_ GE393.out) | exact HB.out)⟩
  rw [if_neg c3] at H; have c3b0 : decide (a0_0 < 64) = false := decide_eq_false c3; clear c3
  obtain rfl := Option.some.inj H
  go_enter Try.func45, Try.ntmps45
  go_wp2_with (first | ((with_reducible refine gate_dst (N := 1) rfl ?_); refine box_event ?hg (N := 1) ?hd (cs := #[.int .i64 a0_0, .int .i64 a0_1, .int .i64 a0_2, .int .i64 a0_3]) (t := 36) ?hr ?_; (case hd => rfl); (case hg => rfl); (case hr => first | (go_simp; done) | (go_simp; rfl)); intro gb393 hg w19 hbox hb; have n0_ := YH (YD (upB HB) hb); have n1_ := YH (hbox); have n2_ := YH ((by rw [hg]; exact (YE (upB HB)) : w.heap.size ≤ gb393)); have n3_ := YH ((by rw [hg]; exact (YE (upB HB)) : w.heap.size ≤ gb393)); clear HB; have HB := n0_; have BK393 := n1_; have GW393 := n2_; have GE393 := n3_; clear n0_ n1_ n2_ n3_; clear hb hbox hg; obtain ⟨q20_0, q20_1, q20_2, q20_3⟩ := cA4 BK393.out; obtain ⟨f20_0, f20_1, f20_2, f20_3⟩ := fA4 BK393.out))
  go_ret
  exact ⟨by first | rfl | (simp [errW_none, errW_some] <;> rfl) | (simp [*, errW_none, errW_some] <;> rfl), by repeat (first | (with_reducible first | exact HB.out | apply YA | apply YB | apply YC | refine below_set ?_ GE393.out) | exact HB.out)⟩
 rw [if_neg c2] at H; have c2b0 : decide (0 ≤ a0_0) = false := decide_eq_false c2; clear c2
 obtain rfl := Option.some.inj H
 go_enter Try.func45, Try.ntmps45
 go_wp2_with (first | ((with_reducible refine gate_dst (N := 1) rfl ?_); refine box_event ?hg (N := 1) ?hd (cs := #[.int .i64 a0_0, .int .i64 a0_1, .int .i64 a0_2, .int .i64 a0_3]) (t := 36) ?hr ?_; (case hd => rfl); (case hg => rfl); (case hr => first | (go_simp; done) | (go_simp; rfl)); intro gb393 hg w21 hbox hb; have n0_ := YH (YD (upB HB) hb); have n1_ := YH (hbox); have n2_ := YH ((by rw [hg]; exact (YE (upB HB)) : w.heap.size ≤ gb393)); have n3_ := YH ((by rw [hg]; exact (YE (upB HB)) : w.heap.size ≤ gb393)); clear HB; have HB := n0_; have BK393 := n1_; have GW393 := n2_; have GE393 := n3_; clear n0_ n1_ n2_ n3_; clear hb hbox hg; obtain ⟨q22_0, q22_1, q22_2, q22_3⟩ := cA4 BK393.out; obtain ⟨f22_0, f22_1, f22_2, f22_3⟩ := fA4 BK393.out))
 go_ret
 exact ⟨by first | rfl | (simp [errW_none, errW_some] <;> rfl) | (simp [*, errW_none, errW_some] <;> rfl), by repeat (first | (with_reducible first | exact HB.out | apply YA | apply YB | apply YC | refine below_set ?_ GE393.out) | exact HB.out)⟩
def thalwegref07_power.l0 : Nat → Int → Int → Int → Option (Int)
 | 0, _, _, _ => none
 | k + 1, x0, x3, x4 => if x4 < x0 then (thalwegref07_power.l0 k x0 (wrap64 (2 * x3)) (wrap64 (x4 + 1))) else (some x3)
def thalwegref07_power.f (k : Nat) (a0 : Int) : Option (Int) := thalwegref07_power.l0 k a0 1 0
theorem thalwegref07_power.mono_l : ∀ k, (∀ y0 y1 y2, LeO (thalwegref07_power.l0 k y0 y1 y2) (thalwegref07_power.l0 (k + 1) y0 y1 y2))
 | 0 => fun _ _ _ r h => by simp [thalwegref07_power.l0] at h
 | k + 1 => by
  have ih0 := thalwegref07_power.mono_l k
  ·intro y0 y1 y2
   unfold thalwegref07_power.l0
   repeat' first
   | (with_reducible exact ih0 _ _ _)
   | (with_reducible exact LeO.refl _)
   | (with_reducible exact LeO.none _)
   | (with_reducible refine LeO.ite ?_ ?_)
   | (with_reducible refine LeO.bind ?_ (fun _ => ?_))
   | exact ih0 _ _ _
   | exact LeO.none _
   | refine LeO.ite ?_ ?_
   | refine LeO.bind ?_ (fun _ => ?_)
theorem thalwegref07_power.mono : ∀ a0 k, LeO (thalwegref07_power.f k a0) (thalwegref07_power.f (k + 1) a0) := by
 intro a0 k
 have ih0 := thalwegref07_power.mono_l k
 unfold thalwegref07_power.f
 repeat' first
   | (with_reducible exact ih0 _ _ _)
   | (with_reducible exact LeO.refl _)
   | (with_reducible exact LeO.none _)
   | (with_reducible refine LeO.ite ?_ ?_)
   | (with_reducible refine LeO.bind ?_ (fun _ => ?_))
   | exact ih0 _ _ _
   | exact LeO.none _
   | refine LeO.ite ?_ ?_
   | refine LeO.bind ?_ (fun _ => ?_)
theorem thalwegref07_power.calls (k : Nat) (a0 : Int) (r : Int) (w : World) (h : thalwegref07_power.f k a0 = some r) :
  Calls Try.prog 64 #[.int .i64 a0] w fun e w' => e = .returned (.int .i64 r) ∧ Drawn0 w w' := by
 have H : (thalwegref07_power.l0 k a0 1 0) = some r := h
 clear h
 have H' := YH H
 clear H
 go_enter Try.func64, Try.ntmps64
 go_wp2
 go_loopg [3, 4] k (fun kq v3 v4 w' => ∃ (x3_1 : Int) (x4_1 : Int), v3 = .int .i64 x3_1 ∧ v4 = .int .i64 x4_1 ∧ Aside0 (thalwegref07_power.l0 kq a0 x3_1 x4_1 = some r) ∧ Aside0 (kq ≤ k) ∧ Drawn0 w w')
 case atStart => exact ⟨(1), (0), (by first | rfl | (simp; done) | (simp [*]; done)), (by first | rfl | (simp; done) | (simp [*]; done)), H', ⟨Nat.le_refl _⟩, by repeat (first | exact Drawn0.refl _ | apply Drawn0.step)⟩
 case round =>
  clear H'
  obtain ⟨x3_1, x4_1, rfl, rfl, HA, HK1, ⟨m1, rfl⟩⟩ := hrel
  cases gk with
  | zero => exact absurd HA.out (by simp [thalwegref07_power.l0])
  | succ k1 =>
   have H := HA.out
   clear HA
   simp only [thalwegref07_power.l0] at H
   by_cases c2 : x4_1 < a0
   ·rw [if_pos c2] at H
    have c2b0 : decide (x4_1 < a0) = true := decide_eq_true c2; clear c2
    have H' := YH H
    clear H
    go_wp2
    go_roundg k1
    case measure => have := HK1.out; omega
    case rel => exact ⟨(wrap64 (2 * x3_1)), (wrap64 (x4_1 + 1)), (by first | rfl | (simp; done) | (simp [*]; done)), (by first | rfl | (simp; done) | (simp [*]; done)), H', ⟨by have := HK1.out; omega⟩, by repeat (first | exact Drawn0.refl _ | apply Drawn0.step)⟩
   rw [if_neg c2] at H; have c2b0 : decide (x4_1 < a0) = false := decide_eq_false c2; clear c2
   obtain rfl := Option.some.inj H
   go_wp2
   go_ret
   exact ⟨by first | rfl | (simp; done) | (simp [*]; done), by repeat (first | exact Drawn0.refl _ | apply Drawn0.step)⟩
end Go.Proofs.Ytclbempnhelmoaa.P
namespace Go.Proofs.Ytclbempnhelmoaa.P
open Go.RowKit YtclbempnhelmoaaW.PrintWords YtclbempnhelmoaaW.PrintLast YtclbempnhelmoaaW.PrintMore
open YtclbempnhelmoaaW.PrintWords renaming below_alloc → YA, pw_below_drewN → YB, below_drew1 → YC, below_step → YD, below_size → YE, blk_drewN → YF, blk_drew → YG, blk_alloc → YH, blk_cell → YI, blk_frozen → YJ, blk_below → YK
open YtclbempnhelmoaaW.PrintWords.Aside0 renaming mk → YL
attribute [local go_sem] max2_int min2_int max_two min_two max_three min_three max_four min_four
def thalwegref07_Has.f (k : Nat) (a0_0 : Int) (a0_1 : Int) (a0_2 : Int) (a0_3 : Int) (a1 : Int) : Option (Bool) := (thalwegref07_One.f a0_0 a0_1 a0_2 a0_3).bind fun t396 => (if t396 = true then ((thalwegref03_Far.f a1 a0_2).bind fun t397 => ((thalwegref03_Far.f a0_2 a1).bind fun t398 => (if t397 ≥ 1 then (if t397 ≤ 32768 then (some true) else (if t398 ≥ 1 then (if t398 ≤ 16 then ((thalwegref07_power.f k (wrap64 (t398 - 1))).bind fun t399 => (if t399 = 0 then (none) else (some ((Int.tmod (wrap64 (Int.tdiv a0_3 t399)) 2) == 1)))) else (some false)) else (some false))) else (if t398 ≥ 1 then (if t398 ≤ 16 then ((thalwegref07_power.f k (wrap64 (t398 - 1))).bind fun t400 => (if t400 = 0 then (none) else (some ((Int.tmod (wrap64 (Int.tdiv a0_3 t400)) 2) == 1)))) else (some false)) else (some false))))) else (some false))
theorem thalwegref07_Has.mono : ∀ a0 a1 a2 a3 a4 k, LeO (thalwegref07_Has.f k a0 a1 a2 a3 a4) (thalwegref07_Has.f (k + 1) a0 a1 a2 a3 a4) := by
 intro a0 a1 a2 a3 a4 k
 unfold thalwegref07_Has.f
 repeat' first
   | (with_reducible exact thalwegref07_power.mono _ _)
   | (with_reducible exact LeO.refl _)
   | (with_reducible exact LeO.none _)
   | (with_reducible refine LeO.ite ?_ ?_)
   | (with_reducible refine LeO.bind ?_ (fun _ => ?_))
   | exact thalwegref07_power.mono _ _
   | exact LeO.none _
   | refine LeO.ite ?_ ?_
   | refine LeO.bind ?_ (fun _ => ?_)
theorem thalwegref07_Has.calls (k : Nat) (a0_0 : Int) (a0_1 : Int) (a0_2 : Int) (a0_3 : Int) (a1 : Int) (r : Bool) (w : World) (h : thalwegref07_Has.f k a0_0 a0_1 a0_2 a0_3 a1 = some r) :
  Calls Try.prog 46 #[.agg #[.int .i64 a0_0, .int .i64 a0_1, .int .i64 a0_2, .int .i64 a0_3], .int .i64 a1] w fun e w' => e = .returned (.bool r) ∧ Below w.heap.size w w' := by
 have hu36 := Try.underlying36
 have HB := YL (Below.refl w.heap.size w)
 have H : ((thalwegref07_One.f a0_0 a0_1 a0_2 a0_3).bind fun t396 => (if t396 = true then ((thalwegref03_Far.f a1 a0_2).bind fun t397 => ((thalwegref03_Far.f a0_2 a1).bind fun t398 => (if t397 ≥ 1 then (if t397 ≤ 32768 then (some true) else (if t398 ≥ 1 then (if t398 ≤ 16 then ((thalwegref07_power.f k (wrap64 (t398 - 1))).bind fun t399 => (if t399 = 0 then (none) else (some ((Int.tmod (wrap64 (Int.tdiv a0_3 t399)) 2) == 1)))) else (some false)) else (some false))) else (if t398 ≥ 1 then (if t398 ≤ 16 then ((thalwegref07_power.f k (wrap64 (t398 - 1))).bind fun t400 => (if t400 = 0 then (none) else (some ((Int.tmod (wrap64 (Int.tdiv a0_3 t400)) 2) == 1)))) else (some false)) else (some false))))) else (some false))) = some r := h
 clear h; replace H := Option.bind_eq_some_iff.mp H; obtain ⟨t396, A30, H⟩ := H
 replace H : (if t396 = true then ((thalwegref03_Far.f a1 a0_2).bind fun t397 => ((thalwegref03_Far.f a0_2 a1).bind fun t398 => (if t397 ≥ 1 then (if t397 ≤ 32768 then (some true) else (if t398 ≥ 1 then (if t398 ≤ 16 then ((thalwegref07_power.f k (wrap64 (t398 - 1))).bind fun t399 => (if t399 = 0 then (none) else (some ((Int.tmod (wrap64 (Int.tdiv a0_3 t399)) 2) == 1)))) else (some false)) else (some false))) else (if t398 ≥ 1 then (if t398 ≤ 16 then ((thalwegref07_power.f k (wrap64 (t398 - 1))).bind fun t400 => (if t400 = 0 then (none) else (some ((Int.tmod (wrap64 (Int.tdiv a0_3 t400)) 2) == 1)))) else (some false)) else (some false))))) else (some false)) = some r := H
 have A3 := YL A30; clear A30
 by_cases c4 : t396 = true
 ·subst c4
  have H1 : ((thalwegref03_Far.f a1 a0_2).bind fun t397 => ((thalwegref03_Far.f a0_2 a1).bind fun t398 => (if t397 ≥ 1 then (if t397 ≤ 32768 then (some true) else (if t398 ≥ 1 then (if t398 ≤ 16 then ((thalwegref07_power.f k (wrap64 (t398 - 1))).bind fun t399 => (if t399 = 0 then (none) else (some ((Int.tmod (wrap64 (Int.tdiv a0_3 t399)) 2) == 1)))) else (some false)) else (some false))) else (if t398 ≥ 1 then (if t398 ≤ 16 then ((thalwegref07_power.f k (wrap64 (t398 - 1))).bind fun t400 => (if t400 = 0 then (none) else (some ((Int.tmod (wrap64 (Int.tdiv a0_3 t400)) 2) == 1)))) else (some false)) else (some false))))) = some r := by rw [if_pos rfl] at H; exact H
  clear H
  have H := H1
  clear H1; replace H := Option.bind_eq_some_iff.mp H; obtain ⟨t397, A50, H⟩ := H
  replace H : ((thalwegref03_Far.f a0_2 a1).bind fun t398 => (if t397 ≥ 1 then (if t397 ≤ 32768 then (some true) else (if t398 ≥ 1 then (if t398 ≤ 16 then ((thalwegref07_power.f k (wrap64 (t398 - 1))).bind fun t399 => (if t399 = 0 then (none) else (some ((Int.tmod (wrap64 (Int.tdiv a0_3 t399)) 2) == 1)))) else (some false)) else (some false))) else (if t398 ≥ 1 then (if t398 ≤ 16 then ((thalwegref07_power.f k (wrap64 (t398 - 1))).bind fun t400 => (if t400 = 0 then (none) else (some ((Int.tmod (wrap64 (Int.tdiv a0_3 t400)) 2) == 1)))) else (some false)) else (some false)))) = some r := H
  have A5 := YL A50; clear A50; replace H := Option.bind_eq_some_iff.mp H; obtain ⟨t398, A60, H⟩ := H
  replace H : (if t397 ≥ 1 then (if t397 ≤ 32768 then (some true) else (if t398 ≥ 1 then (if t398 ≤ 16 then ((thalwegref07_power.f k (wrap64 (t398 - 1))).bind fun t399 => (if t399 = 0 then (none) else (some ((Int.tmod (wrap64 (Int.tdiv a0_3 t399)) 2) == 1)))) else (some false)) else (some false))) else (if t398 ≥ 1 then (if t398 ≤ 16 then ((thalwegref07_power.f k (wrap64 (t398 - 1))).bind fun t400 => (if t400 = 0 then (none) else (some ((Int.tmod (wrap64 (Int.tdiv a0_3 t400)) 2) == 1)))) else (some false)) else (some false))) = some r := H
  have A6 := YL A60; clear A60
  by_cases c7 : t397 ≥ 1
  ·rw [if_pos c7] at H
   have c7b0 : decide (1 ≤ t397) = true := decide_eq_true c7; clear c7
   by_cases c8 : t397 ≤ 32768
   ·rw [if_pos c8] at H
    have c8b0 : decide (t397 ≤ 32768) = true := decide_eq_true c8; clear c8
    obtain rfl := Option.some.inj H
    go_enter Try.func46, Try.ntmps46
    go_wp2_with (first | ((with_reducible refine gate_dst (N := 2) rfl ?_); refine box_event ?hg (N := 2) ?hd (cs := #[.int .i64 a0_0, .int .i64 a0_1, .int .i64 a0_2, .int .i64 a0_3]) (t := 36) ?hr ?_; (case hd => rfl); (case hg => rfl); (case hr => first | (go_simp; done) | (go_simp; rfl)); intro gb395 hg w9 hbox hb; have n0_ := YL (YD (upB HB) hb); have n1_ := YL (hbox); have n2_ := YL ((by rw [hg]; exact (YE (upB HB)) : w.heap.size ≤ gb395)); have n3_ := YL ((by rw [hg]; exact (YE (upB HB)) : w.heap.size ≤ gb395)); clear HB; have HB := n0_; have BK395 := n1_; have GW395 := n2_; have GE395 := n3_; clear n0_ n1_ n2_ n3_; clear hb hbox hg; obtain ⟨q10_0, q10_1, q10_2, q10_3⟩ := cA4 BK395.out; obtain ⟨f10_0, f10_1, f10_2, f10_3⟩ := fA4 BK395.out) | (go_at_call 45; (with_reducible refine (thalwegref07_One.calls a0_0 a0_1 a0_2 a0_3 true _ A3.out).mono ?_); rintro e w11 ⟨rfl, hb⟩; have n0_ := YL (YK (g := gb395) (o := .cells #[.int .i64 a0_0, .int .i64 a0_1, .int .i64 a0_2, .int .i64 a0_3] 36 (0, 0)) (upK BK395) hb); have n1_ := YL (YD (upB HB) hb); clear BK395; clear HB; have BK395 := n0_; have HB := n1_; clear n0_ n1_; (try clear hb); (try clear hb2); (try clear hk); (try clear hi); obtain ⟨q12_0, q12_1, q12_2, q12_3⟩ := cA4 BK395.out; obtain ⟨f12_0, f12_1, f12_2, f12_3⟩ := fA4 BK395.out) | (go_at_call 42; (with_reducible refine (thalwegref03_Far.calls a1 a0_2 t397 _ A5.out).mono ?_); rintro e w' ⟨rfl, ⟨nd, rfl⟩⟩; (try first | exact ⟨rfl, _, World.drewN_drewN _ _ _⟩ | exact ⟨rfl, _, Eq.trans (World.drewN_drewN _ _ _) (congrArg (World.drewN _) (Nat.add_assoc _ _ _))⟩)) | (go_at_call 42; (with_reducible refine (thalwegref03_Far.calls a0_2 a1 t398 _ A6.out).mono ?_); rintro e w' ⟨rfl, ⟨nd, rfl⟩⟩; (try first | exact ⟨rfl, _, World.drewN_drewN _ _ _⟩ | exact ⟨rfl, _, Eq.trans (World.drewN_drewN _ _ _) (congrArg (World.drewN _) (Nat.add_assoc _ _ _))⟩)))
    repeat (go_quiet (first | ((with_reducible refine gate_dst (N := 2) rfl ?_); refine box_event ?hg (N := 2) ?hd (cs := #[.int .i64 a0_0, .int .i64 a0_1, .int .i64 a0_2, .int .i64 a0_3]) (t := 36) ?hr ?_; (case hd => rfl); (case hg => rfl); (case hr => first | (go_simp; done) | (go_simp; rfl)); intro gb395 hg w9 hbox hb; have n0_ := YL (YD (upB HB) hb); have n1_ := YL (hbox); have n2_ := YL ((by rw [hg]; exact (YE (upB HB)) : w.heap.size ≤ gb395)); have n3_ := YL ((by rw [hg]; exact (YE (upB HB)) : w.heap.size ≤ gb395)); clear HB; have HB := n0_; have BK395 := n1_; have GW395 := n2_; have GE395 := n3_; clear n0_ n1_ n2_ n3_; clear hb hbox hg; obtain ⟨q10_0, q10_1, q10_2, q10_3⟩ := cA4 BK395.out; obtain ⟨f10_0, f10_1, f10_2, f10_3⟩ := fA4 BK395.out) | (go_at_call 45; (with_reducible refine (thalwegref07_One.calls a0_0 a0_1 a0_2 a0_3 true _ A3.out).mono ?_); rintro e w11 ⟨rfl, hb⟩; have n0_ := YL (YK (g := gb395) (o := .cells #[.int .i64 a0_0, .int .i64 a0_1, .int .i64 a0_2, .int .i64 a0_3] 36 (0, 0)) (upK BK395) hb); have n1_ := YL (YD (upB HB) hb); clear BK395; clear HB; have BK395 := n0_; have HB := n1_; clear n0_ n1_; (try clear hb); (try clear hb2); (try clear hk); (try clear hi); obtain ⟨q12_0, q12_1, q12_2, q12_3⟩ := cA4 BK395.out; obtain ⟨f12_0, f12_1, f12_2, f12_3⟩ := fA4 BK395.out) | (go_at_call 42; (with_reducible refine (thalwegref03_Far.calls a1 a0_2 t397 _ A5.out).mono ?_); rintro e w' ⟨rfl, ⟨nd, rfl⟩⟩; (try first | exact ⟨rfl, _, World.drewN_drewN _ _ _⟩ | exact ⟨rfl, _, Eq.trans (World.drewN_drewN _ _ _) (congrArg (World.drewN _) (Nat.add_assoc _ _ _))⟩)) | (go_at_call 42; (with_reducible refine (thalwegref03_Far.calls a0_2 a1 t398 _ A6.out).mono ?_); rintro e w' ⟨rfl, ⟨nd, rfl⟩⟩; (try first | exact ⟨rfl, _, World.drewN_drewN _ _ _⟩ | exact ⟨rfl, _, Eq.trans (World.drewN_drewN _ _ _) (congrArg (World.drewN _) (Nat.add_assoc _ _ _))⟩))); try go_wp2_with (first | ((with_reducible refine gate_dst (N := 2) rfl ?_); refine box_event ?hg (N := 2) ?hd (cs := #[.int .i64 a0_0, .int .i64 a0_1, .int .i64 a0_2, .int .i64 a0_3]) (t := 36) ?hr ?_; (case hd => rfl); (case hg => rfl); (case hr => first | (go_simp; done) | (go_simp; rfl)); intro gb395 hg w9 hbox hb; have n0_ := YL (YD (upB HB) hb); have n1_ := YL (hbox); have n2_ := YL ((by rw [hg]; exact (YE (upB HB)) : w.heap.size ≤ gb395)); have n3_ := YL ((by rw [hg]; exact (YE (upB HB)) : w.heap.size ≤ gb395)); clear HB; have HB := n0_; have BK395 := n1_; have GW395 := n2_; have GE395 := n3_; clear n0_ n1_ n2_ n3_; clear hb hbox hg; obtain ⟨q10_0, q10_1, q10_2, q10_3⟩ := cA4 BK395.out; obtain ⟨f10_0, f10_1, f10_2, f10_3⟩ := fA4 BK395.out) | (go_at_call 45; (with_reducible refine (thalwegref07_One.calls a0_0 a0_1 a0_2 a0_3 true _ A3.out).mono ?_); rintro e w11 ⟨rfl, hb⟩; have n0_ := YL (YK (g := gb395) (o := .cells #[.int .i64 a0_0, .int .i64 a0_1, .int .i64 a0_2, .int .i64 a0_3] 36 (0, 0)) (upK BK395) hb); have n1_ := YL (YD (upB HB) hb); clear BK395; clear HB; have BK395 := n0_; have HB := n1_; clear n0_ n1_; (try clear hb); (try clear hb2); (try clear hk); (try clear hi); obtain ⟨q12_0, q12_1, q12_2, q12_3⟩ := cA4 BK395.out; obtain ⟨f12_0, f12_1, f12_2, f12_3⟩ := fA4 BK395.out) | (go_at_call 42; (with_reducible refine (thalwegref03_Far.calls a1 a0_2 t397 _ A5.out).mono ?_); rintro e w' ⟨rfl, ⟨nd, rfl⟩⟩; (try first | exact ⟨rfl, _, World.drewN_drewN _ _ _⟩ | exact ⟨rfl, _, Eq.trans (World.drewN_drewN _ _ _) (congrArg (World.drewN _) (Nat.add_assoc _ _ _))⟩)) | (go_at_call 42; (with_reducible refine (thalwegref03_Far.calls a0_2 a1 t398 _ A6.out).mono ?_); rintro e w' ⟨rfl, ⟨nd, rfl⟩⟩; (try first | exact ⟨rfl, _, World.drewN_drewN _ _ _⟩ | exact ⟨rfl, _, Eq.trans (World.drewN_drewN _ _ _) (congrArg (World.drewN _) (Nat.add_assoc _ _ _))⟩))))
    go_ret
    exact ⟨by first | rfl | (simp [errW_none, errW_some] <;> rfl) | (simp [*, errW_none, errW_some] <;> rfl), by repeat (first | (with_reducible first | exact HB.out | apply YA | apply YB | apply YC | refine below_set ?_ GE395.out) | exact HB.out)⟩
   rw [if_neg c8] at H; have c8b0 : decide (t397 ≤ 32768) = false := decide_eq_false c8; clear c8
   by_cases c13 : t398 ≥ 1
   ·rw [if_pos c13] at H
    have c13b0 : decide (1 ≤ t398) = true := decide_eq_true c13; clear c13
    by_cases c14 : t398 ≤ 16
    ·rw [if_pos c14] at H
     have c14b0 : decide (t398 ≤ 16) = true := decide_eq_true c14; clear c14; replace H := Option.bind_eq_some_iff.mp H; obtain ⟨t399, A150, H⟩ := H
     replace H : (if t399 = 0 then (none) else (some ((Int.tmod (wrap64 (Int.tdiv a0_3 t399)) 2) == 1))) = some r := H
     have A15 := YL A150; clear A150
     by_cases c16 : t399 = 0
     ·rw [if_pos c16] at H
      exact absurd H (by simp)
     rw [if_neg c16] at H
     have c16b0 : (t399 == 0) = false := beq_eq_false_iff_ne.mpr c16
     have c16b1 : (t399 != 0) = true := bne_iff_ne.mpr c16
     obtain rfl := Option.some.inj H
     go_enter Try.func46, Try.ntmps46
     go_wp2_with (first | ((with_reducible refine gate_dst (N := 2) rfl ?_); refine box_event ?hg (N := 2) ?hd (cs := #[.int .i64 a0_0, .int .i64 a0_1, .int .i64 a0_2, .int .i64 a0_3]) (t := 36) ?hr ?_; (case hd => rfl); (case hg => rfl); (case hr => first | (go_simp; done) | (go_simp; rfl)); intro gb395 hg w17 hbox hb; have n0_ := YL (YD (upB HB) hb); have n1_ := YL (hbox); have n2_ := YL ((by rw [hg]; exact (YE (upB HB)) : w.heap.size ≤ gb395)); have n3_ := YL ((by rw [hg]; exact (YE (upB HB)) : w.heap.size ≤ gb395)); clear HB; have HB := n0_; have BK395 := n1_; have GW395 := n2_; have GE395 := n3_; clear n0_ n1_ n2_ n3_; clear hb hbox hg; obtain ⟨q18_0, q18_1, q18_2, q18_3⟩ := cA4 BK395.out; obtain ⟨f18_0, f18_1, f18_2, f18_3⟩ := fA4 BK395.out) | (go_at_call 45; (with_reducible refine (thalwegref07_One.calls a0_0 a0_1 a0_2 a0_3 true _ A3.out).mono ?_); rintro e w19 ⟨rfl, hb⟩; have n0_ := YL (YK (g := gb395) (o := .cells #[.int .i64 a0_0, .int .i64 a0_1, .int .i64 a0_2, .int .i64 a0_3] 36 (0, 0)) (upK BK395) hb); have n1_ := YL (YD (upB HB) hb); clear BK395; clear HB; have BK395 := n0_; have HB := n1_; clear n0_ n1_; (try clear hb); (try clear hb2); (try clear hk); (try clear hi); obtain ⟨q20_0, q20_1, q20_2, q20_3⟩ := cA4 BK395.out; obtain ⟨f20_0, f20_1, f20_2, f20_3⟩ := fA4 BK395.out) | (go_at_call 42; (with_reducible refine (thalwegref03_Far.calls a1 a0_2 t397 _ A5.out).mono ?_); rintro e w' ⟨rfl, ⟨nd, rfl⟩⟩; (try first | exact ⟨rfl, _, World.drewN_drewN _ _ _⟩ | exact ⟨rfl, _, Eq.trans (World.drewN_drewN _ _ _) (congrArg (World.drewN _) (Nat.add_assoc _ _ _))⟩)) | (go_at_call 42; (with_reducible refine (thalwegref03_Far.calls a0_2 a1 t398 _ A6.out).mono ?_); rintro e w' ⟨rfl, ⟨nd, rfl⟩⟩; (try first | exact ⟨rfl, _, World.drewN_drewN _ _ _⟩ | exact ⟨rfl, _, Eq.trans (World.drewN_drewN _ _ _) (congrArg (World.drewN _) (Nat.add_assoc _ _ _))⟩)) | (go_at_call 64; (with_reducible refine (thalwegref07_power.calls k (wrap64 (t398 - 1)) t399 _ A15.out).mono ?_); rintro e w' ⟨rfl, ⟨nd, rfl⟩⟩; (try first | exact ⟨rfl, _, World.drewN_drewN _ _ _⟩ | exact ⟨rfl, _, Eq.trans (World.drewN_drewN _ _ _) (congrArg (World.drewN _) (Nat.add_assoc _ _ _))⟩)))
     repeat (go_quiet (first | ((with_reducible refine gate_dst (N := 2) rfl ?_); refine box_event ?hg (N := 2) ?hd (cs := #[.int .i64 a0_0, .int .i64 a0_1, .int .i64 a0_2, .int .i64 a0_3]) (t := 36) ?hr ?_; (case hd => rfl); (case hg => rfl); (case hr => first | (go_simp; done) | (go_simp; rfl)); intro gb395 hg w17 hbox hb; have n0_ := YL (YD (upB HB) hb); have n1_ := YL (hbox); have n2_ := YL ((by rw [hg]; exact (YE (upB HB)) : w.heap.size ≤ gb395)); have n3_ := YL ((by rw [hg]; exact (YE (upB HB)) : w.heap.size ≤ gb395)); clear HB; have HB := n0_; have BK395 := n1_; have GW395 := n2_; have GE395 := n3_; clear n0_ n1_ n2_ n3_; clear hb hbox hg; obtain ⟨q18_0, q18_1, q18_2, q18_3⟩ := cA4 BK395.out; obtain ⟨f18_0, f18_1, f18_2, f18_3⟩ := fA4 BK395.out) | (go_at_call 45; (with_reducible refine (thalwegref07_One.calls a0_0 a0_1 a0_2 a0_3 true _ A3.out).mono ?_); rintro e w19 ⟨rfl, hb⟩; have n0_ := YL (YK (g := gb395) (o := .cells #[.int .i64 a0_0, .int .i64 a0_1, .int .i64 a0_2, .int .i64 a0_3] 36 (0, 0)) (upK BK395) hb); have n1_ := YL (YD (upB HB) hb); clear BK395; clear HB; have BK395 := n0_; have HB := n1_; clear n0_ n1_; (try clear hb); (try clear hb2); (try clear hk); (try clear hi); obtain ⟨q20_0, q20_1, q20_2, q20_3⟩ := cA4 BK395.out; obtain ⟨f20_0, f20_1, f20_2, f20_3⟩ := fA4 BK395.out) | (go_at_call 42; (with_reducible refine (thalwegref03_Far.calls a1 a0_2 t397 _ A5.out).mono ?_); rintro e w' ⟨rfl, ⟨nd, rfl⟩⟩; (try first | exact ⟨rfl, _, World.drewN_drewN _ _ _⟩ | exact ⟨rfl, _, Eq.trans (World.drewN_drewN _ _ _) (congrArg (World.drewN _) (Nat.add_assoc _ _ _))⟩)) | (go_at_call 42; (with_reducible refine (thalwegref03_Far.calls a0_2 a1 t398 _ A6.out).mono ?_); rintro e w' ⟨rfl, ⟨nd, rfl⟩⟩; (try first | exact ⟨rfl, _, World.drewN_drewN _ _ _⟩ | exact ⟨rfl, _, Eq.trans (World.drewN_drewN _ _ _) (congrArg (World.drewN _) (Nat.add_assoc _ _ _))⟩)) | (go_at_call 64; (with_reducible refine (thalwegref07_power.calls k (wrap64 (t398 - 1)) t399 _ A15.out).mono ?_); rintro e w' ⟨rfl, ⟨nd, rfl⟩⟩; (try first | exact ⟨rfl, _, World.drewN_drewN _ _ _⟩ | exact ⟨rfl, _, Eq.trans (World.drewN_drewN _ _ _) (congrArg (World.drewN _) (Nat.add_assoc _ _ _))⟩))); try go_wp2_with (first | ((with_reducible refine gate_dst (N := 2) rfl ?_); refine box_event ?hg (N := 2) ?hd (cs := #[.int .i64 a0_0, .int .i64 a0_1, .int .i64 a0_2, .int .i64 a0_3]) (t := 36) ?hr ?_; (case hd => rfl); (case hg => rfl); (case hr => first | (go_simp; done) | (go_simp; rfl)); intro gb395 hg w17 hbox hb; have n0_ := YL (YD (upB HB) hb); have n1_ := YL (hbox); have n2_ := YL ((by rw [hg]; exact (YE (upB HB)) : w.heap.size ≤ gb395)); have n3_ := YL ((by rw [hg]; exact (YE (upB HB)) : w.heap.size ≤ gb395)); clear HB; have HB := n0_; have BK395 := n1_; have GW395 := n2_; have GE395 := n3_; clear n0_ n1_ n2_ n3_; clear hb hbox hg; obtain ⟨q18_0, q18_1, q18_2, q18_3⟩ := cA4 BK395.out; obtain ⟨f18_0, f18_1, f18_2, f18_3⟩ := fA4 BK395.out) | (go_at_call 45; (with_reducible refine (thalwegref07_One.calls a0_0 a0_1 a0_2 a0_3 true _ A3.out).mono ?_); rintro e w19 ⟨rfl, hb⟩; have n0_ := YL (YK (g := gb395) (o := .cells #[.int .i64 a0_0, .int .i64 a0_1, .int .i64 a0_2, .int .i64 a0_3] 36 (0, 0)) (upK BK395) hb); have n1_ := YL (YD (upB HB) hb); clear BK395; clear HB; have BK395 := n0_; have HB := n1_; clear n0_ n1_; (try clear hb); (try clear hb2); (try clear hk); (try clear hi); obtain ⟨q20_0, q20_1, q20_2, q20_3⟩ := cA4 BK395.out; obtain ⟨f20_0, f20_1, f20_2, f20_3⟩ := fA4 BK395.out) | (go_at_call 42; (with_reducible refine (thalwegref03_Far.calls a1 a0_2 t397 _ A5.out).mono ?_); rintro e w' ⟨rfl, ⟨nd, rfl⟩⟩; (try first | exact ⟨rfl, _, World.drewN_drewN _ _ _⟩ | exact ⟨rfl, _, Eq.trans (World.drewN_drewN _ _ _) (congrArg (World.drewN _) (Nat.add_assoc _ _ _))⟩)) | (go_at_call 42; (with_reducible refine (thalwegref03_Far.calls a0_2 a1 t398 _ A6.out).mono ?_); rintro e w' ⟨rfl, ⟨nd, rfl⟩⟩; (try first | exact ⟨rfl, _, World.drewN_drewN _ _ _⟩ | exact ⟨rfl, _, Eq.trans (World.drewN_drewN _ _ _) (congrArg (World.drewN _) (Nat.add_assoc _ _ _))⟩)) | (go_at_call 64; (with_reducible refine (thalwegref07_power.calls k (wrap64 (t398 - 1)) t399 _ A15.out).mono ?_); rintro e w' ⟨rfl, ⟨nd, rfl⟩⟩; (try first | exact ⟨rfl, _, World.drewN_drewN _ _ _⟩ | exact ⟨rfl, _, Eq.trans (World.drewN_drewN _ _ _) (congrArg (World.drewN _) (Nat.add_assoc _ _ _))⟩))))
     go_ret
     exact ⟨by first | rfl | (simp [errW_none, errW_some] <;> rfl) | (simp [*, errW_none, errW_some] <;> rfl), by repeat (first | (with_reducible first | exact HB.out | apply YA | apply YB | apply YC | refine below_set ?_ GE395.out) | exact HB.out)⟩
    rw [if_neg c14] at H; have c14b0 : decide (t398 ≤ 16) = false := decide_eq_false c14; clear c14
    obtain rfl := Option.some.inj H
    go_enter Try.func46, Try.ntmps46
    go_wp2_with (first | ((with_reducible refine gate_dst (N := 2) rfl ?_); refine box_event ?hg (N := 2) ?hd (cs := #[.int .i64 a0_0, .int .i64 a0_1, .int .i64 a0_2, .int .i64 a0_3]) (t := 36) ?hr ?_; (case hd => rfl); (case hg => rfl); (case hr => first | (go_simp; done) | (go_simp; rfl)); intro gb395 hg w21 hbox hb; have n0_ := YL (YD (upB HB) hb); have n1_ := YL (hbox); have n2_ := YL ((by rw [hg]; exact (YE (upB HB)) : w.heap.size ≤ gb395)); have n3_ := YL ((by rw [hg]; exact (YE (upB HB)) : w.heap.size ≤ gb395)); clear HB; have HB := n0_; have BK395 := n1_; have GW395 := n2_; have GE395 := n3_; clear n0_ n1_ n2_ n3_; clear hb hbox hg; obtain ⟨q22_0, q22_1, q22_2, q22_3⟩ := cA4 BK395.out; obtain ⟨f22_0, f22_1, f22_2, f22_3⟩ := fA4 BK395.out) | (go_at_call 45; (with_reducible refine (thalwegref07_One.calls a0_0 a0_1 a0_2 a0_3 true _ A3.out).mono ?_); rintro e w23 ⟨rfl, hb⟩; have n0_ := YL (YK (g := gb395) (o := .cells #[.int .i64 a0_0, .int .i64 a0_1, .int .i64 a0_2, .int .i64 a0_3] 36 (0, 0)) (upK BK395) hb); have n1_ := YL (YD (upB HB) hb); clear BK395; clear HB; have BK395 := n0_; have HB := n1_; clear n0_ n1_; (try clear hb); (try clear hb2); (try clear hk); (try clear hi); obtain ⟨q24_0, q24_1, q24_2, q24_3⟩ := cA4 BK395.out; obtain ⟨f24_0, f24_1, f24_2, f24_3⟩ := fA4 BK395.out) | (go_at_call 42; (with_reducible refine (thalwegref03_Far.calls a1 a0_2 t397 _ A5.out).mono ?_); rintro e w' ⟨rfl, ⟨nd, rfl⟩⟩; (try first | exact ⟨rfl, _, World.drewN_drewN _ _ _⟩ | exact ⟨rfl, _, Eq.trans (World.drewN_drewN _ _ _) (congrArg (World.drewN _) (Nat.add_assoc _ _ _))⟩)) | (go_at_call 42; (with_reducible refine (thalwegref03_Far.calls a0_2 a1 t398 _ A6.out).mono ?_); rintro e w' ⟨rfl, ⟨nd, rfl⟩⟩; (try first | exact ⟨rfl, _, World.drewN_drewN _ _ _⟩ | exact ⟨rfl, _, Eq.trans (World.drewN_drewN _ _ _) (congrArg (World.drewN _) (Nat.add_assoc _ _ _))⟩)))
    repeat (go_quiet (first | ((with_reducible refine gate_dst (N := 2) rfl ?_); refine box_event ?hg (N := 2) ?hd (cs := #[.int .i64 a0_0, .int .i64 a0_1, .int .i64 a0_2, .int .i64 a0_3]) (t := 36) ?hr ?_; (case hd => rfl); (case hg => rfl); (case hr => first | (go_simp; done) | (go_simp; rfl)); intro gb395 hg w21 hbox hb; have n0_ := YL (YD (upB HB) hb); have n1_ := YL (hbox); have n2_ := YL ((by rw [hg]; exact (YE (upB HB)) : w.heap.size ≤ gb395)); have n3_ := YL ((by rw [hg]; exact (YE (upB HB)) : w.heap.size ≤ gb395)); clear HB; have HB := n0_; have BK395 := n1_; have GW395 := n2_; have GE395 := n3_; clear n0_ n1_ n2_ n3_; clear hb hbox hg; obtain ⟨q22_0, q22_1, q22_2, q22_3⟩ := cA4 BK395.out; obtain ⟨f22_0, f22_1, f22_2, f22_3⟩ := fA4 BK395.out) | (go_at_call 45; (with_reducible refine (thalwegref07_One.calls a0_0 a0_1 a0_2 a0_3 true _ A3.out).mono ?_); rintro e w23 ⟨rfl, hb⟩; have n0_ := YL (YK (g := gb395) (o := .cells #[.int .i64 a0_0, .int .i64 a0_1, .int .i64 a0_2, .int .i64 a0_3] 36 (0, 0)) (upK BK395) hb); have n1_ := YL (YD (upB HB) hb); clear BK395; clear HB; have BK395 := n0_; have HB := n1_; clear n0_ n1_; (try clear hb); (try clear hb2); (try clear hk); (try clear hi); obtain ⟨q24_0, q24_1, q24_2, q24_3⟩ := cA4 BK395.out; obtain ⟨f24_0, f24_1, f24_2, f24_3⟩ := fA4 BK395.out) | (go_at_call 42; (with_reducible refine (thalwegref03_Far.calls a1 a0_2 t397 _ A5.out).mono ?_); rintro e w' ⟨rfl, ⟨nd, rfl⟩⟩; (try first | exact ⟨rfl, _, World.drewN_drewN _ _ _⟩ | exact ⟨rfl, _, Eq.trans (World.drewN_drewN _ _ _) (congrArg (World.drewN _) (Nat.add_assoc _ _ _))⟩)) | (go_at_call 42; (with_reducible refine (thalwegref03_Far.calls a0_2 a1 t398 _ A6.out).mono ?_); rintro e w' ⟨rfl, ⟨nd, rfl⟩⟩; (try first | exact ⟨rfl, _, World.drewN_drewN _ _ _⟩ | exact ⟨rfl, _, Eq.trans (World.drewN_drewN _ _ _) (congrArg (World.drewN _) (Nat.add_assoc _ _ _))⟩))); try go_wp2_with (first | ((with_reducible refine gate_dst (N := 2) rfl ?_); refine box_event ?hg (N := 2) ?hd (cs := #[.int .i64 a0_0, .int .i64 a0_1, .int .i64 a0_2, .int .i64 a0_3]) (t := 36) ?hr ?_; (case hd => rfl); (case hg => rfl); (case hr => first | (go_simp; done) | (go_simp; rfl)); intro gb395 hg w21 hbox hb; have n0_ := YL (YD (upB HB) hb); have n1_ := YL (hbox); have n2_ := YL ((by rw [hg]; exact (YE (upB HB)) : w.heap.size ≤ gb395)); have n3_ := YL ((by rw [hg]; exact (YE (upB HB)) : w.heap.size ≤ gb395)); clear HB; have HB := n0_; have BK395 := n1_; have GW395 := n2_; have GE395 := n3_; clear n0_ n1_ n2_ n3_; clear hb hbox hg; obtain ⟨q22_0, q22_1, q22_2, q22_3⟩ := cA4 BK395.out; obtain ⟨f22_0, f22_1, f22_2, f22_3⟩ := fA4 BK395.out) | (go_at_call 45; (with_reducible refine (thalwegref07_One.calls a0_0 a0_1 a0_2 a0_3 true _ A3.out).mono ?_); rintro e w23 ⟨rfl, hb⟩; have n0_ := YL (YK (g := gb395) (o := .cells #[.int .i64 a0_0, .int .i64 a0_1, .int .i64 a0_2, .int .i64 a0_3] 36 (0, 0)) (upK BK395) hb); have n1_ := YL (YD (upB HB) hb); clear BK395; clear HB; have BK395 := n0_; have HB := n1_; clear n0_ n1_; (try clear hb); (try clear hb2); (try clear hk); (try clear hi); obtain ⟨q24_0, q24_1, q24_2, q24_3⟩ := cA4 BK395.out; obtain ⟨f24_0, f24_1, f24_2, f24_3⟩ := fA4 BK395.out) | (go_at_call 42; (with_reducible refine (thalwegref03_Far.calls a1 a0_2 t397 _ A5.out).mono ?_); rintro e w' ⟨rfl, ⟨nd, rfl⟩⟩; (try first | exact ⟨rfl, _, World.drewN_drewN _ _ _⟩ | exact ⟨rfl, _, Eq.trans (World.drewN_drewN _ _ _) (congrArg (World.drewN _) (Nat.add_assoc _ _ _))⟩)) | (go_at_call 42; (with_reducible refine (thalwegref03_Far.calls a0_2 a1 t398 _ A6.out).mono ?_); rintro e w' ⟨rfl, ⟨nd, rfl⟩⟩; (try first | exact ⟨rfl, _, World.drewN_drewN _ _ _⟩ | exact ⟨rfl, _, Eq.trans (World.drewN_drewN _ _ _) (congrArg (World.drewN _) (Nat.add_assoc _ _ _))⟩))))
    go_ret
    exact ⟨by first | rfl | (simp [errW_none, errW_some] <;> rfl) | (simp [*, errW_none, errW_some] <;> rfl), by repeat (first | (with_reducible first | exact HB.out | apply YA | apply YB | apply YC | refine below_set ?_ GE395.out) | exact HB.out)⟩
   rw [if_neg c13] at H; have c13b0 : decide (1 ≤ t398) = false := decide_eq_false c13; clear c13
   obtain rfl := Option.some.inj H
   go_enter Try.func46, Try.ntmps46
   go_wp2_with (first | ((with_reducible refine gate_dst (N := 2) rfl ?_); refine box_event ?hg (N := 2) ?hd (cs := #[.int .i64 a0_0, .int .i64 a0_1, .int .i64 a0_2, .int .i64 a0_3]) (t := 36) ?hr ?_; (case hd => rfl); (case hg => rfl); (case hr => first | (go_simp; done) | (go_simp; rfl)); intro gb395 hg w25 hbox hb; have n0_ := YL (YD (upB HB) hb); have n1_ := YL (hbox); have n2_ := YL ((by rw [hg]; exact (YE (upB HB)) : w.heap.size ≤ gb395)); have n3_ := YL ((by rw [hg]; exact (YE (upB HB)) : w.heap.size ≤ gb395)); clear HB; have HB := n0_; have BK395 := n1_; have GW395 := n2_; have GE395 := n3_; clear n0_ n1_ n2_ n3_; clear hb hbox hg; obtain ⟨q26_0, q26_1, q26_2, q26_3⟩ := cA4 BK395.out; obtain ⟨f26_0, f26_1, f26_2, f26_3⟩ := fA4 BK395.out) | (go_at_call 45; (with_reducible refine (thalwegref07_One.calls a0_0 a0_1 a0_2 a0_3 true _ A3.out).mono ?_); rintro e w27 ⟨rfl, hb⟩; have n0_ := YL (YK (g := gb395) (o := .cells #[.int .i64 a0_0, .int .i64 a0_1, .int .i64 a0_2, .int .i64 a0_3] 36 (0, 0)) (upK BK395) hb); have n1_ := YL (YD (upB HB) hb); clear BK395; clear HB; have BK395 := n0_; have HB := n1_; clear n0_ n1_; (try clear hb); (try clear hb2); (try clear hk); (try clear hi); obtain ⟨q28_0, q28_1, q28_2, q28_3⟩ := cA4 BK395.out; obtain ⟨f28_0, f28_1, f28_2, f28_3⟩ := fA4 BK395.out) | (go_at_call 42; (with_reducible refine (thalwegref03_Far.calls a1 a0_2 t397 _ A5.out).mono ?_); rintro e w' ⟨rfl, ⟨nd, rfl⟩⟩; (try first | exact ⟨rfl, _, World.drewN_drewN _ _ _⟩ | exact ⟨rfl, _, Eq.trans (World.drewN_drewN _ _ _) (congrArg (World.drewN _) (Nat.add_assoc _ _ _))⟩)) | (go_at_call 42; (with_reducible refine (thalwegref03_Far.calls a0_2 a1 t398 _ A6.out).mono ?_); rintro e w' ⟨rfl, ⟨nd, rfl⟩⟩; (try first | exact ⟨rfl, _, World.drewN_drewN _ _ _⟩ | exact ⟨rfl, _, Eq.trans (World.drewN_drewN _ _ _) (congrArg (World.drewN _) (Nat.add_assoc _ _ _))⟩)))
   repeat (go_quiet (first | ((with_reducible refine gate_dst (N := 2) rfl ?_); refine box_event ?hg (N := 2) ?hd (cs := #[.int .i64 a0_0, .int .i64 a0_1, .int .i64 a0_2, .int .i64 a0_3]) (t := 36) ?hr ?_; (case hd => rfl); (case hg => rfl); (case hr => first | (go_simp; done) | (go_simp; rfl)); intro gb395 hg w25 hbox hb; have n0_ := YL (YD (upB HB) hb); have n1_ := YL (hbox); have n2_ := YL ((by rw [hg]; exact (YE (upB HB)) : w.heap.size ≤ gb395)); have n3_ := YL ((by rw [hg]; exact (YE (upB HB)) : w.heap.size ≤ gb395)); clear HB; have HB := n0_; have BK395 := n1_; have GW395 := n2_; have GE395 := n3_; clear n0_ n1_ n2_ n3_; clear hb hbox hg; obtain ⟨q26_0, q26_1, q26_2, q26_3⟩ := cA4 BK395.out; obtain ⟨f26_0, f26_1, f26_2, f26_3⟩ := fA4 BK395.out) | (go_at_call 45; (with_reducible refine (thalwegref07_One.calls a0_0 a0_1 a0_2 a0_3 true _ A3.out).mono ?_); rintro e w27 ⟨rfl, hb⟩; have n0_ := YL (YK (g := gb395) (o := .cells #[.int .i64 a0_0, .int .i64 a0_1, .int .i64 a0_2, .int .i64 a0_3] 36 (0, 0)) (upK BK395) hb); have n1_ := YL (YD (upB HB) hb); clear BK395; clear HB; have BK395 := n0_; have HB := n1_; clear n0_ n1_; (try clear hb); (try clear hb2); (try clear hk); (try clear hi); obtain ⟨q28_0, q28_1, q28_2, q28_3⟩ := cA4 BK395.out; obtain ⟨f28_0, f28_1, f28_2, f28_3⟩ := fA4 BK395.out) | (go_at_call 42; (with_reducible refine (thalwegref03_Far.calls a1 a0_2 t397 _ A5.out).mono ?_); rintro e w' ⟨rfl, ⟨nd, rfl⟩⟩; (try first | exact ⟨rfl, _, World.drewN_drewN _ _ _⟩ | exact ⟨rfl, _, Eq.trans (World.drewN_drewN _ _ _) (congrArg (World.drewN _) (Nat.add_assoc _ _ _))⟩)) | (go_at_call 42; (with_reducible refine (thalwegref03_Far.calls a0_2 a1 t398 _ A6.out).mono ?_); rintro e w' ⟨rfl, ⟨nd, rfl⟩⟩; (try first | exact ⟨rfl, _, World.drewN_drewN _ _ _⟩ | exact ⟨rfl, _, Eq.trans (World.drewN_drewN _ _ _) (congrArg (World.drewN _) (Nat.add_assoc _ _ _))⟩))); try go_wp2_with (first | ((with_reducible refine gate_dst (N := 2) rfl ?_); refine box_event ?hg (N := 2) ?hd (cs := #[.int .i64 a0_0, .int .i64 a0_1, .int .i64 a0_2, .int .i64 a0_3]) (t := 36) ?hr ?_; (case hd => rfl); (case hg => rfl); (case hr => first | (go_simp; done) | (go_simp; rfl)); intro gb395 hg w25 hbox hb; have n0_ := YL (YD (upB HB) hb); have n1_ := YL (hbox); have n2_ := YL ((by rw [hg]; exact (YE (upB HB)) : w.heap.size ≤ gb395)); have n3_ := YL ((by rw [hg]; exact (YE (upB HB)) : w.heap.size ≤ gb395)); clear HB; have HB := n0_; have BK395 := n1_; have GW395 := n2_; have GE395 := n3_; clear n0_ n1_ n2_ n3_; clear hb hbox hg; obtain ⟨q26_0, q26_1, q26_2, q26_3⟩ := cA4 BK395.out; obtain ⟨f26_0, f26_1, f26_2, f26_3⟩ := fA4 BK395.out) | (go_at_call 45; (with_reducible refine (thalwegref07_One.calls a0_0 a0_1 a0_2 a0_3 true _ A3.out).mono ?_); rintro e w27 ⟨rfl, hb⟩; have n0_ := YL (YK (g := gb395) (o := .cells #[.int .i64 a0_0, .int .i64 a0_1, .int .i64 a0_2, .int .i64 a0_3] 36 (0, 0)) (upK BK395) hb); have n1_ := YL (YD (upB HB) hb); clear BK395; clear HB; have BK395 := n0_; have HB := n1_; clear n0_ n1_; (try clear hb); (try clear hb2); (try clear hk); (try clear hi); obtain ⟨q28_0, q28_1, q28_2, q28_3⟩ := cA4 BK395.out; obtain ⟨f28_0, f28_1, f28_2, f28_3⟩ := fA4 BK395.out) | (go_at_call 42; (with_reducible refine (thalwegref03_Far.calls a1 a0_2 t397 _ A5.out).mono ?_); rintro e w' ⟨rfl, ⟨nd, rfl⟩⟩; (try first | exact ⟨rfl, _, World.drewN_drewN _ _ _⟩ | exact ⟨rfl, _, Eq.trans (World.drewN_drewN _ _ _) (congrArg (World.drewN _) (Nat.add_assoc _ _ _))⟩)) | (go_at_call 42; (with_reducible refine (thalwegref03_Far.calls a0_2 a1 t398 _ A6.out).mono ?_); rintro e w' ⟨rfl, ⟨nd, rfl⟩⟩; (try first | exact ⟨rfl, _, World.drewN_drewN _ _ _⟩ | exact ⟨rfl, _, Eq.trans (World.drewN_drewN _ _ _) (congrArg (World.drewN _) (Nat.add_assoc _ _ _))⟩))))
   go_ret
   exact ⟨by first | rfl | (simp [errW_none, errW_some] <;> rfl) | (simp [*, errW_none, errW_some] <;> rfl), by repeat (first | (with_reducible first | exact HB.out | apply YA | apply YB | apply YC | refine below_set ?_ GE395.out) | exact HB.out)⟩
  rw [if_neg c7] at H; have c7b0 : decide (1 ≤ t397) = false := decide_eq_false c7; clear c7
  by_cases c29 : t398 ≥ 1
  ·rw [if_pos c29] at H
   have c29b0 : decide (1 ≤ t398) = true := decide_eq_true c29; clear c29
   by_cases c30 : t398 ≤ 16
   ·rw [if_pos c30] at H
    have c30b0 : decide (t398 ≤ 16) = true := decide_eq_true c30; clear c30; replace H := Option.bind_eq_some_iff.mp H; obtain ⟨t400, A310, H⟩ := H
    replace H : (if t400 = 0 then (none) else (some ((Int.tmod (wrap64 (Int.tdiv a0_3 t400)) 2) == 1))) = some r := H
    have A31 := YL A310; clear A310
    by_cases c32 : t400 = 0
    ·rw [if_pos c32] at H
     exact absurd H (by simp)
    rw [if_neg c32] at H
    have c32b0 : (t400 == 0) = false := beq_eq_false_iff_ne.mpr c32
    have c32b1 : (t400 != 0) = true := bne_iff_ne.mpr c32
    obtain rfl := Option.some.inj H
    go_enter Try.func46, Try.ntmps46
    go_wp2_with (first | ((with_reducible refine gate_dst (N := 2) rfl ?_); refine box_event ?hg (N := 2) ?hd (cs := #[.int .i64 a0_0, .int .i64 a0_1, .int .i64 a0_2, .int .i64 a0_3]) (t := 36) ?hr ?_; (case hd => rfl); (case hg => rfl); (case hr => first | (go_simp; done) | (go_simp; rfl)); intro gb395 hg w33 hbox hb; have n0_ := YL (YD (upB HB) hb); have n1_ := YL (hbox); have n2_ := YL ((by rw [hg]; exact (YE (upB HB)) : w.heap.size ≤ gb395)); have n3_ := YL ((by rw [hg]; exact (YE (upB HB)) : w.heap.size ≤ gb395)); clear HB; have HB := n0_; have BK395 := n1_; have GW395 := n2_; have GE395 := n3_; clear n0_ n1_ n2_ n3_; clear hb hbox hg; obtain ⟨q34_0, q34_1, q34_2, q34_3⟩ := cA4 BK395.out; obtain ⟨f34_0, f34_1, f34_2, f34_3⟩ := fA4 BK395.out) | (go_at_call 45; (with_reducible refine (thalwegref07_One.calls a0_0 a0_1 a0_2 a0_3 true _ A3.out).mono ?_); rintro e w35 ⟨rfl, hb⟩; have n0_ := YL (YK (g := gb395) (o := .cells #[.int .i64 a0_0, .int .i64 a0_1, .int .i64 a0_2, .int .i64 a0_3] 36 (0, 0)) (upK BK395) hb); have n1_ := YL (YD (upB HB) hb); clear BK395; clear HB; have BK395 := n0_; have HB := n1_; clear n0_ n1_; (try clear hb); (try clear hb2); (try clear hk); (try clear hi); obtain ⟨q36_0, q36_1, q36_2, q36_3⟩ := cA4 BK395.out; obtain ⟨f36_0, f36_1, f36_2, f36_3⟩ := fA4 BK395.out) | (go_at_call 42; (with_reducible refine (thalwegref03_Far.calls a1 a0_2 t397 _ A5.out).mono ?_); rintro e w' ⟨rfl, ⟨nd, rfl⟩⟩; (try first | exact ⟨rfl, _, World.drewN_drewN _ _ _⟩ | exact ⟨rfl, _, Eq.trans (World.drewN_drewN _ _ _) (congrArg (World.drewN _) (Nat.add_assoc _ _ _))⟩)) | (go_at_call 42; (with_reducible refine (thalwegref03_Far.calls a0_2 a1 t398 _ A6.out).mono ?_); rintro e w' ⟨rfl, ⟨nd, rfl⟩⟩; (try first | exact ⟨rfl, _, World.drewN_drewN _ _ _⟩ | exact ⟨rfl, _, Eq.trans (World.drewN_drewN _ _ _) (congrArg (World.drewN _) (Nat.add_assoc _ _ _))⟩)) | (go_at_call 64; (with_reducible refine (thalwegref07_power.calls k (wrap64 (t398 - 1)) t400 _ A31.out).mono ?_); rintro e w' ⟨rfl, ⟨nd, rfl⟩⟩; (try first | exact ⟨rfl, _, World.drewN_drewN _ _ _⟩ | exact ⟨rfl, _, Eq.trans (World.drewN_drewN _ _ _) (congrArg (World.drewN _) (Nat.add_assoc _ _ _))⟩)))
    repeat (go_quiet (first | ((with_reducible refine gate_dst (N := 2) rfl ?_); refine box_event ?hg (N := 2) ?hd (cs := #[.int .i64 a0_0, .int .i64 a0_1, .int .i64 a0_2, .int .i64 a0_3]) (t := 36) ?hr ?_; (case hd => rfl); (case hg => rfl); (case hr => first | (go_simp; done) | (go_simp; rfl)); intro gb395 hg w33 hbox hb; have n0_ := YL (YD (upB HB) hb); have n1_ := YL (hbox); have n2_ := YL ((by rw [hg]; exact (YE (upB HB)) : w.heap.size ≤ gb395)); have n3_ := YL ((by rw [hg]; exact (YE (upB HB)) : w.heap.size ≤ gb395)); clear HB; have HB := n0_; have BK395 := n1_; have GW395 := n2_; have GE395 := n3_; clear n0_ n1_ n2_ n3_; clear hb hbox hg; obtain ⟨q34_0, q34_1, q34_2, q34_3⟩ := cA4 BK395.out; obtain ⟨f34_0, f34_1, f34_2, f34_3⟩ := fA4 BK395.out) | (go_at_call 45; (with_reducible refine (thalwegref07_One.calls a0_0 a0_1 a0_2 a0_3 true _ A3.out).mono ?_); rintro e w35 ⟨rfl, hb⟩; have n0_ := YL (YK (g := gb395) (o := .cells #[.int .i64 a0_0, .int .i64 a0_1, .int .i64 a0_2, .int .i64 a0_3] 36 (0, 0)) (upK BK395) hb); have n1_ := YL (YD (upB HB) hb); clear BK395; clear HB; have BK395 := n0_; have HB := n1_; clear n0_ n1_; (try clear hb); (try clear hb2); (try clear hk); (try clear hi); obtain ⟨q36_0, q36_1, q36_2, q36_3⟩ := cA4 BK395.out; obtain ⟨f36_0, f36_1, f36_2, f36_3⟩ := fA4 BK395.out) | (go_at_call 42; (with_reducible refine (thalwegref03_Far.calls a1 a0_2 t397 _ A5.out).mono ?_); rintro e w' ⟨rfl, ⟨nd, rfl⟩⟩; (try first | exact ⟨rfl, _, World.drewN_drewN _ _ _⟩ | exact ⟨rfl, _, Eq.trans (World.drewN_drewN _ _ _) (congrArg (World.drewN _) (Nat.add_assoc _ _ _))⟩)) | (go_at_call 42; (with_reducible refine (thalwegref03_Far.calls a0_2 a1 t398 _ A6.out).mono ?_); rintro e w' ⟨rfl, ⟨nd, rfl⟩⟩; (try first | exact ⟨rfl, _, World.drewN_drewN _ _ _⟩ | exact ⟨rfl, _, Eq.trans (World.drewN_drewN _ _ _) (congrArg (World.drewN _) (Nat.add_assoc _ _ _))⟩)) | (go_at_call 64; (with_reducible refine (thalwegref07_power.calls k (wrap64 (t398 - 1)) t400 _ A31.out).mono ?_); rintro e w' ⟨rfl, ⟨nd, rfl⟩⟩; (try first | exact ⟨rfl, _, World.drewN_drewN _ _ _⟩ | exact ⟨rfl, _, Eq.trans (World.drewN_drewN _ _ _) (congrArg (World.drewN _) (Nat.add_assoc _ _ _))⟩))); try go_wp2_with (first | ((with_reducible refine gate_dst (N := 2) rfl ?_); refine box_event ?hg (N := 2) ?hd (cs := #[.int .i64 a0_0, .int .i64 a0_1, .int .i64 a0_2, .int .i64 a0_3]) (t := 36) ?hr ?_; (case hd => rfl); (case hg => rfl); (case hr => first | (go_simp; done) | (go_simp; rfl)); intro gb395 hg w33 hbox hb; have n0_ := YL (YD (upB HB) hb); have n1_ := YL (hbox); have n2_ := YL ((by rw [hg]; exact (YE (upB HB)) : w.heap.size ≤ gb395)); have n3_ := YL ((by rw [hg]; exact (YE (upB HB)) : w.heap.size ≤ gb395)); clear HB; have HB := n0_; have BK395 := n1_; have GW395 := n2_; have GE395 := n3_; clear n0_ n1_ n2_ n3_; clear hb hbox hg; obtain ⟨q34_0, q34_1, q34_2, q34_3⟩ := cA4 BK395.out; obtain ⟨f34_0, f34_1, f34_2, f34_3⟩ := fA4 BK395.out) | (go_at_call 45; (with_reducible refine (thalwegref07_One.calls a0_0 a0_1 a0_2 a0_3 true _ A3.out).mono ?_); rintro e w35 ⟨rfl, hb⟩; have n0_ := YL (YK (g := gb395) (o := .cells #[.int .i64 a0_0, .int .i64 a0_1, .int .i64 a0_2, .int .i64 a0_3] 36 (0, 0)) (upK BK395) hb); have n1_ := YL (YD (upB HB) hb); clear BK395; clear HB; have BK395 := n0_; have HB := n1_; clear n0_ n1_; (try clear hb); (try clear hb2); (try clear hk); (try clear hi); obtain ⟨q36_0, q36_1, q36_2, q36_3⟩ := cA4 BK395.out; obtain ⟨f36_0, f36_1, f36_2, f36_3⟩ := fA4 BK395.out) | (go_at_call 42; (with_reducible refine (thalwegref03_Far.calls a1 a0_2 t397 _ A5.out).mono ?_); rintro e w' ⟨rfl, ⟨nd, rfl⟩⟩; (try first | exact ⟨rfl, _, World.drewN_drewN _ _ _⟩ | exact ⟨rfl, _, Eq.trans (World.drewN_drewN _ _ _) (congrArg (World.drewN _) (Nat.add_assoc _ _ _))⟩)) | (go_at_call 42; (with_reducible refine (thalwegref03_Far.calls a0_2 a1 t398 _ A6.out).mono ?_); rintro e w' ⟨rfl, ⟨nd, rfl⟩⟩; (try first | exact ⟨rfl, _, World.drewN_drewN _ _ _⟩ | exact ⟨rfl, _, Eq.trans (World.drewN_drewN _ _ _) (congrArg (World.drewN _) (Nat.add_assoc _ _ _))⟩)) | (go_at_call 64; (with_reducible refine (thalwegref07_power.calls k (wrap64 (t398 - 1)) t400 _ A31.out).mono ?_); rintro e w' ⟨rfl, ⟨nd, rfl⟩⟩; (try first | exact ⟨rfl, _, World.drewN_drewN _ _ _⟩ | exact ⟨rfl, _, Eq.trans (World.drewN_drewN _ _ _) (congrArg (World.drewN _) (Nat.add_assoc _ _ _))⟩))))
    go_ret
    exact ⟨by first | rfl | (simp [errW_none, errW_some] <;> rfl) | (simp [*, errW_none, errW_some] <;> rfl), by repeat (first | (with_reducible first | exact HB.out | apply YA | apply YB | apply YC | refine below_set ?_ GE395.out) | exact HB.out)⟩
   rw [if_neg c30] at H; have c30b0 : decide (t398 ≤ 16) = false := decide_eq_false c30; clear c30
   obtain rfl := Option.some.inj H
   go_enter Try.func46, Try.ntmps46
   go_wp2_with (first | ((with_reducible refine gate_dst (N := 2) rfl ?_); refine box_event ?hg (N := 2) ?hd (cs := #[.int .i64 a0_0, .int .i64 a0_1, .int .i64 a0_2, .int .i64 a0_3]) (t := 36) ?hr ?_; (case hd => rfl); (case hg => rfl); (case hr => first | (go_simp; done) | (go_simp; rfl)); intro gb395 hg w37 hbox hb; have n0_ := YL (YD (upB HB) hb); have n1_ := YL (hbox); have n2_ := YL ((by rw [hg]; exact (YE (upB HB)) : w.heap.size ≤ gb395)); have n3_ := YL ((by rw [hg]; exact (YE (upB HB)) : w.heap.size ≤ gb395)); clear HB; have HB := n0_; have BK395 := n1_; have GW395 := n2_; have GE395 := n3_; clear n0_ n1_ n2_ n3_; clear hb hbox hg; obtain ⟨q38_0, q38_1, q38_2, q38_3⟩ := cA4 BK395.out; obtain ⟨f38_0, f38_1, f38_2, f38_3⟩ := fA4 BK395.out) | (go_at_call 45; (with_reducible refine (thalwegref07_One.calls a0_0 a0_1 a0_2 a0_3 true _ A3.out).mono ?_); rintro e w39 ⟨rfl, hb⟩; have n0_ := YL (YK (g := gb395) (o := .cells #[.int .i64 a0_0, .int .i64 a0_1, .int .i64 a0_2, .int .i64 a0_3] 36 (0, 0)) (upK BK395) hb); have n1_ := YL (YD (upB HB) hb); clear BK395; clear HB; have BK395 := n0_; have HB := n1_; clear n0_ n1_; (try clear hb); (try clear hb2); (try clear hk); (try clear hi); obtain ⟨q40_0, q40_1, q40_2, q40_3⟩ := cA4 BK395.out; obtain ⟨f40_0, f40_1, f40_2, f40_3⟩ := fA4 BK395.out) | (go_at_call 42; (with_reducible refine (thalwegref03_Far.calls a1 a0_2 t397 _ A5.out).mono ?_); rintro e w' ⟨rfl, ⟨nd, rfl⟩⟩; (try first | exact ⟨rfl, _, World.drewN_drewN _ _ _⟩ | exact ⟨rfl, _, Eq.trans (World.drewN_drewN _ _ _) (congrArg (World.drewN _) (Nat.add_assoc _ _ _))⟩)) | (go_at_call 42; (with_reducible refine (thalwegref03_Far.calls a0_2 a1 t398 _ A6.out).mono ?_); rintro e w' ⟨rfl, ⟨nd, rfl⟩⟩; (try first | exact ⟨rfl, _, World.drewN_drewN _ _ _⟩ | exact ⟨rfl, _, Eq.trans (World.drewN_drewN _ _ _) (congrArg (World.drewN _) (Nat.add_assoc _ _ _))⟩)))
   repeat (go_quiet (first | ((with_reducible refine gate_dst (N := 2) rfl ?_); refine box_event ?hg (N := 2) ?hd (cs := #[.int .i64 a0_0, .int .i64 a0_1, .int .i64 a0_2, .int .i64 a0_3]) (t := 36) ?hr ?_; (case hd => rfl); (case hg => rfl); (case hr => first | (go_simp; done) | (go_simp; rfl)); intro gb395 hg w37 hbox hb; have n0_ := YL (YD (upB HB) hb); have n1_ := YL (hbox); have n2_ := YL ((by rw [hg]; exact (YE (upB HB)) : w.heap.size ≤ gb395)); have n3_ := YL ((by rw [hg]; exact (YE (upB HB)) : w.heap.size ≤ gb395)); clear HB; have HB := n0_; have BK395 := n1_; have GW395 := n2_; have GE395 := n3_; clear n0_ n1_ n2_ n3_; clear hb hbox hg; obtain ⟨q38_0, q38_1, q38_2, q38_3⟩ := cA4 BK395.out; obtain ⟨f38_0, f38_1, f38_2, f38_3⟩ := fA4 BK395.out) | (go_at_call 45; (with_reducible refine (thalwegref07_One.calls a0_0 a0_1 a0_2 a0_3 true _ A3.out).mono ?_); rintro e w39 ⟨rfl, hb⟩; have n0_ := YL (YK (g := gb395) (o := .cells #[.int .i64 a0_0, .int .i64 a0_1, .int .i64 a0_2, .int .i64 a0_3] 36 (0, 0)) (upK BK395) hb); have n1_ := YL (YD (upB HB) hb); clear BK395; clear HB; have BK395 := n0_; have HB := n1_; clear n0_ n1_; (try clear hb); (try clear hb2); (try clear hk); (try clear hi); obtain ⟨q40_0, q40_1, q40_2, q40_3⟩ := cA4 BK395.out; obtain ⟨f40_0, f40_1, f40_2, f40_3⟩ := fA4 BK395.out) | (go_at_call 42; (with_reducible refine (thalwegref03_Far.calls a1 a0_2 t397 _ A5.out).mono ?_); rintro e w' ⟨rfl, ⟨nd, rfl⟩⟩; (try first | exact ⟨rfl, _, World.drewN_drewN _ _ _⟩ | exact ⟨rfl, _, Eq.trans (World.drewN_drewN _ _ _) (congrArg (World.drewN _) (Nat.add_assoc _ _ _))⟩)) | (go_at_call 42; (with_reducible refine (thalwegref03_Far.calls a0_2 a1 t398 _ A6.out).mono ?_); rintro e w' ⟨rfl, ⟨nd, rfl⟩⟩; (try first | exact ⟨rfl, _, World.drewN_drewN _ _ _⟩ | exact ⟨rfl, _, Eq.trans (World.drewN_drewN _ _ _) (congrArg (World.drewN _) (Nat.add_assoc _ _ _))⟩))); try go_wp2_with (first | ((with_reducible refine gate_dst (N := 2) rfl ?_); refine box_event ?hg (N := 2) ?hd (cs := #[.int .i64 a0_0, .int .i64 a0_1, .int .i64 a0_2, .int .i64 a0_3]) (t := 36) ?hr ?_; (case hd => rfl); (case hg => rfl); (case hr => first | (go_simp; done) | (go_simp; rfl)); intro gb395 hg w37 hbox hb; have n0_ := YL (YD (upB HB) hb); have n1_ := YL (hbox); have n2_ := YL ((by rw [hg]; exact (YE (upB HB)) : w.heap.size ≤ gb395)); have n3_ := YL ((by rw [hg]; exact (YE (upB HB)) : w.heap.size ≤ gb395)); clear HB; have HB := n0_; have BK395 := n1_; have GW395 := n2_; have GE395 := n3_; clear n0_ n1_ n2_ n3_; clear hb hbox hg; obtain ⟨q38_0, q38_1, q38_2, q38_3⟩ := cA4 BK395.out; obtain ⟨f38_0, f38_1, f38_2, f38_3⟩ := fA4 BK395.out) | (go_at_call 45; (with_reducible refine (thalwegref07_One.calls a0_0 a0_1 a0_2 a0_3 true _ A3.out).mono ?_); rintro e w39 ⟨rfl, hb⟩; have n0_ := YL (YK (g := gb395) (o := .cells #[.int .i64 a0_0, .int .i64 a0_1, .int .i64 a0_2, .int .i64 a0_3] 36 (0, 0)) (upK BK395) hb); have n1_ := YL (YD (upB HB) hb); clear BK395; clear HB; have BK395 := n0_; have HB := n1_; clear n0_ n1_; (try clear hb); (try clear hb2); (try clear hk); (try clear hi); obtain ⟨q40_0, q40_1, q40_2, q40_3⟩ := cA4 BK395.out; obtain ⟨f40_0, f40_1, f40_2, f40_3⟩ := fA4 BK395.out) | (go_at_call 42; (with_reducible refine (thalwegref03_Far.calls a1 a0_2 t397 _ A5.out).mono ?_); rintro e w' ⟨rfl, ⟨nd, rfl⟩⟩; (try first | exact ⟨rfl, _, World.drewN_drewN _ _ _⟩ | exact ⟨rfl, _, Eq.trans (World.drewN_drewN _ _ _) (congrArg (World.drewN _) (Nat.add_assoc _ _ _))⟩)) | (go_at_call 42; (with_reducible refine (thalwegref03_Far.calls a0_2 a1 t398 _ A6.out).mono ?_); rintro e w' ⟨rfl, ⟨nd, rfl⟩⟩; (try first | exact ⟨rfl, _, World.drewN_drewN _ _ _⟩ | exact ⟨rfl, _, Eq.trans (World.drewN_drewN _ _ _) (congrArg (World.drewN _) (Nat.add_assoc _ _ _))⟩))))
   go_ret
   exact ⟨by first | rfl | (simp [errW_none, errW_some] <;> rfl) | (simp [*, errW_none, errW_some] <;> rfl), by repeat (first | (with_reducible first | exact HB.out | apply YA | apply YB | apply YC | refine below_set ?_ GE395.out) | exact HB.out)⟩
  rw [if_neg c29] at H; have c29b0 : decide (1 ≤ t398) = false := decide_eq_false c29; clear c29
  obtain rfl := Option.some.inj H
  go_enter Try.func46, Try.ntmps46
  go_wp2_with (first | ((with_reducible refine gate_dst (N := 2) rfl ?_); refine box_event ?hg (N := 2) ?hd (cs := #[.int .i64 a0_0, .int .i64 a0_1, .int .i64 a0_2, .int .i64 a0_3]) (t := 36) ?hr ?_; (case hd => rfl); (case hg => rfl); (case hr => first | (go_simp; done) | (go_simp; rfl)); intro gb395 hg w41 hbox hb; have n0_ := YL (YD (upB HB) hb); have n1_ := YL (hbox); have n2_ := YL ((by rw [hg]; exact (YE (upB HB)) : w.heap.size ≤ gb395)); have n3_ := YL ((by rw [hg]; exact (YE (upB HB)) : w.heap.size ≤ gb395)); clear HB; have HB := n0_; have BK395 := n1_; have GW395 := n2_; have GE395 := n3_; clear n0_ n1_ n2_ n3_; clear hb hbox hg; obtain ⟨q42_0, q42_1, q42_2, q42_3⟩ := cA4 BK395.out; obtain ⟨f42_0, f42_1, f42_2, f42_3⟩ := fA4 BK395.out) | (go_at_call 45; (with_reducible refine (thalwegref07_One.calls a0_0 a0_1 a0_2 a0_3 true _ A3.out).mono ?_); rintro e w43 ⟨rfl, hb⟩; have n0_ := YL (YK (g := gb395) (o := .cells #[.int .i64 a0_0, .int .i64 a0_1, .int .i64 a0_2, .int .i64 a0_3] 36 (0, 0)) (upK BK395) hb); have n1_ := YL (YD (upB HB) hb); clear BK395; clear HB; have BK395 := n0_; have HB := n1_; clear n0_ n1_; (try clear hb); (try clear hb2); (try clear hk); (try clear hi); obtain ⟨q44_0, q44_1, q44_2, q44_3⟩ := cA4 BK395.out; obtain ⟨f44_0, f44_1, f44_2, f44_3⟩ := fA4 BK395.out) | (go_at_call 42; (with_reducible refine (thalwegref03_Far.calls a1 a0_2 t397 _ A5.out).mono ?_); rintro e w' ⟨rfl, ⟨nd, rfl⟩⟩; (try first | exact ⟨rfl, _, World.drewN_drewN _ _ _⟩ | exact ⟨rfl, _, Eq.trans (World.drewN_drewN _ _ _) (congrArg (World.drewN _) (Nat.add_assoc _ _ _))⟩)) | (go_at_call 42; (with_reducible refine (thalwegref03_Far.calls a0_2 a1 t398 _ A6.out).mono ?_); rintro e w' ⟨rfl, ⟨nd, rfl⟩⟩; (try first | exact ⟨rfl, _, World.drewN_drewN _ _ _⟩ | exact ⟨rfl, _, Eq.trans (World.drewN_drewN _ _ _) (congrArg (World.drewN _) (Nat.add_assoc _ _ _))⟩)))
  repeat (go_quiet (first | ((with_reducible refine gate_dst (N := 2) rfl ?_); refine box_event ?hg (N := 2) ?hd (cs := #[.int .i64 a0_0, .int .i64 a0_1, .int .i64 a0_2, .int .i64 a0_3]) (t := 36) ?hr ?_; (case hd => rfl); (case hg => rfl); (case hr => first | (go_simp; done) | (go_simp; rfl)); intro gb395 hg w41 hbox hb; have n0_ := YL (YD (upB HB) hb); have n1_ := YL (hbox); have n2_ := YL ((by rw [hg]; exact (YE (upB HB)) : w.heap.size ≤ gb395)); have n3_ := YL ((by rw [hg]; exact (YE (upB HB)) : w.heap.size ≤ gb395)); clear HB; have HB := n0_; have BK395 := n1_; have GW395 := n2_; have GE395 := n3_; clear n0_ n1_ n2_ n3_; clear hb hbox hg; obtain ⟨q42_0, q42_1, q42_2, q42_3⟩ := cA4 BK395.out; obtain ⟨f42_0, f42_1, f42_2, f42_3⟩ := fA4 BK395.out) | (go_at_call 45; (with_reducible refine (thalwegref07_One.calls a0_0 a0_1 a0_2 a0_3 true _ A3.out).mono ?_); rintro e w43 ⟨rfl, hb⟩; have n0_ := YL (YK (g := gb395) (o := .cells #[.int .i64 a0_0, .int .i64 a0_1, .int .i64 a0_2, .int .i64 a0_3] 36 (0, 0)) (upK BK395) hb); have n1_ := YL (YD (upB HB) hb); clear BK395; clear HB; have BK395 := n0_; have HB := n1_; clear n0_ n1_; (try clear hb); (try clear hb2); (try clear hk); (try clear hi); obtain ⟨q44_0, q44_1, q44_2, q44_3⟩ := cA4 BK395.out; obtain ⟨f44_0, f44_1, f44_2, f44_3⟩ := fA4 BK395.out) | (go_at_call 42; (with_reducible refine (thalwegref03_Far.calls a1 a0_2 t397 _ A5.out).mono ?_); rintro e w' ⟨rfl, ⟨nd, rfl⟩⟩; (try first | exact ⟨rfl, _, World.drewN_drewN _ _ _⟩ | exact ⟨rfl, _, Eq.trans (World.drewN_drewN _ _ _) (congrArg (World.drewN _) (Nat.add_assoc _ _ _))⟩)) | (go_at_call 42; (with_reducible refine (thalwegref03_Far.calls a0_2 a1 t398 _ A6.out).mono ?_); rintro e w' ⟨rfl, ⟨nd, rfl⟩⟩; (try first | exact ⟨rfl, _, World.drewN_drewN _ _ _⟩ | exact ⟨rfl, _, Eq.trans (World.drewN_drewN _ _ _) (congrArg (World.drewN _) (Nat.add_assoc _ _ _))⟩))); try go_wp2_with (first | ((with_reducible refine gate_dst (N := 2) rfl ?_); refine box_event ?hg (N := 2) ?hd (cs := #[.int .i64 a0_0, .int .i64 a0_1, .int .i64 a0_2, .int .i64 a0_3]) (t := 36) ?hr ?_; (case hd => rfl); (case hg => rfl); (case hr => first | (go_simp; done) | (go_simp; rfl)); intro gb395 hg w41 hbox hb; have n0_ := YL (YD (upB HB) hb); have n1_ := YL (hbox); have n2_ := YL ((by rw [hg]; exact (YE (upB HB)) : w.heap.size ≤ gb395)); have n3_ := YL ((by rw [hg]; exact (YE (upB HB)) : w.heap.size ≤ gb395)); clear HB; have HB := n0_; have BK395 := n1_; have GW395 := n2_; have GE395 := n3_; clear n0_ n1_ n2_ n3_; clear hb hbox hg; obtain ⟨q42_0, q42_1, q42_2, q42_3⟩ := cA4 BK395.out; obtain ⟨f42_0, f42_1, f42_2, f42_3⟩ := fA4 BK395.out) | (go_at_call 45; (with_reducible refine (thalwegref07_One.calls a0_0 a0_1 a0_2 a0_3 true _ A3.out).mono ?_); rintro e w43 ⟨rfl, hb⟩; have n0_ := YL (YK (g := gb395) (o := .cells #[.int .i64 a0_0, .int .i64 a0_1, .int .i64 a0_2, .int .i64 a0_3] 36 (0, 0)) (upK BK395) hb); have n1_ := YL (YD (upB HB) hb); clear BK395; clear HB; have BK395 := n0_; have HB := n1_; clear n0_ n1_; (try clear hb); (try clear hb2); (try clear hk); (try clear hi); obtain ⟨q44_0, q44_1, q44_2, q44_3⟩ := cA4 BK395.out; obtain ⟨f44_0, f44_1, f44_2, f44_3⟩ := fA4 BK395.out) | (go_at_call 42; (with_reducible refine (thalwegref03_Far.calls a1 a0_2 t397 _ A5.out).mono ?_); rintro e w' ⟨rfl, ⟨nd, rfl⟩⟩; (try first | exact ⟨rfl, _, World.drewN_drewN _ _ _⟩ | exact ⟨rfl, _, Eq.trans (World.drewN_drewN _ _ _) (congrArg (World.drewN _) (Nat.add_assoc _ _ _))⟩)) | (go_at_call 42; (with_reducible refine (thalwegref03_Far.calls a0_2 a1 t398 _ A6.out).mono ?_); rintro e w' ⟨rfl, ⟨nd, rfl⟩⟩; (try first | exact ⟨rfl, _, World.drewN_drewN _ _ _⟩ | exact ⟨rfl, _, Eq.trans (World.drewN_drewN _ _ _) (congrArg (World.drewN _) (Nat.add_assoc _ _ _))⟩))))
  go_ret
  exact ⟨by first | rfl | (simp [errW_none, errW_some] <;> rfl) | (simp [*, errW_none, errW_some] <;> rfl), by repeat (first | (with_reducible first | exact HB.out | apply YA | apply YB | apply YC | refine below_set ?_ GE395.out) | exact HB.out)⟩
 replace c4 := Bool.eq_false_iff.mpr c4
 subst c4
 have H1 : (some false) = some r := by rw [if_neg (show ¬ (false = true) by decide)] at H; exact H
 clear H
 have H := H1
 clear H1
 obtain rfl := Option.some.inj H
 go_enter Try.func46, Try.ntmps46
 go_wp2_with (first | ((with_reducible refine gate_dst (N := 2) rfl ?_); refine box_event ?hg (N := 2) ?hd (cs := #[.int .i64 a0_0, .int .i64 a0_1, .int .i64 a0_2, .int .i64 a0_3]) (t := 36) ?hr ?_; (case hd => rfl); (case hg => rfl); (case hr => first | (go_simp; done) | (go_simp; rfl)); intro gb395 hg w45 hbox hb; have n0_ := YL (YD (upB HB) hb); have n1_ := YL (hbox); have n2_ := YL ((by rw [hg]; exact (YE (upB HB)) : w.heap.size ≤ gb395)); have n3_ := YL ((by rw [hg]; exact (YE (upB HB)) : w.heap.size ≤ gb395)); clear HB; have HB := n0_; have BK395 := n1_; have GW395 := n2_; have GE395 := n3_; clear n0_ n1_ n2_ n3_; clear hb hbox hg; obtain ⟨q46_0, q46_1, q46_2, q46_3⟩ := cA4 BK395.out; obtain ⟨f46_0, f46_1, f46_2, f46_3⟩ := fA4 BK395.out) | (go_at_call 45; (with_reducible refine (thalwegref07_One.calls a0_0 a0_1 a0_2 a0_3 false _ A3.out).mono ?_); rintro e w47 ⟨rfl, hb⟩; have n0_ := YL (YK (g := gb395) (o := .cells #[.int .i64 a0_0, .int .i64 a0_1, .int .i64 a0_2, .int .i64 a0_3] 36 (0, 0)) (upK BK395) hb); have n1_ := YL (YD (upB HB) hb); clear BK395; clear HB; have BK395 := n0_; have HB := n1_; clear n0_ n1_; (try clear hb); (try clear hb2); (try clear hk); (try clear hi)))
 repeat (go_quiet (first | ((with_reducible refine gate_dst (N := 2) rfl ?_); refine box_event ?hg (N := 2) ?hd (cs := #[.int .i64 a0_0, .int .i64 a0_1, .int .i64 a0_2, .int .i64 a0_3]) (t := 36) ?hr ?_; (case hd => rfl); (case hg => rfl); (case hr => first | (go_simp; done) | (go_simp; rfl)); intro gb395 hg w45 hbox hb; have n0_ := YL (YD (upB HB) hb); have n1_ := YL (hbox); have n2_ := YL ((by rw [hg]; exact (YE (upB HB)) : w.heap.size ≤ gb395)); have n3_ := YL ((by rw [hg]; exact (YE (upB HB)) : w.heap.size ≤ gb395)); clear HB; have HB := n0_; have BK395 := n1_; have GW395 := n2_; have GE395 := n3_; clear n0_ n1_ n2_ n3_; clear hb hbox hg; obtain ⟨q46_0, q46_1, q46_2, q46_3⟩ := cA4 BK395.out; obtain ⟨f46_0, f46_1, f46_2, f46_3⟩ := fA4 BK395.out) | (go_at_call 45; (with_reducible refine (thalwegref07_One.calls a0_0 a0_1 a0_2 a0_3 false _ A3.out).mono ?_); rintro e w47 ⟨rfl, hb⟩; have n0_ := YL (YK (g := gb395) (o := .cells #[.int .i64 a0_0, .int .i64 a0_1, .int .i64 a0_2, .int .i64 a0_3] 36 (0, 0)) (upK BK395) hb); have n1_ := YL (YD (upB HB) hb); clear BK395; clear HB; have BK395 := n0_; have HB := n1_; clear n0_ n1_; (try clear hb); (try clear hb2); (try clear hk); (try clear hi))); try go_wp2_with (first | ((with_reducible refine gate_dst (N := 2) rfl ?_); refine box_event ?hg (N := 2) ?hd (cs := #[.int .i64 a0_0, .int .i64 a0_1, .int .i64 a0_2, .int .i64 a0_3]) (t := 36) ?hr ?_; (case hd => rfl); (case hg => rfl); (case hr => first | (go_simp; done) | (go_simp; rfl)); intro gb395 hg w45 hbox hb; have n0_ := YL (YD (upB HB) hb); have n1_ := YL (hbox); have n2_ := YL ((by rw [hg]; exact (YE (upB HB)) : w.heap.size ≤ gb395)); have n3_ := YL ((by rw [hg]; exact (YE (upB HB)) : w.heap.size ≤ gb395)); clear HB; have HB := n0_; have BK395 := n1_; have GW395 := n2_; have GE395 := n3_; clear n0_ n1_ n2_ n3_; clear hb hbox hg; obtain ⟨q46_0, q46_1, q46_2, q46_3⟩ := cA4 BK395.out; obtain ⟨f46_0, f46_1, f46_2, f46_3⟩ := fA4 BK395.out) | (go_at_call 45; (with_reducible refine (thalwegref07_One.calls a0_0 a0_1 a0_2 a0_3 false _ A3.out).mono ?_); rintro e w47 ⟨rfl, hb⟩; have n0_ := YL (YK (g := gb395) (o := .cells #[.int .i64 a0_0, .int .i64 a0_1, .int .i64 a0_2, .int .i64 a0_3] 36 (0, 0)) (upK BK395) hb); have n1_ := YL (YD (upB HB) hb); clear BK395; clear HB; have BK395 := n0_; have HB := n1_; clear n0_ n1_; (try clear hb); (try clear hb2); (try clear hk); (try clear hi))))
 go_ret
 exact ⟨by first | rfl | (simp [errW_none, errW_some] <;> rfl) | (simp [*, errW_none, errW_some] <;> rfl), by repeat (first | (with_reducible first | exact HB.out | apply YA | apply YB | apply YC | refine below_set ?_ GE395.out) | exact HB.out)⟩
end Go.Proofs.Ytclbempnhelmoaa.P
namespace Go.Proofs.Ytclbempnhelmoaa.P
open Go.RowKit YtclbempnhelmoaaW.PrintWords YtclbempnhelmoaaW.PrintLast YtclbempnhelmoaaW.PrintMore
def SA (a : S36) : Prop := (0 ≤ a.f0 ∧ a.f0 < 64) ∧ (0 ≤ a.f1 ∧ a.f1 ≤ 4294967295) ∧ (0 ≤ a.f2 ∧ a.f2 ≤ 65535) ∧ (0 ≤ a.f3 ∧ a.f3 ≤ 65535)
instance (a : S36) : Decidable (SA a) := by unfold SA; infer_instance
theorem right_eq (a : S36) : ack_right.f a.f0 a.f1 a.f2 a.f3 = some (decide (SA a)) := by
 unfold ack_right.f
 by_cases h1 : a.f0 ≥ 0
 ·rw [if_pos h1]
  by_cases h2 : a.f0 < 64
  ·rw [if_pos h2]
   by_cases h3 : a.f1 ≥ 0
   ·rw [if_pos h3]
    by_cases h4 : a.f1 ≤ 4294967295
    ·rw [if_pos h4]
     by_cases h5 : a.f2 ≥ 0
     ·rw [if_pos h5]
      by_cases h6 : a.f2 ≤ 65535
      ·rw [if_pos h6]
       by_cases h7 : a.f3 ≥ 0
       ·rw [if_pos h7]
        congr 1
        by_cases h8 : a.f3 ≤ 65535
        ·rw [decide_eq_true h8, decide_eq_true (show SA a from ⟨⟨h1, h2⟩, ⟨h3, h4⟩, ⟨h5, h6⟩, h7, h8⟩)]
        ·rw [decide_eq_false h8, decide_eq_false fun x : SA a => h8 x.2.2.2.2]
       ·rw [if_neg h7, decide_eq_false fun x : SA a => h7 x.2.2.2.1]
      ·rw [if_neg h6, decide_eq_false fun x : SA a => h6 x.2.2.1.2]
     ·rw [if_neg h5, decide_eq_false fun x : SA a => h5 x.2.2.1.1]
    ·rw [if_neg h4, decide_eq_false fun x : SA a => h4 x.2.1.2]
   ·rw [if_neg h3, decide_eq_false fun x : SA a => h3 x.2.1.1]
  ·rw [if_neg h2, decide_eq_false fun x : SA a => h2 x.1.2]
 ·rw [if_neg h1, decide_eq_false fun x : SA a => h1 x.1.1]
def hasA (a : S36) (n : Int) : Bool := decide (SA a) && hasB a.f2 a.f3.toNat n
theorem has_ev (a : S36) (n : Int) : Ev (fun k => ack_Has.f k a.f0 a.f1 a.f2 a.f3 n) (hasA a n) := by
 unfold ack_Has.f hasA
 simp only [right_eq, Option.bind_some]
 by_cases c : SA a
 ·obtain ⟨m, hm⟩ := Int.eq_ofNat_of_zero_le c.2.2.2.1
  have hlt : m < 65536 := by have := c.2.2.2.2; omega
  simp only [decide_eq_true c, if_true, Bool.true_and, hm, Int.toNat_natCast]
  have hr := ack_Has_ev a.f2 m n c.2.2.1.1 c.2.2.1.2 hlt
  unfold ack_Has.f at hr
  have hr2 : ack_right.f 0 0 a.f2 m = some true := by
   rw [right_eq ⟨0, 0, a.f2, m⟩]
   congr 1
   exact decide_eq_true (show SA ⟨0, 0, a.f2, m⟩ from ⟨⟨Int.le_refl 0, by show (0 : Int) < 64; omega⟩, ⟨Int.le_refl 0, by show (0 : Int) ≤ 4294967295; omega⟩, c.2.2.1, by show (0 : Int) ≤ m; omega, by show (m : Int) ≤ 65535; omega⟩)
  simp only [hr2, Option.bind_some, if_true] at hr
  exact hr
 ·simp only [decide_eq_false c, Bool.false_eq_true, if_false, Bool.false_and]
  exact Ev.now _
theorem check1_ev (a : S36) : Ev (fun k => ack_Check.f k [a]) (if SA a then 0 else 1) := by
 have hr : rd_T36 [a] 0 = a := rfl
 have hw : wrap64 1 = 1 := by unfold wrap64; decide
 by_cases h : SA a
 ·rw [if_pos h]
  refine Ev.from 4 fun k => ?_
  simp [ack_Check.f, ack_Check.j0, ack_Check.l0, hr, right_eq, h, hw]
 ·rw [if_neg h]
  refine Ev.from 4 fun k => ?_
  simp [ack_Check.f, ack_Check.j0, ack_Check.l0, hr, right_eq, h, hw]
theorem wire_Int_eq (v : Int) : wire_Int.f v = some (intSpec v) := by
 unfold wire_Int.f wire_bytes.f intSpec
 rw [wrap_u64, if_pos (by omega)]
 rfl
theorem intSpec_length (v : Int) : (intSpec v).length = 8 := be_length _ _
theorem ob_no (a0 a1 : Int) (a2 : Bool) (a3 a4 a5 a6 a7 a8 a9 a10 a11 c : Int) (h : Ev (fun k => object_Check.f k a0 a1 a2 a3 a4 a5 a6 a7 a8 a9 a10 a11) c) (hc : c ≠ 0) :
  Ev (fun k => object_Bytes.f k a0 a1 a2 a3 a4 a5 a6 a7 a8 a9 a10 a11) ([], c) := by
 unfold object_Bytes.f
 refine Ev.bind h ?_
 simp only [if_neg hc]
 exact Ev.now _
theorem os_ev (a0 a1 : Int) (a2 : Bool) (a3 a4 a5 a6 a7 a8 a9 a10 a11 : Int) (out : List Int × Int) (h : Ev (fun k => object_Bytes.f k a0 a1 a2 a3 a4 a5 a6 a7 a8 a9 a10 a11) out) :
  Ev (fun k => object_Size.f k a0 a1 a2 a3 a4 a5 a6 a7 a8 a9 a10 a11) (out.1.length : Int) := by
 unfold object_Size.f
 exact Ev.bind h (Ev.now _)
def RH (n : Bool) (a b c d e : Int) : Prop := (0 ≤ e ∧ e < 64) ∧ ((n = true ∧ a = 0 ∧ b = 0 ∧ c = 0 ∧ d = 0) ∨ (n = false ∧ 0 ≤ a ∧ a ≤ 4611686018427387903 ∧ 0 ≤ b ∧ b < 64 ∧ 0 ≤ c ∧ c ≤ 1 ∧ -1099511627776 ≤ d ∧ d ≤ 1099511627776))
instance (n : Bool) (a b c d e : Int) : Decidable (RH n a b c d e) := by unfold RH; infer_instance
theorem hj_eq (k : Nat) (n x : Bool) (a b c d e : Int) : height_Check.j0 (k + 1) x n a b c d e = some (if x = true ∧ ((n = true ∧ a = 0 ∧ b = 0 ∧ c = 0 ∧ d = 0) ∨ (n = false ∧ 0 ≤ a ∧ a ≤ 4611686018427387903 ∧ 0 ≤ b ∧ b < 64 ∧ 0 ≤ c ∧ c ≤ 1 ∧ -1099511627776 ≤ d ∧ d ≤ 1099511627776)) then 0 else 1) := by
 simp only [height_Check.j0, height_Null.f, Option.bind_some]
 cases n <;> cases x <;> simp only [Bool.true_and, beq_self_eq_true, Bool.and_true, Bool.and_eq_true, beq_iff_eq, if_true, Bool.false_eq_true, if_false, true_and, false_and, or_false, false_or, Bool.true_eq_false, reduceCtorEq]
 ·repeat' split
  all_goals first
   | rfl
   | (exfalso; omega)
 ·by_cases h : a = 0 ∧ b = 0 ∧ c = 0 ∧ d = 0
  ·rw [if_pos h, if_pos h]
  ·rw [if_neg h, if_neg h]
theorem hc_eq (n : Bool) (a b c d e : Int) : Ev (fun k => height_Check.f k n a b c d e) (if RH n a b c d e then 0 else 1) := by
 unfold height_Check.f
 refine Ev.from 1 fun k => ?_
 rw [hj_eq, hj_eq]
 unfold RH
 by_cases h : e ≥ 0
 ·rw [if_pos h]
  congr 1
  have h0 : 0 ≤ e := h
  simp only [decide_eq_true_eq, h0, true_and]
 ·rw [if_neg h]
  have : ¬ 0 ≤ e := h
  simp only [this, false_and, Bool.false_eq_true]
theorem ha_eq (a b c d e : Int) : ∃ t : Bool × Int × Int × Int × Int × Int × Int, Ev (fun k => height_At.f k a b c d e) t ∧ t.2.2.2.2.2.2 = (if RH false a b c d e then 0 else 1) := by
 unfold height_At.f
 by_cases h : RH false a b c d e
 ·have := hc_eq false a b c d e
  rw [if_pos h] at this
  rw [if_pos h]
  exact ⟨(false, a, b, c, d, e, 0), Ev.bind this (by simp only [if_true]; exact Ev.now _), rfl⟩
 ·have := hc_eq false a b c d e
  rw [if_neg h] at this
  rw [if_neg h]
  exact ⟨(false, 0, 0, 0, 0, 0, 1), Ev.bind this (by simp only [if_neg (show ¬ (1 : Int) = 0 by decide)]; exact Ev.now _), rfl⟩
theorem ev_eq {α : Type} {g : Nat → Option α} {a b : α} (h : Ev g a) (e : a = b) : Ev g b := e ▸ h
def RO (a0 a1 : Int) (a2 : Bool) (a3 a4 a5 a6 a7 a8 a9 a10 a11 : Int) : Prop := (0 ≤ a1 ∧ a1 < 64) ∧
  ((a0 = 1 ∧ (a8 = 0 ∧ a9 = 0 ∧ a10 = 0) ∧ (a2 = false ∧ a3 = 0 ∧ a4 = 0 ∧ a5 = 0 ∧ a6 = 0 ∧ a7 = 0) ∧ a11 = 0) ∨
   (a0 = 2 ∧ (a8 = 0 ∧ a9 = 0 ∧ a10 = 0) ∧ a11 = 0 ∧ RH a2 a3 a4 a5 a6 a7) ∨
   (a0 = 3 ∧ (a2 = false ∧ a3 = 0 ∧ a4 = 0 ∧ a5 = 0 ∧ a6 = 0 ∧ a7 = 0) ∧ a11 = 0 ∧ RH false a8 a9 a10 0 0) ∨
   (a0 = 4 ∧ (a8 = 0 ∧ a9 = 0 ∧ a10 = 0) ∧ 0 ≤ a11 ∧ a11 ≤ 65535 ∧ RH a2 a3 a4 a5 a6 a7 ∧ a2 = false))
instance (a0 a1 : Int) (a2 : Bool) (a3 a4 a5 a6 a7 a8 a9 a10 a11 : Int) : Decidable (RO a0 a1 a2 a3 a4 a5 a6 a7 a8 a9 a10 a11) := by unfold RO; infer_instance
theorem oj1_eq (x4 : Bool) (a0 a1 : Int) (a2 : Bool) (a3 a4 a5 a6 a7 a8 a9 a10 a11 : Int) (b2 : Bool) (b3 b4 b5 b6 b7 b8 b9 b10 b11 : Int) :
  Ev (fun k => object_Check.j1 k x4 a0 a1 a2 a3 a4 a5 a6 a7 a8 a9 a10 a11 0 0 b2 b3 b4 b5 b6 b7 b8 b9 b10 b11) (if x4 = true ∧ RH a2 a3 a4 a5 a6 a7 ∧ (b8 = 0 ∧ b9 = 0 ∧ b10 = 0) ∧ b11 = 0 then 0 else 1) := by
 refine Ev.step (f := fun k => _) (fun k => by simp only [object_Check.j1]; rfl) ?_
 cases x4 with
 | false => simp only [Bool.false_eq_true, if_false, false_and]; exact Ev.now _
 | true =>
  simp only [if_true, true_and]
  refine Ev.bind (hc_eq a2 a3 a4 a5 a6 a7) ?_
  by_cases h : RH a2 a3 a4 a5 a6 a7
  ·simp only [if_pos h, if_true, h, true_and]
   by_cases g : (b8 = 0 ∧ b9 = 0 ∧ b10 = 0) ∧ b11 = 0
   ·obtain ⟨⟨rfl, rfl, rfl⟩, rfl⟩ := g
    simp only [and_self, if_true]
    exact Ev.now _
   ·rw [if_neg g]
    have : (!((0 : Int) == 0) || (!((0 : Int) == 0) || ((!(b8 == 0) || (!(b9 == 0) || (!(b10 == 0)))) || (!(b11 == 0))))) = true := by
     rw [← Bool.not_eq_false]
     intro hf
     simp only [Bool.or_eq_false_iff, Bool.not_eq_false', beq_iff_eq] at hf
     exact g ⟨⟨hf.2.2.1.1, hf.2.2.1.2.1, hf.2.2.1.2.2⟩, hf.2.2.2⟩
    simp only [if_pos this]
    exact Ev.now _
  ·simp only [if_neg h, h, false_and, if_false, show ¬ (1 : Int) = 0 by decide]
   exact Ev.now _
theorem oc_eq (a0 a1 : Int) (a2 : Bool) (a3 a4 a5 a6 a7 a8 a9 a10 a11 : Int) : Ev (fun k => object_Check.f k a0 a1 a2 a3 a4 a5 a6 a7 a8 a9 a10 a11) (if RO a0 a1 a2 a3 a4 a5 a6 a7 a8 a9 a10 a11 then 0 else 1) := by
  have hj : ∀ x : Bool, Ev (fun k => object_Check.j0 k x a0 a1 a2 a3 a4 a5 a6 a7 a8 a9 a10 a11 0 0 a2 a3 a4 a5 a6 a7 a8 a9 a10 a11) (if x = true ∧
    ((a0 = 1 ∧ (a8 = 0 ∧ a9 = 0 ∧ a10 = 0) ∧ (a2 = false ∧ a3 = 0 ∧ a4 = 0 ∧ a5 = 0 ∧ a6 = 0 ∧ a7 = 0) ∧ a11 = 0) ∨
     (a0 = 2 ∧ (a8 = 0 ∧ a9 = 0 ∧ a10 = 0) ∧ a11 = 0 ∧ RH a2 a3 a4 a5 a6 a7) ∨
     (a0 = 3 ∧ (a2 = false ∧ a3 = 0 ∧ a4 = 0 ∧ a5 = 0 ∧ a6 = 0 ∧ a7 = 0) ∧ a11 = 0 ∧ RH false a8 a9 a10 0 0) ∨
     (a0 = 4 ∧ (a8 = 0 ∧ a9 = 0 ∧ a10 = 0) ∧ 0 ≤ a11 ∧ a11 ≤ 65535 ∧ RH a2 a3 a4 a5 a6 a7 ∧ a2 = false)) then 0 else 1) := by
    intro x
    refine Ev.step (f := fun k => _) (fun k => by simp only [object_Check.j0]; rfl) ?_
    by_cases h1 : a0 = 1
    · subst h1
      simp only [if_true, show ¬ (1 : Int) = 2 by decide, show ¬ (1 : Int) = 3 by decide, show ¬ (1 : Int) = 4 by decide, false_and, or_false, true_and]
      cases x with
      | false => simp only [Bool.false_eq_true, if_false, false_and]; exact Ev.now _
      | true =>
        simp only [if_true, true_and]
        by_cases g : (a8 = 0 ∧ a9 = 0 ∧ a10 = 0) ∧ (a2 = false ∧ a3 = 0 ∧ a4 = 0 ∧ a5 = 0 ∧ a6 = 0 ∧ a7 = 0) ∧ a11 = 0
        · rw [if_pos g]
          obtain ⟨⟨rfl, rfl, rfl⟩, ⟨rfl, rfl, rfl, rfl, rfl, rfl⟩, rfl⟩ := g
          exact Ev.now _
        · rw [if_neg g]
          have : (!((0 : Int) == 0) || (!((0 : Int) == 0) || ((a2 || (!(a3 == 0) || (!(a4 == 0) || (!(a5 == 0) || (!(a6 == 0) || (!(a7 == 0))))))) || ((!(a8 == 0) || (!(a9 == 0) || (!(a10 == 0)))) || (!(a11 == 0)))))) = true := by
            rw [← Bool.not_eq_false]
            intro hf
            simp only [Bool.or_eq_false_iff, Bool.not_eq_false', beq_iff_eq] at hf
            obtain ⟨_, _, ⟨u2, u3, u4, u5, u6, u7⟩, ⟨u8, u9, u10⟩, u11⟩ := hf
            exact g ⟨⟨u8, u9, u10⟩, ⟨u2, u3, u4, u5, u6, u7⟩, u11⟩
          simp only [if_pos this]
          exact Ev.now _
    by_cases h4 : a0 = 4
    · subst h4
      simp only [if_true, if_neg h1, show ¬ (4 : Int) = 1 by decide, show ¬ (4 : Int) = 2 by decide, show ¬ (4 : Int) = 3 by decide, false_and, false_or, true_and]
      cases x with
      | false =>
        simp only [Bool.false_eq_true, if_false, false_and]
        refine ev_eq (oj1_eq _ _ _ _ _ _ _ _ _ _ _ _ _ _ _ _ _ _ _ _ _ _ _) ?_
        simp only [Bool.false_eq_true, false_and, if_false]
      | true =>
        simp only [if_true, true_and]
        cases a2 with
        | true =>
          simp only [if_true, Bool.true_eq_false, and_false, if_false]
          refine ev_eq (oj1_eq _ _ _ _ _ _ _ _ _ _ _ _ _ _ _ _ _ _ _ _ _ _ _) ?_
          simp only [Bool.false_eq_true, false_and, if_false]
        | false =>
          simp only [Bool.false_eq_true, if_false, and_true]
          by_cases g : a11 ≥ 0
          · simp only [if_pos g]
            refine ev_eq (oj1_eq _ _ _ _ _ _ _ _ _ _ _ _ _ _ _ _ _ _ _ _ _ _ _) ?_
            have g0 : 0 ≤ a11 := g
            simp only [decide_eq_true_eq, g0, true_and, and_true]
            congr 1
            apply propext
            constructor
            · rintro ⟨u, v, w⟩; exact ⟨w, u, v⟩
            · rintro ⟨w, u, v⟩; exact ⟨u, v, w⟩
          · simp only [if_neg g]
            refine ev_eq (oj1_eq _ _ _ _ _ _ _ _ _ _ _ _ _ _ _ _ _ _ _ _ _ _ _) ?_
            have g' : ¬ 0 ≤ a11 := g
            simp only [g', Bool.false_eq_true, false_and, and_false, if_false]
    by_cases h2 : a0 = 2
    · subst h2
      simp only [if_neg h1, if_neg h4, if_true, show ¬ (2 : Int) = 1 by decide, show ¬ (2 : Int) = 4 by decide, show ¬ (2 : Int) = 3 by decide, false_and, false_or, or_false, true_and]
      refine ev_eq (oj1_eq _ _ _ _ _ _ _ _ _ _ _ _ _ _ _ _ _ _ _ _ _ _ _) ?_
      congr 1
      apply propext
      constructor
      · rintro ⟨u, v, w, z⟩; exact ⟨u, w, z, v⟩
      · rintro ⟨u, w, z, v⟩; exact ⟨u, v, w, z⟩
    by_cases h3 : a0 = 3
    · subst h3
      simp only [if_neg h1, if_neg h4, if_neg h2, if_true, show ¬ (3 : Int) = 1 by decide, show ¬ (3 : Int) = 4 by decide, show ¬ (3 : Int) = 2 by decide, false_and, false_or, or_false, true_and]
      obtain ⟨t, ht, he⟩ := ha_eq a8 a9 a10 0 0
      refine Ev.bind ht ?_
      rw [he]
      cases x with
      | false => simp only [Bool.false_eq_true, if_false, false_and]; exact Ev.now _
      | true =>
        simp only [if_true, true_and]
        by_cases h : RH false a8 a9 a10 0 0
        · simp only [if_pos h, h, if_true, and_true]
          by_cases g : (a2 = false ∧ a3 = 0 ∧ a4 = 0 ∧ a5 = 0 ∧ a6 = 0 ∧ a7 = 0) ∧ a11 = 0
          · rw [if_pos g]
            obtain ⟨⟨rfl, rfl, rfl, rfl, rfl, rfl⟩, rfl⟩ := g
            exact Ev.now _
          · rw [if_neg g]
            have : (!((0 : Int) == 0) || (!((0 : Int) == 0) || ((a2 || (!(a3 == 0) || (!(a4 == 0) || (!(a5 == 0) || (!(a6 == 0) || (!(a7 == 0))))))) || (!(a11 == 0))))) = true := by
              rw [← Bool.not_eq_false]
              intro hf
              simp only [Bool.or_eq_false_iff, Bool.not_eq_false', beq_iff_eq] at hf
              obtain ⟨_, _, ⟨u2, u3, u4, u5, u6, u7⟩, u11⟩ := hf
              exact g ⟨⟨u2, u3, u4, u5, u6, u7⟩, u11⟩
            simp only [if_pos this]
            exact Ev.now _
        · simp only [if_neg h, h, show ¬ (1 : Int) = 0 by decide, if_false, and_false]
          exact Ev.now _
    · simp only [if_neg h1, if_neg h4, if_neg h2, if_neg h3, h1, h2, h3, h4, false_and, or_false, and_false, if_false]
      exact Ev.now _
  unfold object_Check.f RO
  by_cases h : a1 ≥ 0
  · simp only [if_pos h]
    refine ev_eq (hj _) ?_
    have g0 : 0 ≤ a1 := h
    simp only [decide_eq_true_eq, g0, true_and]
  · simp only [if_neg h]
    refine ev_eq (hj _) ?_
    have h' : ¬ 0 ≤ a1 := h
    simp only [h', Bool.false_eq_true, false_and, and_false, if_false]
def hB (n : Bool) (a b c d e : Int) : List Int := if n = true then [0, e % 256] else [1] ++ intSpec a ++ [b % 256, c % 256] ++ intSpec d ++ [e % 256]
theorem hB_length (n : Bool) (a b c d e : Int) : (hB n a b c d e).length = if n = true then 2 else 20 := by
 unfold hB
 cases n
 ·simp only [Bool.false_eq_true, if_false, List.length_append, intSpec_length, List.length_cons, List.length_nil]
 ·rfl
theorem hb_eq (n : Bool) (a b c d e : Int) (h : RH n a b c d e) : Ev (fun k => height_Bytes.f k n a b c d e) (hB n a b c d e, 0) := by
 have hc := hc_eq n a b c d e
 rw [if_pos h] at hc
 unfold height_Bytes.f hB
 refine Ev.bind hc ?_
 cases n with
 | true =>
  simp only [if_true, List.length_nil, List.nil_append, Option.bind_some, List.length_singleton]
  simp only [show (0 : Nat) < 140737488355328 by decide, show (1 : Nat) < 140737488355328 by decide, if_true]
  exact Ev.now _
 | false =>
  simp only [if_true, Bool.false_eq_true, if_false, List.length_nil, List.nil_append, Option.bind_some, List.length_singleton, wire_Int_eq, List.length_append, intSpec_length, List.length_cons]
  simp only [show (0 : Nat) < 140737488355328 by decide, Nat.reduceAdd, Nat.reduceLT, if_true]
  exact Ev.now _
def oB (a0 a1 : Int) (a2 : Bool) (a3 a4 a5 a6 a7 a8 a9 a10 a11 : Int) : List Int :=
 [a0 % 256, a1 % 256] ++ (if a0 = 1 then [] else if a0 = 3 then intSpec a8 ++ [a9 % 256, a10 % 256] else if a0 = 4 then hB a2 a3 a4 a5 a6 a7 ++ [a11 / 256 % 256, a11 % 256] else hB a2 a3 a4 a5 a6 a7)
theorem obx (a0 a1 : Int) (a2 : Bool) (a3 a4 a5 a6 a7 a8 a9 a10 a11 : Int) (h : RO a0 a1 a2 a3 a4 a5 a6 a7 a8 a9 a10 a11) :
  Ev (fun k => object_Bytes.f k a0 a1 a2 a3 a4 a5 a6 a7 a8 a9 a10 a11) (oB a0 a1 a2 a3 a4 a5 a6 a7 a8 a9 a10 a11, 0) := by
 have hc := oc_eq a0 a1 a2 a3 a4 a5 a6 a7 a8 a9 a10 a11
 rw [if_pos h] at hc
 unfold object_Bytes.f
 refine Ev.bind hc ?_
 simp only [if_true, Option.bind_some]
 rcases h.2 with ⟨rfl, _⟩ | ⟨rfl, _, _, hh⟩ | ⟨rfl, _⟩ | ⟨rfl, _, _, _, hh, rfl⟩
 ·simp only [if_neg (show ¬ (1 : Int) = 2 by decide), show ((1 : Int) == 4) = false by decide]
  refine Ev.step (f := fun k => _) (fun k => by simp only [object_Bytes.j0]; rfl) ?_
  simp only [Bool.false_eq_true, if_false, if_neg (show ¬ (1 : Int) = 3 by decide), if_neg (show ¬ (1 : Int) = 4 by decide)]
  exact Ev.now _
 ·simp only [show ((2 : Int) == 2) = true by decide, if_true]
  refine Ev.step (f := fun k => _) (fun k => by simp only [object_Bytes.j0]; rfl) ?_
  simp only [if_true]
  refine Ev.bind (hb_eq _ _ _ _ _ _ hh) ?_
  have hl := hB_length a2 a3 a4 a5 a6 a7
  have : [2 % 256, a1 % 256].length + (hB a2 a3 a4 a5 a6 a7).length < 140737488355328 := by rw [hl]; simp; split <;> omega
  simp only [if_true, if_pos this, Option.bind_some, if_neg (show ¬ (2 : Int) = 4 by decide)]
  exact Ev.now _
 ·simp only [if_neg (show ¬ (3 : Int) = 2 by decide), show ((3 : Int) == 4) = false by decide]
  refine Ev.step (f := fun k => _) (fun k => by simp only [object_Bytes.j0]; rfl) ?_
  simp only [Bool.false_eq_true, if_false, if_true, wire_Int_eq, Option.bind_some, List.length_append, intSpec_length, List.length_cons, List.length_nil, Nat.reduceAdd, Nat.reduceLT, if_neg (show ¬ (3 : Int) = 4 by decide)]
  refine ev_eq (Ev.now _) ?_
  unfold oB
  rw [if_neg (show ¬ (3 : Int) = 1 by decide), if_pos rfl, List.append_assoc]
 ·simp only [if_neg (show ¬ (4 : Int) = 2 by decide), show ((4 : Int) == 4) = true by decide]
  refine Ev.step (f := fun k => _) (fun k => by simp only [object_Bytes.j0]; rfl) ?_
  simp only [if_true]
  refine Ev.bind (hb_eq _ _ _ _ _ _ hh) ?_
  have h20 : (hB false a3 a4 a5 a6 a7).length = 20 := by rw [hB_length]; rfl
  simp only [List.length_append, List.length_cons, List.length_nil, h20, Nat.reduceAdd, Nat.reduceLT, if_true, Option.bind_some]
  refine ev_eq (Ev.now _) ?_
  unfold oB
  rw [if_neg (show ¬ (4 : Int) = 1 by decide), if_neg (show ¬ (4 : Int) = 3 by decide), if_pos rfl, List.append_assoc]
theorem obn (a0 a1 : Int) (a2 : Bool) (a3 a4 a5 a6 a7 a8 a9 a10 a11 : Int) (h : ¬ RO a0 a1 a2 a3 a4 a5 a6 a7 a8 a9 a10 a11) :
  Ev (fun k => object_Bytes.f k a0 a1 a2 a3 a4 a5 a6 a7 a8 a9 a10 a11) ([], 1) := by
 have hc := oc_eq a0 a1 a2 a3 a4 a5 a6 a7 a8 a9 a10 a11
 rw [if_neg h] at hc
 exact ob_no _ _ _ _ _ _ _ _ _ _ _ _ _ hc (by decide)
end Go.Proofs.Ytclbempnhelmoaa.P
namespace Go.Proofs.Ytclbempnhelmoaa.P
open Go.RowKit YtclbempnhelmoaaW.PrintWords YtclbempnhelmoaaW.PrintLast YtclbempnhelmoaaW.PrintMore
open YtclbempnhelmoaaW.PrintWords renaming below_alloc → YA, pw_below_drewN → YB, below_drew1 → YC
open YtclbempnhelmoaaW.PrintWords.Aside0 renaming mk → YD
open YtclbempnhelmoaaW.PrintWords.Kd renaming R_alloc → YE, R_drewN → YF, R_drew → YG
attribute [local go_sem] max2_int min2_int max_two min_two max_three min_three max_four min_four
def thalwegref01_Int.l0 : Nat → Int → List Int → Int → Option (List Int)
 | 0, _, _, _ => none
 | k + 1, x0, x3, x4 => if x4 ≥ 0 then (if (Int.tmod x0 256) < 0 then (if 0 ≤ x4 then (if x4 < (x3.length : Int) then ((some (x3.set (x4 : Int).toNat ((wrap64 ((Int.tmod x0 256) + 256)) % 256) : List Int)).bind fun y283 => (if x4 = 0 then (thalwegref01_Int.l0 k 0 y283 (wrap64 (x4 - 1))) else (thalwegref01_Int.l0 k (wrap64 (Int.tdiv (wrap64 (x0 - (wrap64 ((Int.tmod x0 256) + 256)))) 256)) y283 (wrap64 (x4 - 1))))) else (none)) else (none)) else (if 0 ≤ x4 then (if x4 < (x3.length : Int) then ((some (x3.set (x4 : Int).toNat ((Int.tmod x0 256) % 256) : List Int)).bind fun y284 => (if x4 = 0 then (thalwegref01_Int.l0 k 0 y284 (wrap64 (x4 - 1))) else (thalwegref01_Int.l0 k (wrap64 (Int.tdiv (wrap64 (x0 - (Int.tmod x0 256))) 256)) y284 (wrap64 (x4 - 1))))) else (none)) else (none))) else (some x3)
def thalwegref01_Int.f (k : Nat) (a0 : Int) : Option (List Int) := if 8 ≤ 281474976710656 then (thalwegref01_Int.l0 k a0 (List.replicate 8 0) 7) else (none)
theorem thalwegref01_Int.mono_l : ∀ k, (∀ y0 y1 y2, LeO (thalwegref01_Int.l0 k y0 y1 y2) (thalwegref01_Int.l0 (k + 1) y0 y1 y2))
 | 0 => fun _ _ _ r h => by simp [thalwegref01_Int.l0] at h
 | k + 1 => by
  have ih0 := thalwegref01_Int.mono_l k
  ·intro y0 y1 y2
   unfold thalwegref01_Int.l0
   repeat' first
   | (with_reducible exact ih0 _ _ _)
   | (with_reducible exact LeO.refl _)
   | (with_reducible exact LeO.none _)
   | (with_reducible refine LeO.ite ?_ ?_)
   | (with_reducible refine LeO.bind ?_ (fun _ => ?_))
   | exact ih0 _ _ _
   | exact LeO.none _
   | refine LeO.ite ?_ ?_
   | refine LeO.bind ?_ (fun _ => ?_)
theorem thalwegref01_Int.mono : ∀ a0 k, LeO (thalwegref01_Int.f k a0) (thalwegref01_Int.f (k + 1) a0) := by
 intro a0 k
 have ih0 := thalwegref01_Int.mono_l k
 unfold thalwegref01_Int.f
 repeat' first
   | (with_reducible exact ih0 _ _ _)
   | (with_reducible exact LeO.refl _)
   | (with_reducible exact LeO.none _)
   | (with_reducible refine LeO.ite ?_ ?_)
   | (with_reducible refine LeO.bind ?_ (fun _ => ?_))
   | exact ih0 _ _ _
   | exact LeO.none _
   | refine LeO.ite ?_ ?_
   | refine LeO.bind ?_ (fun _ => ?_)
theorem thalwegref01_Int.calls (k : Nat) (a0 : Int) (r : List Int) (w : World) (h : thalwegref01_Int.f k a0 = some r) :
  Calls Try.prog 72 #[.int .i64 a0] w fun e w' => ∃ v0_ : Value, e = .returned (v0_) ∧ Kd.R (Kd.int .u8) 5 w' w.heap.size (fun _ => True) v0_ r ∧ Below w.heap.size w w' := by
 have HB := YD (Below.refl w.heap.size w)
 have H : (if 8 ≤ 281474976710656 then (thalwegref01_Int.l0 k a0 (List.replicate 8 0) 7) else (none)) = some r := h
 clear h
 by_cases c2 : 8 ≤ 281474976710656
 rotate_left
 ·rw [if_neg c2] at H
  exact absurd H (by simp)
 rw [if_pos c2] at H
 have c2b0 := eq_true c2
 have c2b1 : decide (8 ≤ 281474976710656) = true := decide_eq_true c2; clear c2
 obtain ⟨y280, hy280⟩ : ∃ y_ : List Int, y_ = (List.replicate 8 0) := ⟨_, rfl⟩
 replace H : (thalwegref01_Int.l0 k a0 y280 7) = some r := by first | (rw [hy280]; with_reducible exact H) | (have H2_ := (Option.bind_some _ _).symm.trans H; rw [hy280]; with_reducible exact H2_) | (have H2_ := (Option.bind_some _ _).symm.trans H; with_reducible exact H2_) | with_reducible exact H | (rw [hy280]; exact H) | exact H
 have Ny280 := YD hy280; clear hy280
 have H' := YD H
 clear H
 go_enter Try.func72, Try.ntmps72
 go_wp2_with (first | ((with_reducible refine gate_dst (N := 6) rfl ?_); refine Kd.R_make (Kd.int .u8) _ 5 rfl (N := 6) rfl 107 _ _ rfl 8 rfl rfl Try.underlying107 (.int .u8 0) 1 info5 rfl (by decide) (by omega) 0 (ok := fun _ => True) (okp := fun _ => True) rfl (fun _ hk => hk) trivial (by omega) (by omega) (Below.refl _ _) (Nat.le_refl _) ?_; intro v281 w3 ho4 hb hg_ hnew_; clear hg_ hnew_; (first | rw [← Ny280.out] at ho4 | (simp only [Int.reduceToNat] at ho4; rw [← Ny280.out] at ho4)); have n0_ := YD (Kd.R_lower ho4 (below_size (upB HB))); have n1_ := YD (below_step (upB HB) hb); clear HB; have HO282 := n0_; have HB := n1_; clear n0_ n1_; clear hb ho4))
 go_loopg [0, 4] k (fun kq v0 v4 w' => ∃ (x0_1 : Int) (x3_1 : List Int) (x4_1 : Int), v0 = .int .i64 x0_1 ∧ v4 = .int .i64 x4_1 ∧ Aside0 (thalwegref01_Int.l0 kq x0_1 x3_1 x4_1 = some r) ∧ Aside0 (kq ≤ k) ∧ Aside0 (Kd.R (Kd.int .u8) 5 w' w.heap.size (fun _ => True) v281 x3_1) ∧ Aside0 (Below w.heap.size w w'))
 case atStart => exact ⟨(a0), (y280), (7), (by first | rfl | (simp; done) | (simp [*]; done)), (by first | rfl | (simp; done) | (simp [*]; done)), H', ⟨Nat.le_refl _⟩, ⟨by (with_reducible repeat (first | apply YE | apply YF | apply YG)); exact HO282.out⟩, ⟨by repeat (first | (with_reducible first | exact HB.out | apply YA | apply YB | apply YC) | exact HB.out)⟩⟩
 case round =>
  clear H'
  try clear c2; try clear c2b0
  try clear c2b1; try clear p2
  obtain ⟨x0_1, x3_1, x4_1, rfl, rfl, HA, HK1, HO_3, HB⟩ := hrel
  cases gk with
  | zero => exact absurd HA.out (by simp [thalwegref01_Int.l0])
  | succ k1 =>
   have H := HA.out
   clear HA
   simp only [thalwegref01_Int.l0] at H
   by_cases c5 : x4_1 ≥ 0
   ·rw [if_pos c5] at H
    have c5b0 : decide (0 ≤ x4_1) = true := decide_eq_true c5; clear c5
    by_cases c6 : (Int.tmod x0_1 256) < 0
    ·rw [if_pos c6] at H
     have c6b0 : decide ((Int.tmod x0_1 256) < 0) = true := decide_eq_true c6; clear c6
     by_cases c7 : 0 ≤ x4_1
     rotate_left
     ·rw [if_neg c7] at H
      exact absurd H (by simp)
     rw [if_pos c7] at H; have c7b0 : decide (0 ≤ x4_1) = true := decide_eq_true c7; clear c7
     by_cases c8 : x4_1 < (x3_1.length : Int)
     rotate_left
     ·rw [if_neg c8] at H
      exact absurd H (by simp)
     rw [if_pos c8] at H
     have c8b0 : decide (x4_1 < (x3_1.length : Int)) = true := decide_eq_true c8
     clear c8
     obtain ⟨y283, hy283⟩ : ∃ y_ : List Int, y_ = (x3_1.set (x4_1 : Int).toNat ((wrap64 ((Int.tmod x0_1 256) + 256)) % 256)) := ⟨_, rfl⟩
     replace H : (if x4_1 = 0 then (thalwegref01_Int.l0 k1 0 y283 (wrap64 (x4_1 - 1))) else (thalwegref01_Int.l0 k1 (wrap64 (Int.tdiv (wrap64 (x0_1 - (wrap64 ((Int.tmod x0_1 256) + 256)))) 256)) y283 (wrap64 (x4_1 - 1)))) = some r := by first | (rw [hy283]; with_reducible exact H) | (have H2_ := (Option.bind_some _ _).symm.trans H; rw [hy283]; with_reducible exact H2_) | (have H2_ := (Option.bind_some _ _).symm.trans H; with_reducible exact H2_) | with_reducible exact H | (rw [hy283]; exact H) | exact H
     have Ny283 := YD hy283; clear hy283
     by_cases c10 : x4_1 = 0
     ·rw [if_pos c10] at H
      have c10b0 : (x4_1 == 0) = true := beq_iff_eq.mpr c10
      have c10b1 : (x4_1 != 0) = false := bne_eq_false_iff_eq.mpr c10
      clear c10
      have H' := YD H
      clear H
      have p9 : 0 ≤ (x4_1 : Int) := of_decide_eq_true (by first | (with_reducible assumption) | assumption)
      have q9 : (x4_1 : Int) < ((x3_1.length : Int) : Int) := of_decide_eq_true (by first | (with_reducible assumption) | assumption)
      obtain ⟨go9, co9, eo9, gb9, gl9, cl9, HG9⟩ := Kd.R_form HO_3.out (by omega)
      (first | cases eo9 | (injection eo9 with ea_ en_ ec_; (first | subst ea_ | (injection ea_ with ea_; subst ea_)); subst ec_; clear en_))
      have GB9 := YD gb9; have GG9 := YD HG9; clear gb9 gl9 HG9
      obtain ⟨hx9_0, hf9_0⟩ := Kd.R_celln 0 HO_3.out (x4_1 : Int) p9 q9
      replace p9 := eq_true p9
      replace q9 := eq_true q9
      have HP11 := Kd.R_putg HO_3.out (x4_1 : Int) ((wrap64 ((Int.tmod x0_1 256) + 256)) % 256)
      go_wp2_with (first | ((with_reducible refine gate_store (t := 5) (p := 21) rfl ?_); refine store_event (t := 5) (p := 21) (v := ?vo_w12) (w1 := (wr.setCell ⟨go9, (x4_1 : Int).toNat, none⟩ (.int .u8 ((wrap64 ((Int.tmod x0_1 256) + 256)) % 256)))) ?hg ?ho ?hn ?hr ?_; (case ho => rfl); (case hg => rfl); (case hn => rfl); (case hr => first | (go_simp; done) | (go_simp; rfl)); intro w12 hw; have hg : wr.grownBy w12 (some go9) := (by rw [hw]; exact HP11.2); have hp_ : Kd.R (Kd.int .u8) 5 w12 w.heap.size (fun _ => True) (.slice (some ⟨go9, 0, none⟩) x3_1.length co9) y283 := (by rw [hw, Ny283.out]; exact HP11.1); clear HP11; have n0_ := YD (hp_); have n1_ := YD ((by rw [hw]; exact below_set (HB.out) GB9.out : Below w.heap.size w w12)); clear HO_3; clear HB; have HO_3 := n0_; have HB := n1_; clear n0_ n1_; clear hg hw hp_))
      go_roundg k1
      case measure => have := HK1.out; omega
      case rel => exact ⟨(0), (y283), (wrap64 (x4_1 - 1)), (by first | rfl | (simp; done) | (simp [*]; done)), (by first | rfl | (simp; done) | (simp [*]; done)), H', ⟨by have := HK1.out; omega⟩, ⟨by (with_reducible repeat (first | apply YE | apply YF | apply YG)); exact HO_3.out⟩, ⟨by repeat (first | (with_reducible first | exact HB.out | apply YA | apply YB | apply YC) | exact HB.out)⟩⟩
     rw [if_neg c10] at H
     have c10b0 : (x4_1 == 0) = false := beq_eq_false_iff_ne.mpr c10
     have c10b1 : (x4_1 != 0) = true := bne_iff_ne.mpr c10
     have H' := YD H
     clear H
     have p9 : 0 ≤ (x4_1 : Int) := of_decide_eq_true (by first | (with_reducible assumption) | assumption)
     have q9 : (x4_1 : Int) < ((x3_1.length : Int) : Int) := of_decide_eq_true (by first | (with_reducible assumption) | assumption)
     obtain ⟨go9, co9, eo9, gb9, gl9, cl9, HG9⟩ := Kd.R_form HO_3.out (by omega)
     (first | cases eo9 | (injection eo9 with ea_ en_ ec_; (first | subst ea_ | (injection ea_ with ea_; subst ea_)); subst ec_; clear en_))
     have GB9 := YD gb9; have GG9 := YD HG9; clear gb9 gl9 HG9
     obtain ⟨hx9_0, hf9_0⟩ := Kd.R_celln 0 HO_3.out (x4_1 : Int) p9 q9
     replace p9 := eq_true p9
     replace q9 := eq_true q9
     have HP13 := Kd.R_putg HO_3.out (x4_1 : Int) ((wrap64 ((Int.tmod x0_1 256) + 256)) % 256)
     go_wp2_with (first | ((with_reducible refine gate_store (t := 5) (p := 21) rfl ?_); refine store_event (t := 5) (p := 21) (v := ?vo_w14) (w1 := (wr.setCell ⟨go9, (x4_1 : Int).toNat, none⟩ (.int .u8 ((wrap64 ((Int.tmod x0_1 256) + 256)) % 256)))) ?hg ?ho ?hn ?hr ?_; (case ho => rfl); (case hg => rfl); (case hn => rfl); (case hr => first | (go_simp; done) | (go_simp; rfl)); intro w14 hw; have hg : wr.grownBy w14 (some go9) := (by rw [hw]; exact HP13.2); have hp_ : Kd.R (Kd.int .u8) 5 w14 w.heap.size (fun _ => True) (.slice (some ⟨go9, 0, none⟩) x3_1.length co9) y283 := (by rw [hw, Ny283.out]; exact HP13.1); clear HP13; have n0_ := YD (hp_); have n1_ := YD ((by rw [hw]; exact below_set (HB.out) GB9.out : Below w.heap.size w w14)); clear HO_3; clear HB; have HO_3 := n0_; have HB := n1_; clear n0_ n1_; clear hg hw hp_))
     go_roundg k1
     case measure => have := HK1.out; omega
     case rel => exact ⟨(wrap64 (Int.tdiv (wrap64 (x0_1 - (wrap64 ((Int.tmod x0_1 256) + 256)))) 256)), (y283), (wrap64 (x4_1 - 1)), (by first | rfl | (simp; done) | (simp [*]; done)), (by first | rfl | (simp; done) | (simp [*]; done)), H', ⟨by have := HK1.out; omega⟩, ⟨by (with_reducible repeat (first | apply YE | apply YF | apply YG)); exact HO_3.out⟩, ⟨by repeat (first | (with_reducible first | exact HB.out | apply YA | apply YB | apply YC) | exact HB.out)⟩⟩
    rw [if_neg c6] at H; have c6b0 : decide ((Int.tmod x0_1 256) < 0) = false := decide_eq_false c6; clear c6
    by_cases c15 : 0 ≤ x4_1
    rotate_left
    ·rw [if_neg c15] at H
     exact absurd H (by simp)
    rw [if_pos c15] at H; have c15b0 : decide (0 ≤ x4_1) = true := decide_eq_true c15; clear c15
    by_cases c16 : x4_1 < (x3_1.length : Int)
    rotate_left
    ·rw [if_neg c16] at H
     exact absurd H (by simp)
    rw [if_pos c16] at H
    have c16b0 : decide (x4_1 < (x3_1.length : Int)) = true := decide_eq_true c16
    clear c16
    obtain ⟨y284, hy284⟩ : ∃ y_ : List Int, y_ = (x3_1.set (x4_1 : Int).toNat ((Int.tmod x0_1 256) % 256)) := ⟨_, rfl⟩
    replace H : (if x4_1 = 0 then (thalwegref01_Int.l0 k1 0 y284 (wrap64 (x4_1 - 1))) else (thalwegref01_Int.l0 k1 (wrap64 (Int.tdiv (wrap64 (x0_1 - (Int.tmod x0_1 256))) 256)) y284 (wrap64 (x4_1 - 1)))) = some r := by first | (rw [hy284]; with_reducible exact H) | (have H2_ := (Option.bind_some _ _).symm.trans H; rw [hy284]; with_reducible exact H2_) | (have H2_ := (Option.bind_some _ _).symm.trans H; with_reducible exact H2_) | with_reducible exact H | (rw [hy284]; exact H) | exact H
    have Ny284 := YD hy284; clear hy284
    by_cases c18 : x4_1 = 0
    ·rw [if_pos c18] at H
     have c18b0 : (x4_1 == 0) = true := beq_iff_eq.mpr c18
     have c18b1 : (x4_1 != 0) = false := bne_eq_false_iff_eq.mpr c18
     clear c18
     have H' := YD H
     clear H
     have p17 : 0 ≤ (x4_1 : Int) := of_decide_eq_true (by first | (with_reducible assumption) | assumption)
     have q17 : (x4_1 : Int) < ((x3_1.length : Int) : Int) := of_decide_eq_true (by first | (with_reducible assumption) | assumption)
     obtain ⟨go17, co17, eo17, gb17, gl17, cl17, HG17⟩ := Kd.R_form HO_3.out (by omega)
     (first | cases eo17 | (injection eo17 with ea_ en_ ec_; (first | subst ea_ | (injection ea_ with ea_; subst ea_)); subst ec_; clear en_))
     have GB17 := YD gb17; have GG17 := YD HG17; clear gb17 gl17 HG17
     obtain ⟨hx17_0, hf17_0⟩ := Kd.R_celln 0 HO_3.out (x4_1 : Int) p17 q17
     replace p17 := eq_true p17
     replace q17 := eq_true q17
     have HP19 := Kd.R_putg HO_3.out (x4_1 : Int) ((Int.tmod x0_1 256) % 256)
     go_wp2_with (first | ((with_reducible refine gate_store (t := 5) (p := 21) rfl ?_); refine store_event (t := 5) (p := 21) (v := ?vo_w20) (w1 := (wr.setCell ⟨go17, (x4_1 : Int).toNat, none⟩ (.int .u8 ((Int.tmod x0_1 256) % 256)))) ?hg ?ho ?hn ?hr ?_; (case ho => rfl); (case hg => rfl); (case hn => rfl); (case hr => first | (go_simp; done) | (go_simp; rfl)); intro w20 hw; have hg : wr.grownBy w20 (some go17) := (by rw [hw]; exact HP19.2); have hp_ : Kd.R (Kd.int .u8) 5 w20 w.heap.size (fun _ => True) (.slice (some ⟨go17, 0, none⟩) x3_1.length co17) y284 := (by rw [hw, Ny284.out]; exact HP19.1); clear HP19; have n0_ := YD (hp_); have n1_ := YD ((by rw [hw]; exact below_set (HB.out) GB17.out : Below w.heap.size w w20)); clear HO_3; clear HB; have HO_3 := n0_; have HB := n1_; clear n0_ n1_; clear hg hw hp_))
     go_roundg k1
     case measure => have := HK1.out; omega
     case rel => exact ⟨(0), (y284), (wrap64 (x4_1 - 1)), (by first | rfl | (simp; done) | (simp [*]; done)), (by first | rfl | (simp; done) | (simp [*]; done)), H', ⟨by have := HK1.out; omega⟩, ⟨by (with_reducible repeat (first | apply YE | apply YF | apply YG)); exact HO_3.out⟩, ⟨by repeat (first | (with_reducible first | exact HB.out | apply YA | apply YB | apply YC) | exact HB.out)⟩⟩
    rw [if_neg c18] at H
    have c18b0 : (x4_1 == 0) = false := beq_eq_false_iff_ne.mpr c18
    have c18b1 : (x4_1 != 0) = true := bne_iff_ne.mpr c18
    have H' := YD H
    clear H
    have p17 : 0 ≤ (x4_1 : Int) := of_decide_eq_true (by first | (with_reducible assumption) | assumption)
    have q17 : (x4_1 : Int) < ((x3_1.length : Int) : Int) := of_decide_eq_true (by first | (with_reducible assumption) | assumption)
    obtain ⟨go17, co17, eo17, gb17, gl17, cl17, HG17⟩ := Kd.R_form HO_3.out (by omega)
    (first | cases eo17 | (injection eo17 with ea_ en_ ec_; (first | subst ea_ | (injection ea_ with ea_; subst ea_)); subst ec_; clear en_))
    have GB17 := YD gb17; have GG17 := YD HG17; clear gb17 gl17 HG17
    obtain ⟨hx17_0, hf17_0⟩ := Kd.R_celln 0 HO_3.out (x4_1 : Int) p17 q17
    replace p17 := eq_true p17
    replace q17 := eq_true q17
    have HP21 := Kd.R_putg HO_3.out (x4_1 : Int) ((Int.tmod x0_1 256) % 256)
    go_wp2_with (first | ((with_reducible refine gate_store (t := 5) (p := 21) rfl ?_); refine store_event (t := 5) (p := 21) (v := ?vo_w22) (w1 := (wr.setCell ⟨go17, (x4_1 : Int).toNat, none⟩ (.int .u8 ((Int.tmod x0_1 256) % 256)))) ?hg ?ho ?hn ?hr ?_; (case ho => rfl); (case hg => rfl); (case hn => rfl); (case hr => first | (go_simp; done) | (go_simp; rfl)); intro w22 hw; have hg : wr.grownBy w22 (some go17) := (by rw [hw]; exact HP21.2); have hp_ : Kd.R (Kd.int .u8) 5 w22 w.heap.size (fun _ => True) (.slice (some ⟨go17, 0, none⟩) x3_1.length co17) y284 := (by rw [hw, Ny284.out]; exact HP21.1); clear HP21; have n0_ := YD (hp_); have n1_ := YD ((by rw [hw]; exact below_set (HB.out) GB17.out : Below w.heap.size w w22)); clear HO_3; clear HB; have HO_3 := n0_; have HB := n1_; clear n0_ n1_; clear hg hw hp_))
    go_roundg k1
    case measure => have := HK1.out; omega
    case rel => exact ⟨(wrap64 (Int.tdiv (wrap64 (x0_1 - (Int.tmod x0_1 256))) 256)), (y284), (wrap64 (x4_1 - 1)), (by first | rfl | (simp; done) | (simp [*]; done)), (by first | rfl | (simp; done) | (simp [*]; done)), H', ⟨by have := HK1.out; omega⟩, ⟨by (with_reducible repeat (first | apply YE | apply YF | apply YG)); exact HO_3.out⟩, ⟨by repeat (first | (with_reducible first | exact HB.out | apply YA | apply YB | apply YC) | exact HB.out)⟩⟩
   rw [if_neg c5] at H; have c5b0 : decide (0 ≤ x4_1) = false := decide_eq_false c5; clear c5
   obtain rfl := Option.some.inj H
   go_wp2
   go_ret
   exact ⟨_, by first | rfl | (simp [errW_none, errW_some] <;> rfl) | (simp [*, errW_none, errW_some] <;> rfl), by (with_reducible repeat (first | apply YE | apply YF | apply YG)); exact HO_3.out, by repeat (first | (with_reducible first | exact HB.out | apply YA | apply YB | apply YC) | exact HB.out)⟩
end Go.Proofs.Ytclbempnhelmoaa.P
namespace Go.Proofs.Ytclbempnhelmoaa.P
open Go.RowKit YtclbempnhelmoaaW.PrintWords YtclbempnhelmoaaW.PrintLast YtclbempnhelmoaaW.PrintMore
open YtclbempnhelmoaaW.PrintWords renaming below_alloc → YA, pw_below_drewN → YB, below_drew1 → YC
open YtclbempnhelmoaaW.PrintWords.Aside0 renaming mk → YD
attribute [local go_sem] max2_int min2_int max_two min_two max_three min_three max_four min_four
def thalwegref01_Both.l0 : Nat → List (List Int) → List Int → Int → Option (List Int)
 | 0, _, _, _ => none
 | k + 1, x0, x3, x4 => if x4 < (x0.length : Int) then (if 0 ≤ x4 then (if x3.length + (rd_L10 x0 x4).length < 140737488355328 then (thalwegref01_Both.l0 k x0 (x3 ++ (rd_L10 x0 x4)) (wrap64 (x4 + 1))) else (none)) else (none)) else (some x3)
def thalwegref01_Both.f (k : Nat) (l0 : List (List Int)) : Option (List Int) := thalwegref01_Both.l0 k l0 ([] : List Int) 0
theorem thalwegref01_Both.mono_l : ∀ k, (∀ y0 y1 y2, LeO (thalwegref01_Both.l0 k y0 y1 y2) (thalwegref01_Both.l0 (k + 1) y0 y1 y2))
 | 0 => fun _ _ _ r h => by simp [thalwegref01_Both.l0] at h
 | k + 1 => by
  have ih0 := thalwegref01_Both.mono_l k
  ·intro y0 y1 y2
   unfold thalwegref01_Both.l0
   repeat' first
   | (with_reducible exact ih0 _ _ _)
   | (with_reducible exact LeO.refl _)
   | (with_reducible exact LeO.none _)
   | (with_reducible refine LeO.ite ?_ ?_)
   | (with_reducible refine LeO.bind ?_ (fun _ => ?_))
   | exact ih0 _ _ _
   | exact LeO.none _
   | refine LeO.ite ?_ ?_
   | refine LeO.bind ?_ (fun _ => ?_)
theorem thalwegref01_Both.mono : ∀ a0 k, LeO (thalwegref01_Both.f k a0) (thalwegref01_Both.f (k + 1) a0) := by
 intro a0 k
 have ih0 := thalwegref01_Both.mono_l k
 unfold thalwegref01_Both.f
 repeat' first
   | (with_reducible exact ih0 _ _ _)
   | (with_reducible exact LeO.refl _)
   | (with_reducible exact LeO.none _)
   | (with_reducible refine LeO.ite ?_ ?_)
   | (with_reducible refine LeO.bind ?_ (fun _ => ?_))
   | exact ih0 _ _ _
   | exact LeO.none _
   | refine LeO.ite ?_ ?_
   | refine LeO.bind ?_ (fun _ => ?_)
theorem thalwegref01_Both.calls (k : Nat) (A0 : Option Addr) (c0 : Nat) (l0 : List (List Int)) (r : List Int) (w : World) (hr0 : Kd.C (Kd.slice 5 (Kd.int .u8)) w A0 l0.length l0) (hc0 : l0.length ≤ c0) (h : thalwegref01_Both.f k l0 = some r) :
  Calls Try.prog 74 #[.slice A0 l0.length c0] w fun e w' => ∃ v0_ : Value, e = .returned (v0_) ∧ Kd.R (Kd.int .u8) 5 w' w.heap.size (fun _ => True) v0_ r ∧ Below w.heap.size w w' := by
 have HR0 := YD hr0; have HC0 := YD hc0; clear hr0 hc0
 have HB := YD (Below.refl w.heap.size w)
 have H : (thalwegref01_Both.l0 k l0 ([] : List Int) 0) = some r := h
 clear h
 have H' := YD H
 clear H
 go_enter Try.func74, Try.ntmps74
 go_wp2
 go_loopg [3, 4] k (fun kq v3 v4 w' => ∃ (x3_1 : List Int) (x4_1 : Int), v4 = .int .i64 x4_1 ∧ Aside0 (thalwegref01_Both.l0 kq l0 x3_1 x4_1 = some r) ∧ Aside0 (kq ≤ k) ∧ Aside0 (Kd.R (Kd.int .u8) 5 w' w.heap.size (fun _ => True) v3 x3_1) ∧ Aside0 (Below w.heap.size w w'))
 case atStart => exact ⟨(([] : List Int)), (0), (by first | rfl | (simp; done) | (simp [*]; done)), H', ⟨Nat.le_refl _⟩, ⟨by first | exact Kd.R_nil _ _ _ _ _ | exact Kd.N_nil _ _ _ _ _ | exact Kd.V_nil _ _ _ _ _ | exact Kd.Q_nil _ _ _ _ _ | exact Kd.S_nil _ _ _ _ _⟩, ⟨by repeat (first | (with_reducible first | exact HB.out | apply YA | apply YB | apply YC) | exact HB.out)⟩⟩
 case round =>
  clear H'
  obtain ⟨x3_1, x4_1, rfl, HA, HK1, HO_3, HB⟩ := hrel
  cases gk with
  | zero => exact absurd HA.out (by simp [thalwegref01_Both.l0])
  | succ k1 =>
   have H := HA.out
   clear HA
   simp only [thalwegref01_Both.l0] at H
   by_cases c2 : x4_1 < (l0.length : Int)
   ·rw [if_pos c2] at H
    have c2b0 : decide (x4_1 < (l0.length : Int)) = true := decide_eq_true c2
    clear c2
    by_cases c3 : 0 ≤ x4_1
    rotate_left
    ·rw [if_neg c3] at H
     exact absurd H (by simp)
    rw [if_pos c3] at H; have c3b0 : decide (0 ≤ x4_1) = true := decide_eq_true c3; clear c3
    by_cases c4 : x3_1.length + (rd_L10 l0 x4_1).length < 140737488355328
    rotate_left
    ·rw [if_neg c4] at H
     exact absurd H (by simp)
    rw [if_pos c4] at H; have LMc4 := YD c4; clear c4
    obtain ⟨y286, hy286⟩ : ∃ y_ : List Int, y_ = (x3_1 ++ (rd_L10 l0 x4_1)) := ⟨_, rfl⟩
    replace H : (thalwegref01_Both.l0 k1 l0 y286 (wrap64 (x4_1 + 1))) = some r := by first | (rw [hy286]; with_reducible exact H) | (have H2_ := (Option.bind_some _ _).symm.trans H; rw [hy286]; with_reducible exact H2_) | (have H2_ := (Option.bind_some _ _).symm.trans H; with_reducible exact H2_) | with_reducible exact H | (rw [hy286]; exact H) | exact H
    have Ny286 := YD hy286; clear hy286
    have H' := YD H
    clear H
    have p285 : 0 ≤ (x4_1 : Int) := of_decide_eq_true (by first | (with_reducible assumption) | assumption)
    have q285 : x4_1 < (l0.length : Int) := of_decide_eq_true (by first | (with_reducible assumption) | assumption)
    obtain ⟨ad285, A285_0, c285_0, e285, hx285_0, hl285_0, hi285_0⟩ := at_L10 HR0.out x4_1 p285 q285
    cases e285
    replace hx285_0 := (HB.out.cell (World.block_lt_of_cell? w _ hx285_0)).trans hx285_0
    have HR285_0 := YD hi285_0; have HC285_0 := YD hl285_0; clear hi285_0 hl285_0
    replace p285 := eq_true p285
    replace q285 := eq_true q285
    go_wp2_with (first | ((with_reducible refine gate_builtin (b := .append) (xs := #[.tmp 11, .tmp 15]) rfl ?_); at_builtin; refine Kd.R_append_rows (Kd.int .u8) (w0 := w) w.heap.size rfl (.tmp 11) (.tmp 15) 107 5 (.int .u8 0) 1 rfl Try.underlying107 info5 rfl (by decide) (by omega) u3 x3_1 (rd_L10 l0 x4_1) _ _ _ (fun _ => True) (fun _ => False) rfl rfl ?aO ?aR (fun _ _ h => h) (fun _ h => h.elim) ?aF ?aB ?aS ?aL ?_; (case aR => repeat (first | exact (Kd.C_below HR285_0.out HB.out) | (with_reducible refine Kd.C_alloc ?_ _) | (with_reducible refine Kd.C_drewN ?_ _) | (with_reducible refine Kd.C_drew ?_))); (case aB => exact (upB HB)); (case aF => exact (fun _ _ => trivial)); (case aO => exact (upR HO_3)); (case aS => exact (below_size (upB HB))); (case aL => have := LMc4.out; omega); intro v287 w5 ho hb hg hat; rw [← Ny286.out] at ho; have n0_ := YD (hb); have n1_ := YD (ho); clear HB; clear HO_3; have HB := n0_; have HO288 := n1_; clear n0_ n1_; clear ho hb hg hat))
    go_roundg k1
    case measure => have := HK1.out; omega
    case rel => exact ⟨(y286), (wrap64 (x4_1 + 1)), (by first | rfl | (simp; done) | (simp [*]; done)), H', ⟨by have := HK1.out; omega⟩, ⟨by (with_reducible repeat (first | apply Kd.R_alloc | apply Kd.R_drewN | apply Kd.R_drew)); exact HO288.out⟩, ⟨by repeat (first | (with_reducible first | exact HB.out | apply YA | apply YB | apply YC) | exact HB.out)⟩⟩
   rw [if_neg c2] at H
   have c2b0 : decide (x4_1 < (l0.length : Int)) = false := decide_eq_false c2
   clear c2
   obtain rfl := Option.some.inj H
   go_wp2
   go_ret
   exact ⟨_, by first | rfl | (simp [errW_none, errW_some] <;> rfl) | (simp [*, errW_none, errW_some] <;> rfl), by (with_reducible repeat (first | apply Kd.R_alloc | apply Kd.R_drewN | apply Kd.R_drew)); exact HO_3.out, by repeat (first | (with_reducible first | exact HB.out | apply YA | apply YB | apply YC) | exact HB.out)⟩
end Go.Proofs.Ytclbempnhelmoaa.P
namespace Go.Proofs.Ytclbempnhelmoaa.P
open Go.RowKit YtclbempnhelmoaaW.PrintWords YtclbempnhelmoaaW.PrintLast YtclbempnhelmoaaW.PrintMore
open YtclbempnhelmoaaW.PrintWords renaming below_alloc → YA, pw_below_drewN → YB, below_drew1 → YC, blk_cell → YD, blk_frozen → YE
open YtclbempnhelmoaaW.PrintWords.Aside0 renaming mk → YF
attribute [local go_sem] max2_int min2_int max_two min_two max_three min_three max_four min_four
attribute [local go_sem high] eqA30
def thalwegref02_Right.j0 : Nat → Bool → Bool → Int → Int → Int → Int → Int → Option (Bool)
 | 0, _, _, _, _, _, _, _ => none
 | k + 1, x10, x270000, x270001, x270002, x270003, x270004, x270005 => if x10 = true then (some false) else (if x270000 = true then (some (x270001 == 0 && (x270002 == 0 && (x270003 == 0 && (x270004 == 0))))) else (if x270001 ≥ 0 then (if x270001 ≤ 4611686018427387903 then (if x270002 ≥ 0 then (if x270002 < 64 then (if x270003 = 0 then (if x270004 ≥ (-1099511627776) then (some (decide (x270004 ≤ 1099511627776))) else (some false)) else (if x270003 = 1 then (if x270004 ≥ (-1099511627776) then (some (decide (x270004 ≤ 1099511627776))) else (some false)) else (some false))) else (some false)) else (some false)) else (some false)) else (some false)))
def thalwegref02_Right.f (k : Nat) (a0_0 : Bool) (a0_1 : Int) (a0_2 : Int) (a0_3 : Int) (a0_4 : Int) (a0_5 : Int) : Option (Bool) := if a0_5 < 0 then (thalwegref02_Right.j0 k true a0_0 a0_1 a0_2 a0_3 a0_4 a0_5) else (thalwegref02_Right.j0 k (decide (a0_5 ≥ 64)) a0_0 a0_1 a0_2 a0_3 a0_4 a0_5)
theorem thalwegref02_Right.mono_l : ∀ k, (∀ y0 y1 y2 y3 y4 y5 y6, LeO (thalwegref02_Right.j0 k y0 y1 y2 y3 y4 y5 y6) (thalwegref02_Right.j0 (k + 1) y0 y1 y2 y3 y4 y5 y6))
 | 0 => fun _ _ _ _ _ _ _ r h => by simp [thalwegref02_Right.j0] at h
 | k + 1 => by
  have ih0 := thalwegref02_Right.mono_l k
  ·intro y0 y1 y2 y3 y4 y5 y6
   unfold thalwegref02_Right.j0
   repeat' first
   | (with_reducible exact ih0 _ _ _ _ _ _ _)
   | (with_reducible exact LeO.refl _)
   | (with_reducible exact LeO.none _)
   | (with_reducible refine LeO.ite ?_ ?_)
   | (with_reducible refine LeO.bind ?_ (fun _ => ?_))
   | exact ih0 _ _ _ _ _ _ _
   | exact LeO.none _
   | refine LeO.ite ?_ ?_
   | refine LeO.bind ?_ (fun _ => ?_)
theorem thalwegref02_Right.mono : ∀ a0 a1 a2 a3 a4 a5 k, LeO (thalwegref02_Right.f k a0 a1 a2 a3 a4 a5) (thalwegref02_Right.f (k + 1) a0 a1 a2 a3 a4 a5) := by
 intro a0 a1 a2 a3 a4 a5 k
 have ih0 := thalwegref02_Right.mono_l k
 unfold thalwegref02_Right.f
 repeat' first
   | (with_reducible exact ih0 _ _ _ _ _ _ _)
   | (with_reducible exact LeO.refl _)
   | (with_reducible exact LeO.none _)
   | (with_reducible refine LeO.ite ?_ ?_)
   | (with_reducible refine LeO.bind ?_ (fun _ => ?_))
   | exact ih0 _ _ _ _ _ _ _
   | exact LeO.none _
   | refine LeO.ite ?_ ?_
   | refine LeO.bind ?_ (fun _ => ?_)
theorem thalwegref02_Right.calls (k : Nat) (a0_0 : Bool) (a0_1 : Int) (a0_2 : Int) (a0_3 : Int) (a0_4 : Int) (a0_5 : Int) (r : Bool) (w : World) (h : thalwegref02_Right.f k a0_0 a0_1 a0_2 a0_3 a0_4 a0_5 = some r) :
  Calls Try.prog 59 #[.agg #[.bool a0_0, .int .i64 a0_1, .int .i64 a0_2, .int .i64 a0_3, .int .i64 a0_4, .int .i64 a0_5]] w fun e w' => e = .returned (.bool r) ∧ Below w.heap.size w w' := by
 have hu30 := Try.underlying30
 have HB := YF (Below.refl w.heap.size w)
 have H : (if a0_5 < 0 then (thalwegref02_Right.j0 k true a0_0 a0_1 a0_2 a0_3 a0_4 a0_5) else (thalwegref02_Right.j0 k (decide (a0_5 ≥ 64)) a0_0 a0_1 a0_2 a0_3 a0_4 a0_5)) = some r := h
 clear h; have HC2 := YF H; clear H
 go_enter Try.func59, Try.ntmps59
 go_upto_region 1 with (first | ((with_reducible refine gate_dst (N := 1) rfl ?_); refine box_event ?hg (N := 1) ?hd (cs := #[.bool a0_0, .int .i64 a0_1, .int .i64 a0_2, .int .i64 a0_3, .int .i64 a0_4, .int .i64 a0_5]) (t := 30) ?hr ?_; (case hd => rfl); (case hg => rfl); (case hr => first | (go_simp; done) | (go_simp; rfl)); intro gb269 hg w3 hbox hb; have n0_ := YF (below_step (upB HB) hb); have n1_ := YF (hbox); have n2_ := YF ((by rw [hg]; exact (below_size (upB HB)) : w.heap.size ≤ gb269)); have n3_ := YF ((by rw [hg]; exact (below_size (upB HB)) : w.heap.size ≤ gb269)); clear HB; have HB := n0_; have BK269 := n1_; have GW269 := n2_; have GE269 := n3_; clear n0_ n1_ n2_ n3_; clear hb hbox hg))
 (try simp only [Act.put, List.setIfInBounds_toArray, List.set_cons_zero, List.set_cons_succ])
 go_cut [10] (fun v10 wc => ∃ (kq : Nat) (x10_1 : Bool), v10 = .bool x10_1 ∧ Aside0 (thalwegref02_Right.j0 kq x10_1 a0_0 a0_1 a0_2 a0_3 a0_4 a0_5 = some r) ∧ Aside0 (kq ≤ k) ∧ Aside0 (wc.heap[gb269]? = some (.cells #[.bool a0_0, .int .i64 a0_1, .int .i64 a0_2, .int .i64 a0_3, .int .i64 a0_4, .int .i64 a0_5] 30 (0, 0))) ∧ Aside0 (Below w.heap.size w wc))
 case first =>
  have H := HC2.out
  clear HC2
  by_cases c4 : a0_5 < 0
  ·rw [if_pos c4] at H
   have c4b0 : decide (a0_5 < 0) = true := decide_eq_true c4; clear c4
   (first | rw [c4b0] | (simp only [i64_w, i32_w]; rw [c4b0]) | rw [c4b1] | skip)
   have H' := YF H
   clear H
   obtain ⟨q5_0, q5_1, q5_2, q5_3, q5_4, q5_5⟩ := cA6 BK269.out
   obtain ⟨f5_0, f5_1, f5_2, f5_3, f5_4, f5_5⟩ := fA6 BK269.out
   go_wp2
   go_meet
   case rel => exact ⟨_, (true), (by first | rfl | (simp; done) | (simp [*]; done)), H', ⟨by first | omega | exact Nat.le_refl _⟩, ⟨by (with_reducible repeat (first | refine blk_drewN ?_ _ | refine blk_drew ?_ | refine blk_alloc ?_ _)); exact BK269.out⟩, ⟨by repeat (first | (with_reducible first | exact HB.out | apply YA | apply YB | apply YC | refine below_set ?_ GE269.out) | exact HB.out)⟩⟩
  rw [if_neg c4] at H; have c4b0 : decide (a0_5 < 0) = false := decide_eq_false c4; clear c4
  (first | rw [c4b0] | (simp only [i64_w, i32_w]; rw [c4b0]) | rw [c4b1] | skip)
  have H' := YF H
  clear H
  obtain ⟨q6_0, q6_1, q6_2, q6_3, q6_4, q6_5⟩ := cA6 BK269.out
  obtain ⟨f6_0, f6_1, f6_2, f6_3, f6_4, f6_5⟩ := fA6 BK269.out
  go_wp2
  go_meet
  case rel => exact ⟨_, (decide (a0_5 ≥ 64)), (by first | rfl | (simp; done) | (simp [*]; done)), H', ⟨by first | omega | exact Nat.le_refl _⟩, ⟨by (with_reducible repeat (first | refine blk_drewN ?_ _ | refine blk_drew ?_ | refine blk_alloc ?_ _)); exact BK269.out⟩, ⟨by repeat (first | (with_reducible first | exact HB.out | apply YA | apply YB | apply YC | refine below_set ?_ GE269.out) | exact HB.out)⟩⟩
 case rest =>
  clear HC2
  try clear p2; try clear c4
  try clear c4b0; try clear c5
  try clear q5_0; try clear q5_1
  try clear q5_2; try clear q5_3
  try clear q5_4; try clear q5_5
  try clear q6_0; try clear q6_1
  try clear q6_2; try clear q6_3
  try clear q6_4; try clear q6_5
  try clear f5_0; try clear f5_1
  try clear f5_2; try clear f5_3
  try clear f5_4; try clear f5_5
  try clear f6_0; try clear f6_1
  try clear f6_2; try clear f6_3
  try clear f6_4; try clear f6_5
  obtain ⟨kq, x10_1, rfl, HA, HJ1, BK269, HB⟩ := hcut
  cases kq with
  | zero => exact absurd HA.out (by simp [thalwegref02_Right.j0])
  | succ kj1 =>
   have H := HA.out
   clear HA
   simp only [thalwegref02_Right.j0] at H
   by_cases c7 : x10_1 = true
   ·subst c7
    have H1 : (some false) = some r := by rw [if_pos rfl] at H; exact H
    clear H
    have H := H1
    clear H1
    obtain rfl := Option.some.inj H
    go_wp2
    go_ret
    exact ⟨by first | rfl | (simp [errW_none, errW_some] <;> rfl) | (simp [*, errW_none, errW_some] <;> rfl), by repeat (first | (with_reducible first | exact HB.out | apply YA | apply YB | apply YC | refine below_set ?_ GE269.out) | exact HB.out)⟩
   replace c7 := Bool.eq_false_iff.mpr c7
   subst c7
   have H1 : (if a0_0 = true then (some (a0_1 == 0 && (a0_2 == 0 && (a0_3 == 0 && (a0_4 == 0))))) else (if a0_1 ≥ 0 then (if a0_1 ≤ 4611686018427387903 then (if a0_2 ≥ 0 then (if a0_2 < 64 then (if a0_3 = 0 then (if a0_4 ≥ (-1099511627776) then (some (decide (a0_4 ≤ 1099511627776))) else (some false)) else (if a0_3 = 1 then (if a0_4 ≥ (-1099511627776) then (some (decide (a0_4 ≤ 1099511627776))) else (some false)) else (some false))) else (some false)) else (some false)) else (some false)) else (some false))) = some r := by rw [if_neg (show ¬ (false = true) by decide)] at H; exact H
   clear H
   have H := H1
   clear H1
   by_cases c8 : a0_0 = true
   ·subst c8
    have H1 : (some (a0_1 == 0 && (a0_2 == 0 && (a0_3 == 0 && (a0_4 == 0))))) = some r := by rw [if_pos rfl] at H; exact H
    clear H
    have H := H1
    clear H1
    obtain rfl := Option.some.inj H
    obtain ⟨q9_0, q9_1, q9_2, q9_3, q9_4, q9_5⟩ := cA6 BK269.out
    obtain ⟨f9_0, f9_1, f9_2, f9_3, f9_4, f9_5⟩ := fA6 BK269.out
    go_wp2
    go_ret
    exact ⟨by first | rfl | (simp [errW_none, errW_some] <;> rfl) | (simp [*, errW_none, errW_some] <;> rfl), by repeat (first | (with_reducible first | exact HB.out | apply YA | apply YB | apply YC | refine below_set ?_ GE269.out) | exact HB.out)⟩
   replace c8 := Bool.eq_false_iff.mpr c8
   subst c8
   have H1 : (if a0_1 ≥ 0 then (if a0_1 ≤ 4611686018427387903 then (if a0_2 ≥ 0 then (if a0_2 < 64 then (if a0_3 = 0 then (if a0_4 ≥ (-1099511627776) then (some (decide (a0_4 ≤ 1099511627776))) else (some false)) else (if a0_3 = 1 then (if a0_4 ≥ (-1099511627776) then (some (decide (a0_4 ≤ 1099511627776))) else (some false)) else (some false))) else (some false)) else (some false)) else (some false)) else (some false)) = some r := by rw [if_neg (show ¬ (false = true) by decide)] at H; exact H
   clear H
   have H := H1
   clear H1
   by_cases c10 : a0_1 ≥ 0
   ·rw [if_pos c10] at H
    have c10b0 : decide (0 ≤ a0_1) = true := decide_eq_true c10; clear c10
    by_cases c11 : a0_1 ≤ 4611686018427387903
    ·rw [if_pos c11] at H
     have c11b0 : decide (a0_1 ≤ 4611686018427387903) = true := decide_eq_true c11; clear c11
     by_cases c12 : a0_2 ≥ 0
     ·rw [if_pos c12] at H
      have c12b0 : decide (0 ≤ a0_2) = true := decide_eq_true c12; clear c12
      by_cases c13 : a0_2 < 64
      ·rw [if_pos c13] at H
       have c13b0 : decide (a0_2 < 64) = true := decide_eq_true c13; clear c13
       by_cases c14 : a0_3 = 0
       ·rw [if_pos c14] at H
        have c14b0 : (a0_3 == 0) = true := beq_iff_eq.mpr c14
        have c14b1 : (a0_3 != 0) = false := bne_eq_false_iff_eq.mpr c14
        clear c14
        by_cases c15 : a0_4 ≥ (-1099511627776)
        ·rw [if_pos c15] at H
         have c15b0 : decide ((-1099511627776) ≤ a0_4) = true := decide_eq_true c15; clear c15
         obtain rfl := Option.some.inj H
         obtain ⟨q16_0, q16_1, q16_2, q16_3, q16_4, q16_5⟩ := cA6 BK269.out
         obtain ⟨f16_0, f16_1, f16_2, f16_3, f16_4, f16_5⟩ := fA6 BK269.out
         go_wp2
         go_ret
         exact ⟨by first | rfl | (simp [errW_none, errW_some] <;> rfl) | (simp [*, errW_none, errW_some] <;> rfl), by repeat (first | (with_reducible first | exact HB.out | apply YA | apply YB | apply YC | refine below_set ?_ GE269.out) | exact HB.out)⟩
        rw [if_neg c15] at H; have c15b0 : decide ((-1099511627776) ≤ a0_4) = false := decide_eq_false c15; clear c15
        obtain rfl := Option.some.inj H
        obtain ⟨q17_0, q17_1, q17_2, q17_3, q17_4, q17_5⟩ := cA6 BK269.out
        obtain ⟨f17_0, f17_1, f17_2, f17_3, f17_4, f17_5⟩ := fA6 BK269.out
        go_wp2
        go_ret
        exact ⟨by first | rfl | (simp [errW_none, errW_some] <;> rfl) | (simp [*, errW_none, errW_some] <;> rfl), by repeat (first | (with_reducible first | exact HB.out | apply YA | apply YB | apply YC | refine below_set ?_ GE269.out) | exact HB.out)⟩
       rw [if_neg c14] at H
       have c14b0 : (a0_3 == 0) = false := beq_eq_false_iff_ne.mpr c14
       have c14b1 : (a0_3 != 0) = true := bne_iff_ne.mpr c14
       by_cases c18 : a0_3 = 1
       ·rw [if_pos c18] at H
        have c18b0 : (a0_3 == 1) = true := beq_iff_eq.mpr c18
        have c18b1 : (a0_3 != 1) = false := bne_eq_false_iff_eq.mpr c18
        clear c18
        by_cases c19 : a0_4 ≥ (-1099511627776)
        ·rw [if_pos c19] at H
         have c19b0 : decide ((-1099511627776) ≤ a0_4) = true := decide_eq_true c19; clear c19
         obtain rfl := Option.some.inj H
         obtain ⟨q20_0, q20_1, q20_2, q20_3, q20_4, q20_5⟩ := cA6 BK269.out
         obtain ⟨f20_0, f20_1, f20_2, f20_3, f20_4, f20_5⟩ := fA6 BK269.out
         go_wp2
         go_ret
         exact ⟨by first | rfl | (simp [errW_none, errW_some] <;> rfl) | (simp [*, errW_none, errW_some] <;> rfl), by repeat (first | (with_reducible first | exact HB.out | apply YA | apply YB | apply YC | refine below_set ?_ GE269.out) | exact HB.out)⟩
        rw [if_neg c19] at H; have c19b0 : decide ((-1099511627776) ≤ a0_4) = false := decide_eq_false c19; clear c19
        obtain rfl := Option.some.inj H
        obtain ⟨q21_0, q21_1, q21_2, q21_3, q21_4, q21_5⟩ := cA6 BK269.out
        obtain ⟨f21_0, f21_1, f21_2, f21_3, f21_4, f21_5⟩ := fA6 BK269.out
        go_wp2
        go_ret
        exact ⟨by first | rfl | (simp [errW_none, errW_some] <;> rfl) | (simp [*, errW_none, errW_some] <;> rfl), by repeat (first | (with_reducible first | exact HB.out | apply YA | apply YB | apply YC | refine below_set ?_ GE269.out) | exact HB.out)⟩
       rw [if_neg c18] at H
       have c18b0 : (a0_3 == 1) = false := beq_eq_false_iff_ne.mpr c18
       have c18b1 : (a0_3 != 1) = true := bne_iff_ne.mpr c18
       obtain rfl := Option.some.inj H
       obtain ⟨q22_0, q22_1, q22_2, q22_3, q22_4, q22_5⟩ := cA6 BK269.out
       obtain ⟨f22_0, f22_1, f22_2, f22_3, f22_4, f22_5⟩ := fA6 BK269.out
       go_wp2
       go_ret
       exact ⟨by first | rfl | (simp [errW_none, errW_some] <;> rfl) | (simp [*, errW_none, errW_some] <;> rfl), by repeat (first | (with_reducible first | exact HB.out | apply YA | apply YB | apply YC | refine below_set ?_ GE269.out) | exact HB.out)⟩
      rw [if_neg c13] at H; have c13b0 : decide (a0_2 < 64) = false := decide_eq_false c13; clear c13
      obtain rfl := Option.some.inj H
      obtain ⟨q23_0, q23_1, q23_2, q23_3, q23_4, q23_5⟩ := cA6 BK269.out
      obtain ⟨f23_0, f23_1, f23_2, f23_3, f23_4, f23_5⟩ := fA6 BK269.out
      go_wp2
      go_ret
      exact ⟨by first | rfl | (simp [errW_none, errW_some] <;> rfl) | (simp [*, errW_none, errW_some] <;> rfl), by repeat (first | (with_reducible first | exact HB.out | apply YA | apply YB | apply YC | refine below_set ?_ GE269.out) | exact HB.out)⟩
     rw [if_neg c12] at H; have c12b0 : decide (0 ≤ a0_2) = false := decide_eq_false c12; clear c12
     obtain rfl := Option.some.inj H
     obtain ⟨q24_0, q24_1, q24_2, q24_3, q24_4, q24_5⟩ := cA6 BK269.out
     obtain ⟨f24_0, f24_1, f24_2, f24_3, f24_4, f24_5⟩ := fA6 BK269.out
     go_wp2
     go_ret
     exact ⟨by first | rfl | (simp [errW_none, errW_some] <;> rfl) | (simp [*, errW_none, errW_some] <;> rfl), by repeat (first | (with_reducible first | exact HB.out | apply YA | apply YB | apply YC | refine below_set ?_ GE269.out) | exact HB.out)⟩
    rw [if_neg c11] at H; have c11b0 : decide (a0_1 ≤ 4611686018427387903) = false := decide_eq_false c11; clear c11
    obtain rfl := Option.some.inj H
    obtain ⟨q25_0, q25_1, q25_2, q25_3, q25_4, q25_5⟩ := cA6 BK269.out
    obtain ⟨f25_0, f25_1, f25_2, f25_3, f25_4, f25_5⟩ := fA6 BK269.out
    go_wp2
    go_ret
    exact ⟨by first | rfl | (simp [errW_none, errW_some] <;> rfl) | (simp [*, errW_none, errW_some] <;> rfl), by repeat (first | (with_reducible first | exact HB.out | apply YA | apply YB | apply YC | refine below_set ?_ GE269.out) | exact HB.out)⟩
   rw [if_neg c10] at H; have c10b0 : decide (0 ≤ a0_1) = false := decide_eq_false c10; clear c10
   obtain rfl := Option.some.inj H
   obtain ⟨q26_0, q26_1, q26_2, q26_3, q26_4, q26_5⟩ := cA6 BK269.out
   obtain ⟨f26_0, f26_1, f26_2, f26_3, f26_4, f26_5⟩ := fA6 BK269.out
   go_wp2
   go_ret
   exact ⟨by first | rfl | (simp [errW_none, errW_some] <;> rfl) | (simp [*, errW_none, errW_some] <;> rfl), by repeat (first | (with_reducible first | exact HB.out | apply YA | apply YB | apply YC | refine below_set ?_ GE269.out) | exact HB.out)⟩
end Go.Proofs.Ytclbempnhelmoaa.P
namespace Go.Proofs.Ytclbempnhelmoaa.P
open Go.RowKit YtclbempnhelmoaaW.PrintWords YtclbempnhelmoaaW.PrintLast YtclbempnhelmoaaW.PrintMore
open YtclbempnhelmoaaW.PrintWords renaming below_alloc → YA, pw_below_drewN → YB, below_drew1 → YC, below_step → YD, below_size → YE, blk_cell → YF, blk_frozen → YG
open YtclbempnhelmoaaW.PrintWords.Aside0 renaming mk → YH
attribute [local go_sem] max2_int min2_int max_two min_two max_three min_three max_four min_four
def thalwegref02_Told.f (k : Nat) (a0_0 : Bool) (a0_1 : Int) (a0_2 : Int) (a0_3 : Int) (a0_4 : Int) (a0_5 : Int) : Option (Bool) := (thalwegref02_Right.f k a0_0 a0_1 a0_2 a0_3 a0_4 a0_5).bind fun t271 => (if t271 = true then (some (!a0_0)) else (some false))
theorem thalwegref02_Told.mono : ∀ a0 a1 a2 a3 a4 a5 k, LeO (thalwegref02_Told.f k a0 a1 a2 a3 a4 a5) (thalwegref02_Told.f (k + 1) a0 a1 a2 a3 a4 a5) := by
 intro a0 a1 a2 a3 a4 a5 k
 unfold thalwegref02_Told.f
 repeat' first
   | (with_reducible exact thalwegref02_Right.mono _ _ _ _ _ _ _)
   | (with_reducible exact LeO.refl _)
   | (with_reducible exact LeO.none _)
   | (with_reducible refine LeO.ite ?_ ?_)
   | (with_reducible refine LeO.bind ?_ (fun _ => ?_))
   | exact thalwegref02_Right.mono _ _ _ _ _ _ _
   | exact LeO.none _
   | refine LeO.ite ?_ ?_
   | refine LeO.bind ?_ (fun _ => ?_)
theorem thalwegref02_Told.calls (k : Nat) (a0_0 : Bool) (a0_1 : Int) (a0_2 : Int) (a0_3 : Int) (a0_4 : Int) (a0_5 : Int) (r : Bool) (w : World) (h : thalwegref02_Told.f k a0_0 a0_1 a0_2 a0_3 a0_4 a0_5 = some r) :
  Calls Try.prog 60 #[.agg #[.bool a0_0, .int .i64 a0_1, .int .i64 a0_2, .int .i64 a0_3, .int .i64 a0_4, .int .i64 a0_5]] w fun e w' => e = .returned (.bool r) ∧ Below w.heap.size w w' := by
 have hu30 := Try.underlying30
 have HB := YH (Below.refl w.heap.size w)
 have H : ((thalwegref02_Right.f k a0_0 a0_1 a0_2 a0_3 a0_4 a0_5).bind fun t271 => (if t271 = true then (some (!a0_0)) else (some false))) = some r := h
 clear h; replace H := Option.bind_eq_some_iff.mp H; obtain ⟨t271, A20, H⟩ := H
 replace H : (if t271 = true then (some (!a0_0)) else (some false)) = some r := H
 have A2 := YH A20; clear A20
 by_cases c3 : t271 = true
 ·subst c3
  have H1 : (some (!a0_0)) = some r := by rw [if_pos rfl] at H; exact H
  clear H
  have H := H1
  clear H1
  obtain rfl := Option.some.inj H
  go_enter Try.func60, Try.ntmps60
  go_wp2_with (first | ((with_reducible refine gate_dst (N := 1) rfl ?_); refine box_event ?hg (N := 1) ?hd (cs := #[.bool a0_0, .int .i64 a0_1, .int .i64 a0_2, .int .i64 a0_3, .int .i64 a0_4, .int .i64 a0_5]) (t := 30) ?hr ?_; (case hd => rfl); (case hg => rfl); (case hr => first | (go_simp; done) | (go_simp; rfl)); intro gb270 hg w4 hbox hb; have n0_ := YH (YD (upB HB) hb); have n1_ := YH (hbox); have n2_ := YH ((by rw [hg]; exact (YE (upB HB)) : w.heap.size ≤ gb270)); have n3_ := YH ((by rw [hg]; exact (YE (upB HB)) : w.heap.size ≤ gb270)); clear HB; have HB := n0_; have BK270 := n1_; have GW270 := n2_; have GE270 := n3_; clear n0_ n1_ n2_ n3_; clear hb hbox hg; obtain ⟨q5_0, q5_1, q5_2, q5_3, q5_4, q5_5⟩ := cA6 BK270.out; obtain ⟨f5_0, f5_1, f5_2, f5_3, f5_4, f5_5⟩ := fA6 BK270.out) | ((with_reducible refine gate_callee (f := 59) rfl ?_); refine goesA (some 4) Try.func59 #[.agg #[.bool a0_0, .int .i64 a0_1, .int .i64 a0_2, .int .i64 a0_3, .int .i64 a0_4, .int .i64 a0_5]] ?_; (with_reducible refine (thalwegref02_Right.calls k a0_0 a0_1 a0_2 a0_3 a0_4 a0_5 true _ A2.out).mono ?_); rintro e w6 ⟨rfl, hb⟩; refine ⟨_, rfl, ?_⟩; have n0_ := YH (blk_below (g := gb270) (o := .cells #[.bool a0_0, .int .i64 a0_1, .int .i64 a0_2, .int .i64 a0_3, .int .i64 a0_4, .int .i64 a0_5] 30 (0, 0)) (upK BK270) hb); have n1_ := YH (YD (upB HB) hb); clear BK270; clear HB; have BK270 := n0_; have HB := n1_; clear n0_ n1_; (try clear hb); (try clear hb2); (try clear hk); (try clear hi); obtain ⟨q7_0, q7_1, q7_2, q7_3, q7_4, q7_5⟩ := cA6 BK270.out; obtain ⟨f7_0, f7_1, f7_2, f7_3, f7_4, f7_5⟩ := fA6 BK270.out))
  go_ret
  exact ⟨by first | rfl | (simp [errW_none, errW_some] <;> rfl) | (simp [*, errW_none, errW_some] <;> rfl), by repeat (first | (with_reducible first | exact HB.out | apply YA | apply YB | apply YC | refine below_set ?_ GE270.out) | exact HB.out)⟩
 replace c3 := Bool.eq_false_iff.mpr c3
 subst c3
 have H1 : (some false) = some r := by rw [if_neg (show ¬ (false = true) by decide)] at H; exact H
 clear H
 have H := H1
 clear H1
 obtain rfl := Option.some.inj H
 go_enter Try.func60, Try.ntmps60
 go_wp2_with (first | ((with_reducible refine gate_dst (N := 1) rfl ?_); refine box_event ?hg (N := 1) ?hd (cs := #[.bool a0_0, .int .i64 a0_1, .int .i64 a0_2, .int .i64 a0_3, .int .i64 a0_4, .int .i64 a0_5]) (t := 30) ?hr ?_; (case hd => rfl); (case hg => rfl); (case hr => first | (go_simp; done) | (go_simp; rfl)); intro gb270 hg w8 hbox hb; have n0_ := YH (YD (upB HB) hb); have n1_ := YH (hbox); have n2_ := YH ((by rw [hg]; exact (YE (upB HB)) : w.heap.size ≤ gb270)); have n3_ := YH ((by rw [hg]; exact (YE (upB HB)) : w.heap.size ≤ gb270)); clear HB; have HB := n0_; have BK270 := n1_; have GW270 := n2_; have GE270 := n3_; clear n0_ n1_ n2_ n3_; clear hb hbox hg; obtain ⟨q9_0, q9_1, q9_2, q9_3, q9_4, q9_5⟩ := cA6 BK270.out; obtain ⟨f9_0, f9_1, f9_2, f9_3, f9_4, f9_5⟩ := fA6 BK270.out) | ((with_reducible refine gate_callee (f := 59) rfl ?_); refine goesA (some 4) Try.func59 #[.agg #[.bool a0_0, .int .i64 a0_1, .int .i64 a0_2, .int .i64 a0_3, .int .i64 a0_4, .int .i64 a0_5]] ?_; (with_reducible refine (thalwegref02_Right.calls k a0_0 a0_1 a0_2 a0_3 a0_4 a0_5 false _ A2.out).mono ?_); rintro e w10 ⟨rfl, hb⟩; refine ⟨_, rfl, ?_⟩; have n0_ := YH (blk_below (g := gb270) (o := .cells #[.bool a0_0, .int .i64 a0_1, .int .i64 a0_2, .int .i64 a0_3, .int .i64 a0_4, .int .i64 a0_5] 30 (0, 0)) (upK BK270) hb); have n1_ := YH (YD (upB HB) hb); clear BK270; clear HB; have BK270 := n0_; have HB := n1_; clear n0_ n1_; (try clear hb); (try clear hb2); (try clear hk); (try clear hi)))
 go_ret
 exact ⟨by first | rfl | (simp [errW_none, errW_some] <;> rfl) | (simp [*, errW_none, errW_some] <;> rfl), by repeat (first | (with_reducible first | exact HB.out | apply YA | apply YB | apply YC | refine below_set ?_ GE270.out) | exact HB.out)⟩
end Go.Proofs.Ytclbempnhelmoaa.P
