/- Walks. -/
import Derived.Carry
import Derived.ChangeKeysEq
import Derived.Test.YtpgmmnlkiogamaaXFramePartsa
import Derived.Test.YtpgmmnlkiogamaaXFramePartsb
set_option linter.unusedVariables false
set_option linter.unusedSimpArgs false
set_option maxHeartbeats 8000000
set_option maxRecDepth 100000
namespace Go.Proofs.Ytpgmmnlkiogamaa.P
open Go.RowKit YtpgmmnlkiogamaaW.PrintWords YtpgmmnlkiogamaaW.PrintLast YtpgmmnlkiogamaaW.PrintMore
attribute [local go_sem] max2_int min2_int max_two min_two max_three min_three max_four min_four
mutual
def ack_Check.j0 : Nat → List (S106) → Bool → Option (Int)
 | 0, _, _ => none
 | k + 1, x0, x3 => ack_Check.l0 k x0 x3 x0 (x0.length : Int) 0
def ack_Check.l0 : Nat → List (S106) → Bool → List (S106) → Int → Int → Option (Int)
 | 0, _, _, _, _, _ => none
 | k + 1, x0, x3, x14, x15, x16 => if x16 < x15 then (if 0 ≤ x16 then (if x16 < (x14.length : Int) then (if x3 = true then ((ack_right.f ((rd_T106 x14 x16).f0) ((rd_T106 x14 x16).f1) ((rd_T106 x14 x16).f2) ((rd_T106 x14 x16).f3)).bind fun t267 => (if t267 = true then (if x16 = 0 then (ack_Check.l0 k x0 true x14 x15 (wrap64 (x16 + 1))) else (if 0 ≤ (wrap64 (x16 - 1)) then (if (wrap64 (x16 - 1)) < (x0.length : Int) then (ack_Check.l0 k x0 (decide (((rd_T106 x0 (wrap64 (x16 - 1))).f0) < ((rd_T106 x14 x16).f0))) x14 x15 (wrap64 (x16 + 1))) else (none)) else (none))) else (ack_Check.l0 k x0 false x14 x15 (wrap64 (x16 + 1))))) else (ack_Check.l0 k x0 false x14 x15 (wrap64 (x16 + 1)))) else (none)) else (none)) else (if x3 = true then (some 0) else (some 1))
end
def ack_Check.f (k : Nat) (l0 : List (S106)) : Option (Int) := if (l0.length : Int) > 0 then (ack_Check.j0 k l0 (decide ((l0.length : Int) ≤ 64))) else (ack_Check.j0 k l0 false)
theorem ack_Check.mono_l : ∀ k, (∀ y0 y1, LeO (ack_Check.j0 k y0 y1) (ack_Check.j0 (k + 1) y0 y1)) ∧ (∀ y0 y1 y2 y3 y4, LeO (ack_Check.l0 k y0 y1 y2 y3 y4) (ack_Check.l0 (k + 1) y0 y1 y2 y3 y4))
 | 0 => ⟨fun _ _ r h => by simp [ack_Check.j0] at h, fun _ _ _ _ _ r h => by simp [ack_Check.l0] at h⟩
 | k + 1 => by
  obtain ⟨ih0, ih1⟩ := ack_Check.mono_l k
  refine ⟨?_, ?_⟩
  ·intro y0 y1
   unfold ack_Check.j0
   repeat' first
   | (with_reducible exact ih0 _ _)
   | (with_reducible exact ih1 _ _ _ _ _)
   | (with_reducible exact LeO.refl _)
   | (with_reducible exact LeO.none _)
   | (with_reducible refine LeO.ite ?_ ?_)
   | (with_reducible refine LeO.bind ?_ (fun _ => ?_))
   | exact ih0 _ _
   | exact ih1 _ _ _ _ _
   | exact LeO.none _
   | refine LeO.ite ?_ ?_
   | refine LeO.bind ?_ (fun _ => ?_)
  intro y0 y1 y2 y3 y4
  unfold ack_Check.l0
  repeat' first
  | (with_reducible exact ih0 _ _)
  | (with_reducible exact ih1 _ _ _ _ _)
  | (with_reducible exact LeO.refl _)
  | (with_reducible exact LeO.none _)
  | (with_reducible refine LeO.ite ?_ ?_)
  | (with_reducible refine LeO.bind ?_ (fun _ => ?_))
  | exact ih0 _ _
  | exact ih1 _ _ _ _ _
  | exact LeO.none _
  | refine LeO.ite ?_ ?_
  | refine LeO.bind ?_ (fun _ => ?_)
theorem ack_Check.mono : ∀ a0 k, LeO (ack_Check.f k a0) (ack_Check.f (k + 1) a0) := by
 intro a0 k
 obtain ⟨ih0, ih1⟩ := ack_Check.mono_l k
 unfold ack_Check.f
 repeat' first
   | (with_reducible exact ih0 _ _)
   | (with_reducible exact ih1 _ _ _ _ _)
   | (with_reducible exact LeO.refl _)
   | (with_reducible exact LeO.none _)
   | (with_reducible refine LeO.ite ?_ ?_)
   | (with_reducible refine LeO.bind ?_ (fun _ => ?_))
   | exact ih0 _ _
   | exact ih1 _ _ _ _ _
   | exact LeO.none _
   | refine LeO.ite ?_ ?_
   | refine LeO.bind ?_ (fun _ => ?_)
def ack_Check.T5 : Bool × List (List Nat × List Nat) := (true, [([], []), ([0], [0]), ([1], [1]), ([2, 1, 1], [1, 2]), ([1, 3], [1, 3]), ([4, 3], [4]), ([5], [5]), ([6, 5], [5, 6]), ([7, 5, 5], [5, 7]), ([8], [8]), ([8], [8]), ([10, 8], [8, 10]), ([9, 11, 8], [8, 9, 11]), ([12, 8], [8, 12]), ([13, 8], [8, 13]), ([8], [8]), ([15, 8], [8, 15]), ([14, 16, 8], [8, 14, 16]), ([8, 17, 5], [5, 8, 17]), ([5, 18], [5, 18]), ([19, 8, 0, 1, 2, 3, 4, 5, 6, 7, 8, 9, 10, 11, 12, 13, 14, 15, 16, 17, 18, 19], [0, 19])])
def ack_Check.B5 : List Nat := [0, 1, 3, 7, 15, 31, 63, 127, 255, 511, 511, 1535, 4095, 8191, 16383, 511, 33279, 131071, 262143, 524287, 1048575]
theorem ack_Check.tab5 : rtab .any (opsOf Try.f55 5) = ack_Check.T5 := by kernel_rfl
theorem ack_Check.bits5 : waitsOk ack_Check.T5.2 ack_Check.B5 = true := by kernel_rfl
theorem ack_Check.calls (k : Nat) (A0 : Option Addr) (c0 : Nat) (l0 : List (S106)) (r : Int) (w : World) (hr0 : Kd.C k106 w A0 l0.length l0) (hc0 : l0.length ≤ c0) (h : ack_Check.f k l0 = some r) :
  Calls Try.prog 55 #[.slice A0 l0.length c0] w fun e w' => e = .returned (.int .i64 r) ∧ Below w.heap.size w w' := by
 have hu106 := Try.underlying106; have HR0 := Aside0.mk hr0; have HC0 := Aside0.mk hc0; clear hr0 hc0; have HB := Aside0.mk (Below.refl w.heap.size w)
 have H : (if (l0.length : Int) > 0 then (ack_Check.j0 k l0 (decide ((l0.length : Int) ≤ 64))) else (ack_Check.j0 k l0 false)) = some r := h
 clear h; have HC2 := Aside0.mk H; clear H
 go_enter Try.func55, Try.ntmps55
 go_upto_region 1 with (fail)
 go_cut [3] (fun v3 wc => ∃ (kq : Nat) (x3_1 : Bool), v3 = .bool x3_1 ∧ Aside0 (ack_Check.j0 kq l0 x3_1 = some r) ∧ Aside0 (kq ≤ k) ∧ Aside0 (Below w.heap.size w wc))
 case first =>
  have H := HC2.out
  clear HC2
  by_cases c3 : (l0.length : Int) > 0
  ·rw [if_pos c3] at H
   have c3b0 : decide (0 < (l0.length : Int)) = true := decide_eq_true c3
   have c3b1 : decide (0 < l0.length) = true := decide_eq_true (by omega)
   clear c3
   (first | rw [c3b0] | (simp only [i64_w, i32_w]; rw [c3b0]) | rw [c3b1] | skip)
   have H' := Aside0.mk H
   clear H
   go_wp2
   go_meet
   case rel => exact ⟨_, (decide ((l0.length : Int) ≤ 64)), gv, H', ⟨by first | omega | exact Nat.le_refl _⟩, ⟨uB HB⟩⟩
  rw [if_neg c3] at H
  have c3b0 : decide (0 < (l0.length : Int)) = false := decide_eq_false c3
  have c3b1 : decide (0 < l0.length) = false := decide_eq_false (by omega)
  clear c3
  (first | rw [c3b0] | (simp only [i64_w, i32_w]; rw [c3b0]) | rw [c3b1] | skip)
  have H' := Aside0.mk H
  clear H
  go_wp2
  go_meet
  case rel => exact ⟨_, (false), gv, H', ⟨by first | omega | exact Nat.le_refl _⟩, ⟨uB HB⟩⟩
 case rest =>
  clear HC2; (try clear p2); (try clear c3); (try clear c3b0); (try clear c3b1); obtain ⟨kq, x3_1, rfl, HA, HJ1, HB⟩ := hcut
  cases kq with
  | zero => exact absurd HA.out (by simp [ack_Check.j0])
  | succ kj1 =>
   have H := HA.out
   clear HA
   simp only [ack_Check.j0] at H
   have H' := Aside0.mk H
   clear H
   go_wp2
   go_loopg [3, 16] kj1 (fun kq v3 v16 w' => ∃ (x3_2 : Bool) (x16_2 : Int), v3 = .bool x3_2 ∧ v16 = .int .i64 x16_2 ∧ Aside0 (ack_Check.l0 kq l0 x3_2 l0 (l0.length : Int) x16_2 = some r) ∧ Aside0 (kq ≤ kj1) ∧ Aside0 (Below w.heap.size w w'))
   case atStart => exact ⟨(x3_1), (0), gv, gv, H', ⟨Nat.le_refl _⟩, ⟨uB HB⟩⟩
   case round =>
    clear H'; (try clear p2); (try clear c3); (try clear c3b0); (try clear c3b1); (try clear p2); obtain ⟨x3_2, x16_2, rfl, rfl, HA, HK2, HB⟩ := hrel
    cases gk with
    | zero => exact absurd HA.out (by simp [ack_Check.l0])
    | succ k2 =>
     have H := HA.out
     clear HA
     simp only [ack_Check.l0] at H
     by_cases c4 : x16_2 < (l0.length : Int)
     ·rw [if_pos c4] at H
      have c4b0 := decide_eq_true c4; clear c4
      by_cases c5 : 0 ≤ x16_2
      rotate_left
      ·rw [if_neg c5] at H
       exact absurd H (by simp)
      rw [if_pos c5] at H; have c5b0 : decide (0 ≤ x16_2) = true := decide_eq_true c5; clear c5
      by_cases c6 : x16_2 < (l0.length : Int)
      rotate_left
      ·rw [if_neg c6] at H
       exact absurd H (by simp)
      rw [if_pos c6] at H; have c6b0 := decide_eq_true c6; clear c6
      by_cases c7 : x3_2 = true
      ·subst c7
       have H1 : ((ack_right.f ((rd_T106 l0 x16_2).f0) ((rd_T106 l0 x16_2).f1) ((rd_T106 l0 x16_2).f2) ((rd_T106 l0 x16_2).f3)).bind fun t267 => (if t267 = true then (if x16_2 = 0 then (ack_Check.l0 k2 l0 true l0 (l0.length : Int) (wrap64 (x16_2 + 1))) else (if 0 ≤ (wrap64 (x16_2 - 1)) then (if (wrap64 (x16_2 - 1)) < (l0.length : Int) then (ack_Check.l0 k2 l0 (decide (((rd_T106 l0 (wrap64 (x16_2 - 1))).f0) < ((rd_T106 l0 x16_2).f0))) l0 (l0.length : Int) (wrap64 (x16_2 + 1))) else (none)) else (none))) else (ack_Check.l0 k2 l0 false l0 (l0.length : Int) (wrap64 (x16_2 + 1))))) = some r := by rw [if_pos rfl] at H; exact H
       clear H; have H := H1; clear H1; replace H := Option.bind_eq_some_iff.mp H; obtain ⟨t267, A80, H⟩ := H
       replace H : (if t267 = true then (if x16_2 = 0 then (ack_Check.l0 k2 l0 true l0 (l0.length : Int) (wrap64 (x16_2 + 1))) else (if 0 ≤ (wrap64 (x16_2 - 1)) then (if (wrap64 (x16_2 - 1)) < (l0.length : Int) then (ack_Check.l0 k2 l0 (decide (((rd_T106 l0 (wrap64 (x16_2 - 1))).f0) < ((rd_T106 l0 x16_2).f0))) l0 (l0.length : Int) (wrap64 (x16_2 + 1))) else (none)) else (none))) else (ack_Check.l0 k2 l0 false l0 (l0.length : Int) (wrap64 (x16_2 + 1)))) = some r := H
       have A8 := Aside0.mk A80; clear A80
       by_cases c9 : t267 = true
       ·subst c9
        rw [if_pos rfl] at H
        by_cases c10 : x16_2 = 0
        ·rw [if_pos c10] at H
         have c10b0 : (x16_2 == 0) = true := beq_iff_eq.mpr c10
         have c10b1 : (x16_2 != 0) = false := bne_eq_false_iff_eq.mpr c10
         clear c10
         have H' := Aside0.mk H
         clear H
         have p265 : 0 ≤ (x16_2 : Int) := of_decide_eq_true gA
         have q265 : x16_2 < (l0.length : Int) := of_decide_eq_true gA
         obtain ⟨ad265, e265, hx265_0, hx265_1, hx265_2, hx265_3⟩ := at_T106 HR0.out x16_2 p265 q265
         cases e265
         replace hx265_0 := bc HB hx265_0; replace hx265_1 := bc HB hx265_1; replace hx265_2 := bc HB hx265_2; replace hx265_3 := bc HB hx265_3; replace p265 := eq_true p265; replace q265 := eq_true q265
         try go_wp2_with (first | ((with_reducible refine gate_dst (N := 5) rfl ?_); (try (refine gate_guard (by rfl) ?_; dsimp only)); refine bx #[.int .i64 0, .int .i64 0, .int .i64 0, .int .i64 0] 106 ?_; intro gb266 hg w11 hbox hb; have BK266 := Aside0.mk hbox; have GW266 := ge HB hg; have GE266 := ge HB hg; replace HB := bs HB hb; clear hb hbox hg; obtain ⟨q12_0, q12_1, q12_2, q12_3⟩ := cA4 BK266; obtain ⟨f12_0, f12_1, f12_2, f12_3⟩ := fA4 BK266))
         have n0_ : Aside0 (((((w11.setCell ⟨gb266, 0, none⟩ (.int .i64 ((rd_T106 l0 x16_2).f0))).setCell ⟨gb266, 1, none⟩ (.int .i64 ((rd_T106 l0 x16_2).f1))).setCell ⟨gb266, 2, none⟩ (.int .i64 ((rd_T106 l0 x16_2).f2))).setCell ⟨gb266, 3, none⟩ (.int .i64 ((rd_T106 l0 x16_2).f3))).heap[gb266]? = some (.cells #[.int .i64 ((rd_T106 l0 x16_2).f0), .int .i64 ((rd_T106 l0 x16_2).f1), .int .i64 ((rd_T106 l0 x16_2).f2), .int .i64 ((rd_T106 l0 x16_2).f3)] 106 (0, 0))) := ⟨by refine rK ?_; refine blk_put (cs := #[.int .i64 ((rd_T106 l0 x16_2).f0), .int .i64 ((rd_T106 l0 x16_2).f1), .int .i64 ((rd_T106 l0 x16_2).f2), .int .i64 0]) ?_ 3 _ rfl; refine rK ?_; refine blk_put (cs := #[.int .i64 ((rd_T106 l0 x16_2).f0), .int .i64 ((rd_T106 l0 x16_2).f1), .int .i64 0, .int .i64 0]) ?_ 2 _ rfl; refine rK ?_; refine blk_put (cs := #[.int .i64 ((rd_T106 l0 x16_2).f0), .int .i64 0, .int .i64 0, .int .i64 0]) ?_ 1 _ rfl; refine rK ?_; refine blk_put (cs := #[.int .i64 0, .int .i64 0, .int .i64 0, .int .i64 0]) ?_ 0 _ rfl; refine rK ?_; exact BK266.out⟩
         have n1_ : Aside0 (Below w.heap.size w ((((w11.setCell ⟨gb266, 0, none⟩ (.int .i64 ((rd_T106 l0 x16_2).f0))).setCell ⟨gb266, 1, none⟩ (.int .i64 ((rd_T106 l0 x16_2).f1))).setCell ⟨gb266, 2, none⟩ (.int .i64 ((rd_T106 l0 x16_2).f2))).setCell ⟨gb266, 3, none⟩ (.int .i64 ((rd_T106 l0 x16_2).f3)))) := ⟨uB HB⟩
         (try clear BK266); (try clear HB)
         generalize ((((w11.setCell ⟨gb266, 0, none⟩ (.int .i64 ((rd_T106 l0 x16_2).f0))).setCell ⟨gb266, 1, none⟩ (.int .i64 ((rd_T106 l0 x16_2).f1))).setCell ⟨gb266, 2, none⟩ (.int .i64 ((rd_T106 l0 x16_2).f2))).setCell ⟨gb266, 3, none⟩ (.int .i64 ((rd_T106 l0 x16_2).f3))) = w13 at n0_ n1_ ⊢
         have BK266 := n0_; have HB := n1_; clear n0_ n1_; replace BK266 := Aside0.mk (blk_drew BK266.out); replace HB := Aside0.mk (below_drew1 HB.out)
         refine start_ (n := 21) (S := fun w' => w'.cell? ⟨gb266, 0, none⟩ = some (.int .i64 ((rd_T106 l0 x16_2).f0)) ∧ w'.cell? ⟨gb266, 1, none⟩ = some (.int .i64 ((rd_T106 l0 x16_2).f1)) ∧ w'.cell? ⟨gb266, 2, none⟩ = some (.int .i64 ((rd_T106 l0 x16_2).f2)) ∧ w'.cell? ⟨gb266, 3, none⟩ = some (.int .i64 ((rd_T106 l0 x16_2).f3))) (ds := []) #[false, false, false, false, false, false, false, false, false, false, false, false, false, false, false, false, false, false, false, false, false] (by kernel_rfl) rfl rfl (cA4 BK266) (fun hHeld => ?_)
         refine with_tabW ack_Check.tab5 ack_Check.bits5 (fun HT_ HW_ => ?_)
         generalize w13.drew = w14 at BK266 HB hHeld ⊢
         refine pA 0 (some 21) ?_; refine pA 1 (some 22) ?_; refine tA 2 (some 23) ?_
         refine oA 3 (some 24) (fun K hK => ?_)
         refine gR Try.func78 #[.agg #[.int .i64 ((rd_T106 l0 x16_2).f0), .int .i64 ((rd_T106 l0 x16_2).f1), .int .i64 ((rd_T106 l0 x16_2).f2), .int .i64 ((rd_T106 l0 x16_2).f3)]] ?_
         with_reducible refine (ack_right.calls ((rd_T106 l0 x16_2).f0) ((rd_T106 l0 x16_2).f1) ((rd_T106 l0 x16_2).f2) ((rd_T106 l0 x16_2).f3) true _ A8.out).mono ?_
         rintro e w15 ⟨rfl, hb⟩
         refine ⟨_, rfl, ?_⟩
         replace BK266 := kb BK266 hb; replace HB := bs HB hb; (try clear hb); (try clear hb2); (try clear hk); (try clear hi)
         refine hK.out _ _ (cA4 BK266) (fun hHeld => ?_)
         clear hK K; refine nA 24 ?_; refine pA 4 (some 25) ?_; refine pA 5 (some 26) ?_; refine pA 6 (some 27) ?_; refine pA 7 (some 28) ?_; refine pA 8 (some 29) ?_; refine pN 9 (some 30) ?_; refine pN 10 (some 31) ?_; refine pN 11 (some 32) ?_; refine pN 12 (some 33) ?_; refine pN 13 (some 34) ?_; refine pN 14 (some 35) ?_; refine pN 15 (some 36) ?_; refine pN 16 (some 37) ?_; refine pN 17 (some 38) ?_; refine pA 18 (some 39) ?_; refine pA 19 (some 40) ?_; refine pA 20 (some 3) ?_
         refine dA ?_
         try go_wp2
         go_roundg k2
         case measure => have := HJ1.out; have := HK2.out; omega
         case rel => exact ⟨(true), (wrap64 (x16_2 + 1)), gv, gv, H', ⟨by have := HJ1.out; have := HK2.out; omega⟩, ⟨uB HB⟩⟩
        rw [if_neg c10] at H
        have c10b0 : (x16_2 == 0) = false := beq_eq_false_iff_ne.mpr c10
        have c10b1 : (x16_2 != 0) = true := bne_iff_ne.mpr c10
        obtain ⟨ji16, hji16⟩ : ∃ j_ : Int, (wrap64 (x16_2 - 1)) = j_ := ⟨_, rfl⟩
        replace H : (if 0 ≤ (ji16) then (if (ji16) < (l0.length : Int) then (ack_Check.l0 k2 l0 (decide (((rd_T106 l0 (ji16)).f0) < ((rd_T106 l0 x16_2).f0))) l0 (l0.length : Int) (wrap64 (x16_2 + 1))) else (none)) else (none)) = some r := by first | (rw [hji16] at H; exact H) | (simp only [hji16] at H ⊢; exact H)
        (try rw [hji16] at A8)
        have hji16w : (IntKind.i64.wrap (x16_2 - 1)) = ji16 := (i64_w _).trans hji16
        by_cases c17 : 0 ≤ (ji16)
        rotate_left
        ·rw [if_neg c17] at H
         exact absurd H (by simp)
        rw [if_pos c17] at H; have c17b0 : decide (0 ≤ (ji16)) = true := decide_eq_true c17; clear c17
        by_cases c18 : (ji16) < (l0.length : Int)
        rotate_left
        ·rw [if_neg c18] at H
         exact absurd H (by simp)
        rw [if_pos c18] at H; have c18b0 := decide_eq_true c18; clear c18
        have H' := Aside0.mk H
        clear H
        have p265 : 0 ≤ (x16_2 : Int) := of_decide_eq_true gA
        have q265 : x16_2 < (l0.length : Int) := of_decide_eq_true gA
        obtain ⟨ad265, e265, hx265_0, hx265_1, hx265_2, hx265_3⟩ := at_T106 HR0.out x16_2 p265 q265
        cases e265
        replace hx265_0 := bc HB hx265_0; replace hx265_1 := bc HB hx265_1; replace hx265_2 := bc HB hx265_2; replace hx265_3 := bc HB hx265_3; replace p265 := eq_true p265; replace q265 := eq_true q265
        try go_wp2_with (first | ((with_reducible refine gate_dst (N := 5) rfl ?_); (try (refine gate_guard (by rfl) ?_; dsimp only)); refine bx #[.int .i64 0, .int .i64 0, .int .i64 0, .int .i64 0] 106 ?_; intro gb266 hg w19 hbox hb; have BK266 := Aside0.mk hbox; have GW266 := ge HB hg; have GE266 := ge HB hg; replace HB := bs HB hb; clear hb hbox hg; obtain ⟨q20_0, q20_1, q20_2, q20_3⟩ := cA4 BK266; obtain ⟨f20_0, f20_1, f20_2, f20_3⟩ := fA4 BK266))
        have n0_ : Aside0 (((((w19.setCell ⟨gb266, 0, none⟩ (.int .i64 ((rd_T106 l0 x16_2).f0))).setCell ⟨gb266, 1, none⟩ (.int .i64 ((rd_T106 l0 x16_2).f1))).setCell ⟨gb266, 2, none⟩ (.int .i64 ((rd_T106 l0 x16_2).f2))).setCell ⟨gb266, 3, none⟩ (.int .i64 ((rd_T106 l0 x16_2).f3))).heap[gb266]? = some (.cells #[.int .i64 ((rd_T106 l0 x16_2).f0), .int .i64 ((rd_T106 l0 x16_2).f1), .int .i64 ((rd_T106 l0 x16_2).f2), .int .i64 ((rd_T106 l0 x16_2).f3)] 106 (0, 0))) := ⟨by refine rK ?_; refine blk_put (cs := #[.int .i64 ((rd_T106 l0 x16_2).f0), .int .i64 ((rd_T106 l0 x16_2).f1), .int .i64 ((rd_T106 l0 x16_2).f2), .int .i64 0]) ?_ 3 _ rfl; refine rK ?_; refine blk_put (cs := #[.int .i64 ((rd_T106 l0 x16_2).f0), .int .i64 ((rd_T106 l0 x16_2).f1), .int .i64 0, .int .i64 0]) ?_ 2 _ rfl; refine rK ?_; refine blk_put (cs := #[.int .i64 ((rd_T106 l0 x16_2).f0), .int .i64 0, .int .i64 0, .int .i64 0]) ?_ 1 _ rfl; refine rK ?_; refine blk_put (cs := #[.int .i64 0, .int .i64 0, .int .i64 0, .int .i64 0]) ?_ 0 _ rfl; refine rK ?_; exact BK266.out⟩
        have n1_ : Aside0 (Below w.heap.size w ((((w19.setCell ⟨gb266, 0, none⟩ (.int .i64 ((rd_T106 l0 x16_2).f0))).setCell ⟨gb266, 1, none⟩ (.int .i64 ((rd_T106 l0 x16_2).f1))).setCell ⟨gb266, 2, none⟩ (.int .i64 ((rd_T106 l0 x16_2).f2))).setCell ⟨gb266, 3, none⟩ (.int .i64 ((rd_T106 l0 x16_2).f3)))) := ⟨uB HB⟩
        (try clear BK266); (try clear HB)
        generalize ((((w19.setCell ⟨gb266, 0, none⟩ (.int .i64 ((rd_T106 l0 x16_2).f0))).setCell ⟨gb266, 1, none⟩ (.int .i64 ((rd_T106 l0 x16_2).f1))).setCell ⟨gb266, 2, none⟩ (.int .i64 ((rd_T106 l0 x16_2).f2))).setCell ⟨gb266, 3, none⟩ (.int .i64 ((rd_T106 l0 x16_2).f3))) = w21 at n0_ n1_ ⊢
        have BK266 := n0_; have HB := n1_; clear n0_ n1_; replace BK266 := Aside0.mk (blk_drew BK266.out); replace HB := Aside0.mk (below_drew1 HB.out)
        have p268 : 0 ≤ ((ji16) : Int) := of_decide_eq_true gA
        have q268 : (ji16) < (l0.length : Int) := of_decide_eq_true gA
        obtain ⟨ad268, e268, hx268_0, hx268_1, hx268_2, hx268_3⟩ := at_T106 HR0.out (ji16) p268 q268; have hw268_3 := hx268_3; have hw268_2 := hx268_2; have hw268_1 := hx268_1; have hw268_0 := hx268_0
        obtain rfl : ad265 = ad268 := (by injection e268)
        replace hx268_0 := bc HB hx268_0; replace hx268_1 := bc HB hx268_1; replace hx268_2 := bc HB hx268_2; replace hx268_3 := bc HB hx268_3; replace p268 := eq_true p268; replace q268 := eq_true q268
        refine start_ (n := 21) (S := fun w' => w'.cell? ⟨gb266, 0, none⟩ = some (.int .i64 ((rd_T106 l0 x16_2).f0)) ∧ w'.cell? ⟨gb266, 1, none⟩ = some (.int .i64 ((rd_T106 l0 x16_2).f1)) ∧ w'.cell? ⟨gb266, 2, none⟩ = some (.int .i64 ((rd_T106 l0 x16_2).f2)) ∧ w'.cell? ⟨gb266, 3, none⟩ = some (.int .i64 ((rd_T106 l0 x16_2).f3)) ∧ w'.cell? (ad265.add (((ji16)).toNat * 4)) = some (.int .i64 ((rd_T106 l0 (ji16)).f0)) ∧ w'.cell? ⟨(ad265.add (((ji16)).toNat * 4)).block, (ad265.add (((ji16)).toNat * 4)).off + 1, none⟩ = some (.int .i64 ((rd_T106 l0 (ji16)).f1)) ∧ w'.cell? ⟨(ad265.add (((ji16)).toNat * 4)).block, (ad265.add (((ji16)).toNat * 4)).off + 2, none⟩ = some (.int .i64 ((rd_T106 l0 (ji16)).f2)) ∧ w'.cell? ⟨(ad265.add (((ji16)).toNat * 4)).block, (ad265.add (((ji16)).toNat * 4)).off + 3, none⟩ = some (.int .i64 ((rd_T106 l0 (ji16)).f3))) (ds := []) #[false, false, false, false, false, false, false, false, false, false, false, false, false, false, false, false, false, false, false, false, false] (by kernel_rfl) rfl rfl ⟨(blk_cell BK266.out 0).trans rfl, (blk_cell BK266.out 1).trans rfl, (blk_cell BK266.out 2).trans rfl, (blk_cell BK266.out 3).trans rfl, ((HB.out.cell (World.block_lt_of_cell? w _ hw268_0)).trans hw268_0), ((HB.out.cell (World.block_lt_of_cell? w _ hw268_1)).trans hw268_1), ((HB.out.cell (World.block_lt_of_cell? w _ hw268_2)).trans hw268_2), ((HB.out.cell (World.block_lt_of_cell? w _ hw268_3)).trans hw268_3)⟩ (fun hHeld => ?_)
        refine with_tabW ack_Check.tab5 ack_Check.bits5 (fun HT_ HW_ => ?_)
        generalize w21.drew = w22 at BK266 HB hx268_0 hx268_1 hx268_2 hx268_3 hHeld ⊢
        refine pA 0 (some 21) ?_; refine pA 1 (some 22) ?_; refine tA 2 (some 23) ?_
        refine oA 3 (some 24) (fun K hK => ?_)
        refine gR Try.func78 #[.agg #[.int .i64 ((rd_T106 l0 x16_2).f0), .int .i64 ((rd_T106 l0 x16_2).f1), .int .i64 ((rd_T106 l0 x16_2).f2), .int .i64 ((rd_T106 l0 x16_2).f3)]] ?_
        with_reducible refine (ack_right.calls ((rd_T106 l0 x16_2).f0) ((rd_T106 l0 x16_2).f1) ((rd_T106 l0 x16_2).f2) ((rd_T106 l0 x16_2).f3) true _ A8.out).mono ?_
        rintro e w23 ⟨rfl, hb⟩
        refine ⟨_, rfl, ?_⟩
        replace BK266 := kb BK266 hb; replace HB := bs HB hb; (try clear hb); (try clear hb2); (try clear hk); (try clear hi)
        refine hK.out _ _ ⟨(blk_cell BK266.out 0).trans rfl, (blk_cell BK266.out 1).trans rfl, (blk_cell BK266.out 2).trans rfl, (blk_cell BK266.out 3).trans rfl, ((HB.out.cell (World.block_lt_of_cell? w _ hw268_0)).trans hw268_0), ((HB.out.cell (World.block_lt_of_cell? w _ hw268_1)).trans hw268_1), ((HB.out.cell (World.block_lt_of_cell? w _ hw268_2)).trans hw268_2), ((HB.out.cell (World.block_lt_of_cell? w _ hw268_3)).trans hw268_3)⟩ (fun hHeld => ?_)
        clear hK K; refine nA 24 ?_; refine pA 4 (some 25) ?_; refine pA 5 (some 26) ?_; refine pA 6 (some 27) ?_; refine pA 7 (some 28) ?_; refine pA 8 (some 29) ?_; refine pA 9 (some 30) ?_; refine pA 10 (some 31) ?_; refine pA 11 (some 32) ?_; refine pA 12 (some 33) ?_; refine pA 13 (some 34) ?_; refine pA 15 (some 36) ?_; refine tA 14 (some 35) ?_; refine tA 16 (some 37) ?_; refine pA 17 (some 38) ?_; refine pA 18 (some 39) ?_; refine pA 19 (some 40) ?_; refine pA 20 (some 3) ?_
        refine dA ?_
        try go_wp2
        go_roundg k2
        case measure => have := HJ1.out; have := HK2.out; omega
        case rel => exact ⟨(decide (((rd_T106 l0 (ji16)).f0) < ((rd_T106 l0 x16_2).f0))), (wrap64 (x16_2 + 1)), (by first | rfl | (simp; done) | (simp only [← hji16] <;> (first | rfl | simp)) | (simp [*]; done)), gv, H', ⟨by have := HJ1.out; have := HK2.out; omega⟩, ⟨uB HB⟩⟩
       replace c9 := Bool.eq_false_iff.mpr c9
       subst c9
       rw [if_neg (show ¬ (false = true) by decide)] at H
       have H' := Aside0.mk H
       clear H
       have p265 : 0 ≤ (x16_2 : Int) := of_decide_eq_true gA
       have q265 : x16_2 < (l0.length : Int) := of_decide_eq_true gA
       obtain ⟨ad265, e265, hx265_0, hx265_1, hx265_2, hx265_3⟩ := at_T106 HR0.out x16_2 p265 q265
       cases e265
       replace hx265_0 := bc HB hx265_0; replace hx265_1 := bc HB hx265_1; replace hx265_2 := bc HB hx265_2; replace hx265_3 := bc HB hx265_3; replace p265 := eq_true p265; replace q265 := eq_true q265
       try go_wp2_with (first | ((with_reducible refine gate_dst (N := 5) rfl ?_); (try (refine gate_guard (by rfl) ?_; dsimp only)); refine bx #[.int .i64 0, .int .i64 0, .int .i64 0, .int .i64 0] 106 ?_; intro gb266 hg w24 hbox hb; have BK266 := Aside0.mk hbox; have GW266 := ge HB hg; have GE266 := ge HB hg; replace HB := bs HB hb; clear hb hbox hg; obtain ⟨q25_0, q25_1, q25_2, q25_3⟩ := cA4 BK266; obtain ⟨f25_0, f25_1, f25_2, f25_3⟩ := fA4 BK266))
       have n0_ : Aside0 (((((w24.setCell ⟨gb266, 0, none⟩ (.int .i64 ((rd_T106 l0 x16_2).f0))).setCell ⟨gb266, 1, none⟩ (.int .i64 ((rd_T106 l0 x16_2).f1))).setCell ⟨gb266, 2, none⟩ (.int .i64 ((rd_T106 l0 x16_2).f2))).setCell ⟨gb266, 3, none⟩ (.int .i64 ((rd_T106 l0 x16_2).f3))).heap[gb266]? = some (.cells #[.int .i64 ((rd_T106 l0 x16_2).f0), .int .i64 ((rd_T106 l0 x16_2).f1), .int .i64 ((rd_T106 l0 x16_2).f2), .int .i64 ((rd_T106 l0 x16_2).f3)] 106 (0, 0))) := ⟨by refine rK ?_; refine blk_put (cs := #[.int .i64 ((rd_T106 l0 x16_2).f0), .int .i64 ((rd_T106 l0 x16_2).f1), .int .i64 ((rd_T106 l0 x16_2).f2), .int .i64 0]) ?_ 3 _ rfl; refine rK ?_; refine blk_put (cs := #[.int .i64 ((rd_T106 l0 x16_2).f0), .int .i64 ((rd_T106 l0 x16_2).f1), .int .i64 0, .int .i64 0]) ?_ 2 _ rfl; refine rK ?_; refine blk_put (cs := #[.int .i64 ((rd_T106 l0 x16_2).f0), .int .i64 0, .int .i64 0, .int .i64 0]) ?_ 1 _ rfl; refine rK ?_; refine blk_put (cs := #[.int .i64 0, .int .i64 0, .int .i64 0, .int .i64 0]) ?_ 0 _ rfl; refine rK ?_; exact BK266.out⟩
       have n1_ : Aside0 (Below w.heap.size w ((((w24.setCell ⟨gb266, 0, none⟩ (.int .i64 ((rd_T106 l0 x16_2).f0))).setCell ⟨gb266, 1, none⟩ (.int .i64 ((rd_T106 l0 x16_2).f1))).setCell ⟨gb266, 2, none⟩ (.int .i64 ((rd_T106 l0 x16_2).f2))).setCell ⟨gb266, 3, none⟩ (.int .i64 ((rd_T106 l0 x16_2).f3)))) := ⟨uB HB⟩
       (try clear BK266); (try clear HB)
       generalize ((((w24.setCell ⟨gb266, 0, none⟩ (.int .i64 ((rd_T106 l0 x16_2).f0))).setCell ⟨gb266, 1, none⟩ (.int .i64 ((rd_T106 l0 x16_2).f1))).setCell ⟨gb266, 2, none⟩ (.int .i64 ((rd_T106 l0 x16_2).f2))).setCell ⟨gb266, 3, none⟩ (.int .i64 ((rd_T106 l0 x16_2).f3))) = w26 at n0_ n1_ ⊢
       have BK266 := n0_; have HB := n1_; clear n0_ n1_; replace BK266 := Aside0.mk (blk_drew BK266.out); replace HB := Aside0.mk (below_drew1 HB.out)
       refine start_ (n := 21) (S := fun w' => w'.cell? ⟨gb266, 0, none⟩ = some (.int .i64 ((rd_T106 l0 x16_2).f0)) ∧ w'.cell? ⟨gb266, 1, none⟩ = some (.int .i64 ((rd_T106 l0 x16_2).f1)) ∧ w'.cell? ⟨gb266, 2, none⟩ = some (.int .i64 ((rd_T106 l0 x16_2).f2)) ∧ w'.cell? ⟨gb266, 3, none⟩ = some (.int .i64 ((rd_T106 l0 x16_2).f3))) (ds := []) #[false, false, false, false, false, false, false, false, false, false, false, false, false, false, false, false, false, false, false, false, false] (by kernel_rfl) rfl rfl (cA4 BK266) (fun hHeld => ?_)
       refine with_tabW ack_Check.tab5 ack_Check.bits5 (fun HT_ HW_ => ?_)
       generalize w26.drew = w27 at BK266 HB hHeld ⊢
       refine pA 0 (some 21) ?_; refine pA 1 (some 22) ?_; refine tA 2 (some 23) ?_
       refine oA 3 (some 24) (fun K hK => ?_)
       refine gR Try.func78 #[.agg #[.int .i64 ((rd_T106 l0 x16_2).f0), .int .i64 ((rd_T106 l0 x16_2).f1), .int .i64 ((rd_T106 l0 x16_2).f2), .int .i64 ((rd_T106 l0 x16_2).f3)]] ?_
       with_reducible refine (ack_right.calls ((rd_T106 l0 x16_2).f0) ((rd_T106 l0 x16_2).f1) ((rd_T106 l0 x16_2).f2) ((rd_T106 l0 x16_2).f3) false _ A8.out).mono ?_
       rintro e w28 ⟨rfl, hb⟩
       refine ⟨_, rfl, ?_⟩
       replace BK266 := kb BK266 hb; replace HB := bs HB hb; (try clear hb); (try clear hb2); (try clear hk); (try clear hi)
       refine hK.out _ _ (cA4 BK266) (fun hHeld => ?_)
       clear hK K; refine nA 24 ?_; refine pA 4 (some 25) ?_; refine pA 5 (some 26) ?_; refine pN 6 (some 27) ?_; refine pN 7 (some 28) ?_; refine pN 8 (some 29) ?_; refine pN 9 (some 30) ?_; refine pN 10 (some 31) ?_; refine pN 11 (some 32) ?_; refine pN 12 (some 33) ?_; refine pN 13 (some 34) ?_; refine pN 14 (some 35) ?_; refine pN 15 (some 36) ?_; refine pN 16 (some 37) ?_; refine pN 17 (some 38) ?_; refine pN 18 (some 39) ?_; refine pA 19 (some 40) ?_; refine pA 20 (some 3) ?_
       refine dA ?_
       try go_wp2
       go_roundg k2
       case measure => have := HJ1.out; have := HK2.out; omega
       case rel => exact ⟨(false), (wrap64 (x16_2 + 1)), gv, gv, H', ⟨by have := HJ1.out; have := HK2.out; omega⟩, ⟨uB HB⟩⟩
      replace c7 := Bool.eq_false_iff.mpr c7
      subst c7
      rw [if_neg (show ¬ (false = true) by decide)] at H
      have H' := Aside0.mk H
      clear H
      have p265 : 0 ≤ (x16_2 : Int) := of_decide_eq_true gA
      have q265 : x16_2 < (l0.length : Int) := of_decide_eq_true gA
      obtain ⟨ad265, e265, hx265_0, hx265_1, hx265_2, hx265_3⟩ := at_T106 HR0.out x16_2 p265 q265
      cases e265
      replace hx265_0 := bc HB hx265_0; replace hx265_1 := bc HB hx265_1; replace hx265_2 := bc HB hx265_2; replace hx265_3 := bc HB hx265_3; replace p265 := eq_true p265; replace q265 := eq_true q265
      try go_wp2_with (first | ((with_reducible refine gate_dst (N := 5) rfl ?_); (try (refine gate_guard (by rfl) ?_; dsimp only)); refine bx #[.int .i64 0, .int .i64 0, .int .i64 0, .int .i64 0] 106 ?_; intro gb266 hg w29 hbox hb; have BK266 := Aside0.mk hbox; have GW266 := ge HB hg; have GE266 := ge HB hg; replace HB := bs HB hb; clear hb hbox hg; obtain ⟨q30_0, q30_1, q30_2, q30_3⟩ := cA4 BK266; obtain ⟨f30_0, f30_1, f30_2, f30_3⟩ := fA4 BK266))
      have n0_ : Aside0 (((((w29.setCell ⟨gb266, 0, none⟩ (.int .i64 ((rd_T106 l0 x16_2).f0))).setCell ⟨gb266, 1, none⟩ (.int .i64 ((rd_T106 l0 x16_2).f1))).setCell ⟨gb266, 2, none⟩ (.int .i64 ((rd_T106 l0 x16_2).f2))).setCell ⟨gb266, 3, none⟩ (.int .i64 ((rd_T106 l0 x16_2).f3))).heap[gb266]? = some (.cells #[.int .i64 ((rd_T106 l0 x16_2).f0), .int .i64 ((rd_T106 l0 x16_2).f1), .int .i64 ((rd_T106 l0 x16_2).f2), .int .i64 ((rd_T106 l0 x16_2).f3)] 106 (0, 0))) := ⟨by refine rK ?_; refine blk_put (cs := #[.int .i64 ((rd_T106 l0 x16_2).f0), .int .i64 ((rd_T106 l0 x16_2).f1), .int .i64 ((rd_T106 l0 x16_2).f2), .int .i64 0]) ?_ 3 _ rfl; refine rK ?_; refine blk_put (cs := #[.int .i64 ((rd_T106 l0 x16_2).f0), .int .i64 ((rd_T106 l0 x16_2).f1), .int .i64 0, .int .i64 0]) ?_ 2 _ rfl; refine rK ?_; refine blk_put (cs := #[.int .i64 ((rd_T106 l0 x16_2).f0), .int .i64 0, .int .i64 0, .int .i64 0]) ?_ 1 _ rfl; refine rK ?_; refine blk_put (cs := #[.int .i64 0, .int .i64 0, .int .i64 0, .int .i64 0]) ?_ 0 _ rfl; refine rK ?_; exact BK266.out⟩
      have n1_ : Aside0 (Below w.heap.size w ((((w29.setCell ⟨gb266, 0, none⟩ (.int .i64 ((rd_T106 l0 x16_2).f0))).setCell ⟨gb266, 1, none⟩ (.int .i64 ((rd_T106 l0 x16_2).f1))).setCell ⟨gb266, 2, none⟩ (.int .i64 ((rd_T106 l0 x16_2).f2))).setCell ⟨gb266, 3, none⟩ (.int .i64 ((rd_T106 l0 x16_2).f3)))) := ⟨uB HB⟩
      (try clear BK266); (try clear HB)
      generalize ((((w29.setCell ⟨gb266, 0, none⟩ (.int .i64 ((rd_T106 l0 x16_2).f0))).setCell ⟨gb266, 1, none⟩ (.int .i64 ((rd_T106 l0 x16_2).f1))).setCell ⟨gb266, 2, none⟩ (.int .i64 ((rd_T106 l0 x16_2).f2))).setCell ⟨gb266, 3, none⟩ (.int .i64 ((rd_T106 l0 x16_2).f3))) = w31 at n0_ n1_ ⊢
      have BK266 := n0_; have HB := n1_; clear n0_ n1_; replace BK266 := Aside0.mk (blk_drew BK266.out); replace HB := Aside0.mk (below_drew1 HB.out)
      refine start_ (n := 21) (S := fun w' => True) (ds := []) #[false, false, false, false, false, false, false, false, false, false, false, false, false, false, false, false, false, false, false, false, false] (by kernel_rfl) rfl rfl trivial (fun hHeld => ?_)
      refine with_tabW ack_Check.tab5 ack_Check.bits5 (fun HT_ HW_ => ?_)
      generalize w31.drew = w32 at BK266 HB hHeld ⊢
      refine pA 0 (some 21) ?_; refine pA 1 (some 22) ?_; refine pN 2 (some 23) ?_; refine pN 3 (some 24) ?_; refine pA 4 (some 25) ?_; refine pA 5 (some 26) ?_; refine pN 6 (some 27) ?_; refine pN 7 (some 28) ?_; refine pN 8 (some 29) ?_; refine pN 9 (some 30) ?_; refine pN 10 (some 31) ?_; refine pN 11 (some 32) ?_; refine pN 12 (some 33) ?_; refine pN 13 (some 34) ?_; refine pN 14 (some 35) ?_; refine pN 15 (some 36) ?_; refine pN 16 (some 37) ?_; refine pN 17 (some 38) ?_; refine pN 18 (some 39) ?_; refine pA 19 (some 40) ?_; refine pA 20 (some 3) ?_
      refine dA ?_
      try go_wp2
      go_roundg k2
      case measure => have := HJ1.out; have := HK2.out; omega
      case rel => exact ⟨(false), (wrap64 (x16_2 + 1)), gv, gv, H', ⟨by have := HJ1.out; have := HK2.out; omega⟩, ⟨uB HB⟩⟩
     rw [if_neg c4] at H
     have c4b0 : decide (x16_2 < (l0.length : Int)) = false := decide_eq_false c4
     clear c4
     by_cases c33 : x3_2 = true
     ·subst c33
      rw [if_pos rfl] at H
      obtain rfl := Option.some.inj H
      go_wp2
      go_ret
      exact ⟨gE, uB HB⟩
     replace c33 := Bool.eq_false_iff.mpr c33
     subst c33
     rw [if_neg (show ¬ (false = true) by decide)] at H
     obtain rfl := Option.some.inj H
     go_wp2
     go_ret
     exact ⟨gE, uB HB⟩
def SA (a : S106) : Prop := (0 ≤ a.f0 ∧ a.f0 < 64) ∧ (0 ≤ a.f1 ∧ a.f1 ≤ 4294967295) ∧ (0 ≤ a.f2 ∧ a.f2 ≤ 65535) ∧ (0 ≤ a.f3 ∧ a.f3 ≤ 65535)
instance (a : S106) : Decidable (SA a) := by unfold SA; infer_instance
def upA (p : Int) : List S106 → Bool
 | [] => true
 | a :: l => decide (SA a) && decide (p < a.f0) && upA a.f0 l
def RA (l : List S106) : Prop := 1 ≤ l.length ∧ l.length ≤ 64 ∧ upA (-1) l = true
instance (l : List S106) : Decidable (RA l) := by unfold RA; infer_instance
def prevA (l : List S106) (i : Int) : Int := if i = 0 then -1 else (rd_T106 l (i - 1)).f0
theorem prevA_pos (l : List S106) (i : Int) (h : ¬ i = 0) : prevA l i = (rd_T106 l (i - 1)).f0 := if_neg h
theorem prevA_succ (l : List S106) (i : Int) (h : 0 ≤ i) : prevA l (i + 1) = (rd_T106 l i).f0 := by unfold prevA; rw [if_neg (by omega), show i + 1 - 1 = i by omega]
theorem acks_get (l : List S106) (i : Int) (h0 : 0 ≤ i) (h1 : i < l.length) : l.drop i.toNat = rd_T106 l i :: l.drop (i + 1).toNat := by
 have hi : i.toNat < l.length := by omega
 rw [List.drop_eq_getElem_cons hi, show (i + 1).toNat = i.toNat + 1 by omega]
 congr 1
 unfold rd_T106
 rw [List.getD_eq_getElem?_getD, List.getElem?_eq_getElem hi]
 rfl
theorem right_eq (a : S106) : ack_right.f a.f0 a.f1 a.f2 a.f3 = some (decide (SA a)) := by
 unfold ack_right.f
 by_cases h1 : a.f0 ≥ 0
 ·rw [if_pos h1]
  by_cases h2 : a.f0 < 64
  ·rw [if_pos h2]
   by_cases h3 : a.f1 ≥ 0
   ·rw [if_pos h3]
    by_cases h4 : a.f1 ≤ 4294967295
    ·rw [if_pos h4]
     by_cases h5 : a.f2 ≥ 0
     ·rw [if_pos h5]
      by_cases h6 : a.f2 ≤ 65535
      ·rw [if_pos h6]
       by_cases h7 : a.f3 ≥ 0
       ·rw [if_pos h7]
        congr 1
        by_cases h8 : a.f3 ≤ 65535
        ·rw [decide_eq_true h8, decide_eq_true (show SA a from ⟨⟨h1, h2⟩, ⟨h3, h4⟩, ⟨h5, h6⟩, h7, h8⟩)]
        ·rw [decide_eq_false h8, decide_eq_false fun x : SA a => h8 x.2.2.2.2]
       ·rw [if_neg h7, decide_eq_false fun x : SA a => h7 x.2.2.2.1]
      ·rw [if_neg h6, decide_eq_false fun x : SA a => h6 x.2.2.1.2]
     ·rw [if_neg h5, decide_eq_false fun x : SA a => h5 x.2.2.1.1]
    ·rw [if_neg h4, decide_eq_false fun x : SA a => h4 x.2.1.2]
   ·rw [if_neg h3, decide_eq_false fun x : SA a => h3 x.2.1.1]
  ·rw [if_neg h2, decide_eq_false fun x : SA a => h2 x.1.2]
 ·rw [if_neg h1, decide_eq_false fun x : SA a => h1 x.1.1]
theorem acheck_l0 (l : List S106) (hn : l.length ≤ 1000000) : ∀ (d : Nat) (i : Int) (b : Bool), 0 ≤ i → (l.length : Int) - i = d →
  Ev (fun k => ack_Check.l0 k l b l (l.length : Int) i) (if (b && upA (prevA l i) (l.drop i.toNat)) = true then 0 else 1) := by
 intro d
 induction d with
 | zero =>
  intro i b h0 hd
  refine Ev.from 1 fun k => ?_
  simp only [ack_Check.l0]
  rw [if_neg (by omega), List.drop_eq_nil_of_le (by omega)]
  simp only [upA, Bool.and_true]
  split <;> rfl
 | succ d ih =>
  intro i b h0 hd
  have h1 : i < (l.length : Int) := by omega
  refine Ev.step (f := fun k => _) (fun k => by simp only [ack_Check.l0]; rfl) ?_
  simp only [if_pos h1, if_pos h0, w64 (x := i + 1) (by omega) (by omega)]
  have hsum : ∀ c : Bool, (b && upA (prevA l i) (l.drop i.toNat)) = (c && upA (prevA l (i + 1)) (l.drop (i + 1).toNat)) → Ev (fun k => ack_Check.l0 k l c l (l.length : Int) (i + 1)) (if (b && upA (prevA l i) (l.drop i.toNat)) = true then 0 else 1) := by
   intro c hc
   rw [hc]
   exact ih (i + 1) c (by omega) (by omega)
  have hd2 := acks_get l i h0 h1
  cases b with
  | false =>
   simp only [Bool.false_eq_true, if_false]
   exact hsum false (by simp)
  | true =>
   simp only [if_true, right_eq, Option.bind_some]
   by_cases c1 : SA (rd_T106 l i)
   ·simp only [decide_eq_true c1, if_true]
    by_cases c2 : i = 0
    ·simp only [if_pos c2]
     refine hsum true ?_
     rw [hd2, prevA_succ l i h0]
     simp only [upA, decide_eq_true c1, Bool.true_and]
     rw [decide_eq_true (show prevA l i < (rd_T106 l i).f0 by unfold prevA; rw [if_pos c2]; have := c1.1; omega), Bool.true_and]
    ·simp only [if_neg c2, w64 (x := i - 1) (by omega) (by omega)]
     simp only [if_pos (show 0 ≤ i - 1 by omega), if_pos (show i - 1 < (l.length : Int) by omega)]
     refine hsum _ ?_
     rw [hd2, prevA_succ l i h0, prevA_pos l i c2]
     simp only [upA, decide_eq_true c1, Bool.true_and]
   ·simp only [decide_eq_false c1, Bool.false_eq_true, if_false]
    refine hsum false ?_
    rw [hd2]
    simp only [upA, decide_eq_false c1, Bool.false_and, Bool.and_false]
theorem acheck_ev (l : List S106) (hn : l.length ≤ 1000000) : Ev (fun k => ack_Check.f k l) (if RA l then 0 else 1) := by
 have key : ∀ b : Bool, (RA l ↔ (b && upA (-1) l) = true) → Ev (fun k => ack_Check.j0 k l b) (if RA l then 0 else 1) := by
  intro b hb
  refine Ev.step (f := fun k => _) (fun k => by simp only [ack_Check.j0]; rfl) ?_
  have h := acheck_l0 l hn l.length 0 b (by omega) (by omega)
  have e : (if (b && upA (prevA l 0) (l.drop (0 : Int).toNat)) = true then (0 : Int) else 1) = if RA l then 0 else 1 := by
   show (if (b && upA (-1) l) = true then (0 : Int) else 1) = _
   simp only [hb]
  rw [e] at h
  exact h
 unfold ack_Check.f
 by_cases c : (l.length : Int) > 0
 ·simp only [if_pos c]
  refine key _ ?_
  unfold RA
  simp only [Bool.and_eq_true, decide_eq_true_eq]
  exact ⟨fun h => ⟨by omega, h.2.2⟩, fun h => ⟨by omega, by omega, h.2⟩⟩
 ·simp only [if_neg c]
  refine key _ ?_
  unfold RA
  simp only [Bool.false_and, Bool.false_eq_true, iff_false]
  omega
def getF (j : Nat) (a : S106) : Int := match j with
 | 0 => a.f0
 | 1 => a.f1
 | 2 => a.f2
 | _ => a.f3
theorem lit_step {P : Program} {ops : Array Oper} {o : Oper} {a : Act} {Q : Exit → Act → World → Prop} {Kc : Act → World → Prop} {W : World} (hw : Region.wanted o (yielded ops a.tmps) = true) {N : Tmp} (_hd : o.dst = some N) {cs : Array Value} {t : TypeId} {n : Nat}
  (hrun : (execOp a.eval o).run P W = .ok (.value (.slice (some ⟨W.heap.size, 0, none⟩) n n)) (W.alloc (.cells cs t (0, 0))))
  (h : ∀ g, g = W.heap.size → ∀ w1, w1.heap[g]? = some (.cells cs t (0, 0)) → Below W.heap.size W w1 → Kc (a.put o.dst (.slice (some ⟨g, 0, none⟩) n n)) w1) : if Region.wanted o (yielded ops a.tmps) = true then Oper.wp P o a W Kc Q else Kc (a.put o.dst undef) W :=
 event_step hw hrun (h _ rfl _ (blk_new W _) (below_alloc (Below.refl _ _) _))
abbrev FldC (g o : Nat) : Array Value := #[.pointer (some ⟨g, o, none⟩), .int .i64 1, .pointer (some ⟨g, o + 1, none⟩), .int .i64 4, .pointer (some ⟨g, o + 2, none⟩), .int .i64 2, .pointer (some ⟨g, o + 3, none⟩), .int .i64 2]
def ack_fields.T1 : Bool × List (List Nat × List Nat) := (true, [([], []), ([0], [0]), ([1], [1]), ([2], [2]), ([], []), ([4], [4]), ([5], [5]), ([6], [6]), ([], []), ([8], [8]), ([9], [9]), ([10], [10]), ([], []), ([12], [12]), ([13], [13]), ([14], [14]), ([3, 7, 11, 15], [3, 7, 11, 15]), ([16, 0, 1, 2, 3, 4, 5, 6, 7, 8, 9, 10, 11, 12, 13, 14, 15, 16], [16])])
def ack_fields.B1 : List Nat := [0, 1, 3, 7, 0, 16, 48, 112, 0, 256, 768, 1792, 0, 4096, 12288, 28672, 65535, 131071]
theorem ack_fields.tab1 : rtab .any (opsOf Try.f56 1) = ack_fields.T1 := by kernel_rfl
theorem ack_fields.bits1 : waitsOk ack_fields.T1.2 ack_fields.B1 = true := by kernel_rfl
theorem ack_fields.calls (g o : Nat) (w : World) :
  Calls Try.prog 56 #[.pointer (some ⟨g, o, none⟩)] w fun e w' => ∃ gl, ∃ ad : Addr, ad = ⟨gl, 0, none⟩ ∧ e = .returned (.slice (some ad) 4 4) ∧ w.heap.size ≤ gl ∧ w'.heap[gl]? = some (.cells (FldC g o) 112 (0, 0)) ∧ Below w.heap.size w w' := by
 go_enter Try.func56, Try.ntmps56
 go_wp2
 refine start_ (n := 18) (S := fun w' => True) (ds := []) #[false, false, false, false, false, false, false, false, false, false, false, false, false, false, false, false, false, false] (by kernel_rfl) rfl rfl trivial (fun hHeld => ?_); refine with_tabW ack_fields.tab1 ack_fields.bits1 (fun HT_ HW_ => ?_)
 refine pA 0 (some 3) ?_; refine pA 1 (some 4) ?_; refine pA 2 (some 5) ?_; refine pA 3 (some 6) ?_; refine pA 4 (some 7) ?_; refine pA 5 (some 8) ?_; refine pA 6 (some 9) ?_; refine pA 7 (some 10) ?_; refine pA 8 (some 11) ?_; refine pA 9 (some 12) ?_; refine pA 10 (some 13) ?_; refine pA 11 (some 14) ?_; refine pA 12 (some 15) ?_; refine pA 13 (some 16) ?_; refine pA 14 (some 17) ?_; refine pA 15 (some 18) ?_
 refine oA 16 (some 19) (fun K hK => ?_)
 refine lit_step ?hg (N := 19) ?hd (cs := FldC g o) (t := 112) (n := 4) ?hr ?_
 (case hd => rfl)
 (case hg => rfl)
 (case hr => first | (go_simp; done) | (go_simp; rfl))
 intro gl hg w1 hbox hb
 have HG := Aside0.mk hg; have HX := Aside0.mk hbox; have HB := Aside0.mk hb; clear hg hbox hb
 refine hK.out _ _ trivial (fun hHeld => ?_)
 clear hK K; refine nA 19 ?_; refine pA 17 (some 2) ?_
 refine dA ?_
 clear HT_ HW_
 go_wp2
 go_ret
 refine ⟨gl, _, rfl, rfl, ?_, HX.out, ?_⟩
 ·rw [HG.out]; exact Nat.le_refl _
 ·exact below_step (below_drew (Below.refl _ _)) HB.out
end Go.Proofs.Ytpgmmnlkiogamaa.P
namespace Go.Proofs.Ytpgmmnlkiogamaa.P
open Go.RowKit YtpgmmnlkiogamaaW.PrintWords YtpgmmnlkiogamaaW.PrintLast YtpgmmnlkiogamaaW.PrintMore
theorem two256 (n : Nat) : (2 : Int) ^ (8 * n) = 256 ^ n := by rw [Int.pow_mul]; rfl
theorem wire_Put_eq (v n : Int) (hv : (Lit.int .i64 v).wf = true) : wire_Put.f v n = some (putSpec v n) := by
 have hb := bnd64 hv
 unfold wire_Put.f putSpec
 by_cases c1 : n < 1
 ·rw [if_pos c1, if_neg (by omega)]
 rw [if_neg c1]
 by_cases c2 : n > 7
 ·rw [if_pos c2, if_neg (by omega)]
 rw [if_neg c2]
 by_cases c3 : v < 0
 ·rw [if_pos c3, if_neg (by omega)]
 rw [if_neg c3, w64 (x := 8 * n) (by omega) (by omega), if_pos (by omega)]
 obtain ⟨m, rfl⟩ := Int.eq_ofNat_of_zero_le (show 0 ≤ n by omega)
 have hs : shr .i64 v (8 * (m : Int)) = v / 256 ^ m := by
  unfold shr
  rw [Nat.min_eq_left (by simp [IntKind.bits]; omega), show (8 * (m : Int)).toNat = 8 * m by omega, two256]
 have hp := pow256_pos m
 rw [hs, Int.toNat_natCast]
 by_cases c4 : v < 256 ^ m
 ·rw [if_pos (Int.ediv_eq_zero_of_lt (by omega) c4), if_pos ⟨by omega, by omega, by omega, c4⟩]
  unfold wire_bytes.f
  rw [wrap_u64, Int.emod_eq_of_lt (by omega) (by omega), if_pos (by omega)]
  rfl
 ·rw [if_neg (fun e => c4 (by have h5 := Int.emod_def v (256 ^ m); rw [e, Int.mul_zero] at h5; have h6 := Int.emod_lt_of_pos v hp; omega)), if_neg (by omega)]
end Go.Proofs.Ytpgmmnlkiogamaa.P
namespace Go.Proofs.Ytpgmmnlkiogamaa.P
open Go.RowKit YtpgmmnlkiogamaaW.PrintWords YtpgmmnlkiogamaaW.PrintLast YtpgmmnlkiogamaaW.PrintMore
attribute [local go_sem] max2_int min2_int max_two min_two max_three min_three max_four min_four
def abSz : Nat → Nat
 | 0 => 1 | 1 => 4 | _ => 2
def fB (x : S106) : Nat → List Int
 | 0 => []
 | d + 1 => be (abSz (3 - d)) (getF (3 - d) x) ++ fB x d
def aB (x : S106) : List Int := fB x 4
theorem aB_length (x : S106) : (aB x).length = 9 := by simp [aB, fB, abSz, be_length]
def ackB (l : List S106) : List Int := ((l.length : Int) % 256) :: l.flatMap aB
def ack_Bytes.f (l : List S106) : Option (List Int × Int) := if l.length ≤ 1000000 then some (if RA l then (ackB l, 0) else ([], 1)) else none
theorem upA_mem : ∀ (l : List S106) (p : Int), upA p l = true → ∀ x ∈ l, SA x := by
 intro l
 induction l with
 | nil => intro p _ x hx; simp at hx
 | cons a l ih =>
  intro p h x hx
  simp only [upA, Bool.and_eq_true, decide_eq_true_eq] at h
  rcases List.mem_cons.1 hx with rfl | hx
  ·exact h.1.1
  ·exact ih _ h.2 x hx
theorem rd_ack_mem (l : List S106) (i : Int) (h0 : 0 ≤ i) (h1 : i < l.length) : rd_T106 l i ∈ l :=
 List.mem_of_mem_drop (i := i.toNat) (by rw [acks_get l i h0 h1]; exact List.mem_cons_self)
theorem wf64 {n : Int} (h0 : -9223372036854775808 ≤ n) (h1 : n ≤ 9223372036854775807) : (Lit.int .i64 n).wf = true := by
 simp [Lit.wf, IntKind.min, IntKind.max, IntKind.bits, IntKind.signed]; omega
theorem put_fit (x : S106) (hx : SA x) (j : Nat) (hj : j < 4) : wire_Put.f (getF j x) (abSz j : Int) = some (be (abSz j) (getF j x), 0) := by
 obtain ⟨h0, h1, h2, h3⟩ := hx
 have key : ∀ (v : Int) (n : Nat), 1 ≤ n → n ≤ 7 → 0 ≤ v → v < 256 ^ n → v ≤ 4294967295 → wire_Put.f v (n : Int) = some (be n v, 0) := by
  intro v n n1 n7 v0 v1 v2
  rw [wire_Put_eq v n (wf64 (by omega) (by omega))]
  unfold putSpec
  rw [if_pos ⟨by omega, by omega, v0, by rw [Int.toNat_natCast]; exact v1⟩, Int.toNat_natCast]
 obtain rfl | rfl | rfl | rfl : j = 0 ∨ j = 1 ∨ j = 2 ∨ j = 3 := by omega
 ·exact key x.f0 1 (by omega) (by omega) (by omega) (by rw [show (256 : Int) ^ 1 = 256 by decide]; omega) (by omega)
 ·exact key x.f1 4 (by omega) (by omega) (by omega) (by rw [show (256 : Int) ^ 4 = 4294967296 by decide]; omega) (by omega)
 ·exact key x.f2 2 (by omega) (by omega) (by omega) (by rw [show (256 : Int) ^ 2 = 65536 by decide]; omega) (by omega)
 ·exact key x.f3 2 (by omega) (by omega) (by omega) (by rw [show (256 : Int) ^ 2 = 65536 by decide]; omega) (by omega)
theorem fld_cells' {W : World} {gf g o jn : Nat} {ad : Addr} {j : Int} (BF : W.heap[gf]? = some (.cells (FldC g o) 112 (0, 0))) (had : ad = ⟨gf, 0, none⟩) (hk : jn < 4) (hj : j.toNat = jn) :
  W.cell? (ad.add (j.toNat * 2)) = some (.pointer (some ⟨g, o + jn, none⟩)) ∧ W.cell? ⟨(ad.add (j.toNat * 2)).block, (ad.add (j.toNat * 2)).off + 1, none⟩ = some (.int .i64 (abSz jn : Int)) := by
 have hl : (FldC g o)[jn * 2]? = some (.pointer (some ⟨g, o + jn, none⟩)) ∧ (FldC g o)[jn * 2 + 1]? = some (.int .i64 (abSz jn : Int)) := by
  obtain rfl | rfl | rfl | rfl : jn = 0 ∨ jn = 1 ∨ jn = 2 ∨ jn = 3 := by omega
  all_goals exact ⟨rfl, rfl⟩
 refine ⟨?_, ?_⟩
 ·rw [had, add_plain, hj, blk_cell BF, hl.1]
 ·rw [had, add_plain, hj, blk_cell BF, hl.2]
def ack_Bytes.T11 : Bool × List (List Nat × List Nat) := (true, [([], []), ([0], [0]), ([1], [1]), ([2], [2]), ([], []), ([4], [4]), ([3, 5], [3, 5]), ([6], [6]), ([7], [7]), ([7], [7]), ([8, 6, 0, 1, 2, 3, 4, 5, 6, 7, 8], [8]), ([9, 10, 0, 1, 2, 3, 4, 5, 6, 7, 8, 9, 10], [9])])
def ack_Bytes.B11 : List Nat := [0, 1, 3, 7, 0, 16, 63, 127, 255, 255, 511, 2047]
theorem ack_Bytes.tab11 : rtab .any (opsOf Try.f36 11) = ack_Bytes.T11 := by kernel_rfl
theorem ack_Bytes.bits11 : waitsOk ack_Bytes.T11.2 ack_Bytes.B11 = true := by kernel_rfl
theorem ack_Bytes.calls (A0 : Option Addr) (c0 : Nat) (l0 : List S106) (r1 : List Int) (r2 : Int) (w : World) (hr0 : Kd.C k106 w A0 l0.length l0) (hc0 : l0.length ≤ c0) (h : ack_Bytes.f l0 = some (r1, r2)) :
  Calls Try.prog 36 #[.slice A0 l0.length c0] w fun e w' => ∃ v0_ : Value, e = .returned (.tuple #[v0_, .int .i64 r2]) ∧ Kd.R (Kd.int .u8) 5 w' w.heap.size (fun _ => True) v0_ r1 ∧ Below w.heap.size w w' := by
 obtain ⟨hL0, hP⟩ : l0.length ≤ 1000000 ∧ (if RA l0 then (ackB l0, (0 : Int)) else ([], 1)) = (r1, r2) := by
  unfold ack_Bytes.f at h
  split at h
  ·rename_i hc
   exact ⟨hc, Option.some.inj h⟩
  ·exact absurd h (by simp)
 have hu106 := Try.underlying106; have hu60 := Try.underlying112; obtain ⟨K1, hK1⟩ := (acheck_ev l0 hL0).rounds; have HR0 := Aside0.mk hr0; have HC0 := Aside0.mk hc0; clear h hL0 hr0 hc0
 by_cases c : RA l0
 case neg =>
  rw [if_neg c] at hP hK1
  simp only [Prod.mk.injEq] at hP
  obtain ⟨rfl, rfl⟩ := hP; have HK2 := Aside0.mk hK1; clear hK1 c
  go_enter Try.func36, Try.ntmps36
  go_wp2_with (((with_reducible refine gate_callee (f := 55) rfl ?_); refine gL (some 13) Try.func55 #[.slice A0 l0.length c0] ?_; (with_reducible refine (ack_Check.calls K1 A0 c0 l0 _ _ HR0.out HC0.out HK2.out).mono ?_); rintro e w2 ⟨rfl, hb2⟩; refine ⟨_, rfl, ?_⟩; have HB2 := Aside0.mk hb2; clear hb2))
  go_ret2
  exact ⟨_, rfl, Kd.R_nil _ _ _ _ _, HB2.out⟩
 rw [if_pos c] at hP hK1
 simp only [Prod.mk.injEq] at hP
 obtain ⟨hP, rfl⟩ := hP; have HK2 := Aside0.mk hK1; have HP := Aside0.mk hP; have HS := Aside0.mk (upA_mem l0 _ c.2.2)
 have hn : l0.length ≤ 64 := c.2.1
 have HN := Aside0.mk hn
 have hu8 : IntKind.u8.wrap (l0.length : Int) = (l0.length : Int) % 256 := by simp [IntKind.wrap, IntKind.bits, IntKind.signed]
 clear hK1 c hP
 have hb256 : (l0.length : Int) % 256 = (l0.length : Int) := by omega
 clear hn hb256
 go_enter Try.func36, Try.ntmps36
 go_wp2_with (first
  | ((with_reducible refine gate_callee (f := 55) rfl ?_); refine gL (some 13) Try.func55 #[.slice A0 l0.length c0] ?_; (with_reducible refine (ack_Check.calls K1 A0 c0 l0 _ _ HR0.out HC0.out HK2.out).mono ?_); rintro e w2 ⟨rfl, hb2⟩; refine ⟨_, rfl, ?_⟩; have HB2 := Aside0.mk hb2; clear hb2)
  | ((with_reducible refine gate_dst (N := 20) rfl ?_); refine Kd.R_lit (Kd.int .u8) _ 5 ?hg (N := 20) ?hd (xs := ([((l0.length : Int)) % 256] : List Int)) (inner := [.int .u8 (((l0.length : Int)) % 256)]) (ok := fun _ => True) (okp := fun _ => True) ?hr ?hp (fun _ hk => hk) trivial (Below.refl _ _) (Nat.le_refl _) (by simp) ?_; (case hd => rfl); (case hg => rfl); (case hr => first | (go_simp; done) | (go_simp; rfl)); (case hp => exact (Reps.one (show Kd.M (Kd.int .u8) _ _ _ (((l0.length : Int)) % 256) [.int .u8 (((l0.length : Int)) % 256)] from rfl) (Reps.none _ _))); intro v5 w3 ho5 hb3 hg_ hnew_; clear hg_ hnew_; have HO := Aside0.mk (Kd.R_lower ho5 (below_size HB2.out)); have HB := Aside0.mk (below_step HB2.out hb3); clear ho5 hb3))
 have hst : ackB l0 = [((l0.length : Int)) % 256] ++ (l0.drop (0 : Int).toNat).flatMap aB := rfl
 have HP2 := Aside0.mk (hst.symm.trans HP.out); clear hst HP
 go_loopg [5, 23] l0.length (fun kq v5 v23 w' => ∃ (acc : List Int) (i : Int), v23 = .int .i64 i ∧ Aside0 (0 ≤ i ∧ i + kq = l0.length ∧ acc.length ≤ 1 + 9 * i) ∧ Aside0 (acc ++ (l0.drop i.toNat).flatMap aB = r1) ∧ Aside0 (Kd.R (Kd.int .u8) 5 w' w.heap.size (fun _ => True) v5 acc) ∧ Aside0 (Below w.heap.size w w'))
 case atStart => exact ⟨_, 0, rfl, ⟨by simp⟩, HP2, HO, HB⟩
 case round =>
  clear HP2 HO HB HB2; obtain ⟨acc, i, rfl, HI, HP, HO, HB⟩ := hrel
  cases gk with
  | zero =>
   have hi := HI.out
   have b0 : decide (i < (l0.length : Int)) = false := decide_eq_false (by omega)
   have hp := HP.out
   rw [List.drop_eq_nil_of_le (by omega), List.flatMap_nil, List.append_nil] at hp
   subst hp
   clear hi HI HP
   go_wp2
   go_ret2
   exact ⟨_, rfl, HO.out, HB.out⟩
  | succ k1 =>
   have hi := HI.out
   have p0 : 0 ≤ i := by omega
   have q0 : i < (l0.length : Int) := by omega
   have b0 : decide (i < (l0.length : Int)) = true := decide_eq_true q0
   obtain ⟨ad, eA, hx0, hx1, hx2, hx3⟩ := at_T106 (Kd.C_below HR0.out HB.out) i p0 q0
   subst eA
   have hx := HS.out _ (rd_ack_mem l0 i p0 q0); have hp := HP.out
   rw [acks_get l0 i p0 q0, List.flatMap_cons] at hp
   generalize rd_T106 l0 i = x at hx0 hx1 hx2 hx3 hx hp
   have HX := Aside0.mk hx; have HQ := Aside0.mk hp
   have p0' := eq_true p0
   have q0' := eq_true q0
   clear hi hx hp HP
   go_wp2_with (first
    | ((with_reducible refine gate_dst (N := 7) rfl ?_); refine bx #[.int .i64 0, .int .i64 0, .int .i64 0, .int .i64 0] 106 ?_; intro ga hg w5 hbox hb; have HW := Aside0.mk hb; have GA := Aside0.mk (Nat.le_of_eq hg.symm); have BA := Aside0.mk hbox; clear hb hbox hg; obtain ⟨u0, u1, u2, u3⟩ := cA4 BA; obtain ⟨uf0, uf1, uf2, uf3⟩ := fA4 BA)
    | ((with_reducible refine gate_callee (f := 56) rfl ?_); refine gL (some 27) Try.func56 #[.pointer (some ⟨ga, 0, none⟩)] ?_; (with_reducible refine (ack_fields.calls ga 0 _).mono ?_); rintro e w6 ⟨gf, adf, hadf, rfl, hgf, hbf, hb6⟩; refine ⟨_, rfl, ?_⟩; have HB6 := Aside0.mk hb6; have GF := Aside0.mk hgf; have BF := Aside0.mk hbf; have HADF := Aside0.mk hadf; clear hgf hbf hadf hb6))
   have hbw := below_step (below_set (below_set (below_set (below_set HW.out (j := 0) (v := .int .i64 x.f0) GA.out) (j := 1) (v := .int .i64 x.f1) GA.out) (j := 2) (v := .int .i64 x.f2) GA.out) (j := 3) (v := .int .i64 x.f3) GA.out) HB6.out; have BA6 := Aside0.mk (blk_below (g := ga) (o := .cells #[.int .i64 x.f0, .int .i64 x.f1, .int .i64 x.f2, .int .i64 x.f3] 106 (0, 0)) (by refine blk_put (cs := #[.int .i64 x.f0, .int .i64 x.f1, .int .i64 x.f2, .int .i64 0]) ?_ 3 _ rfl; refine blk_put (cs := #[.int .i64 x.f0, .int .i64 x.f1, .int .i64 0, .int .i64 0]) ?_ 2 _ rfl; refine blk_put (cs := #[.int .i64 x.f0, .int .i64 0, .int .i64 0, .int .i64 0]) ?_ 1 _ rfl; refine blk_put (cs := #[.int .i64 0, .int .i64 0, .int .i64 0, .int .i64 0]) ?_ 0 _ rfl; exact BA.out) HB6.out); have HO6 := Aside0.mk (Kd.R_below HO.out hbw); have HBW := Aside0.mk (below_step HB.out hbw); have hle := HI.out; have HQ2 := Aside0.mk (show acc ++ (fB x 4 ++ (l0.drop (i + 1).toNat).flatMap aB) = r1 from HQ.out); have HQL := Aside0.mk (show (acc.length : Int) + (fB x 4).length ≤ 1 + 9 * (i + 1) by have := aB_length x; unfold aB at this; omega); clear hbw hle BA HO HB HB6 u0 u1 u2 u3 uf0 uf1 uf2 uf3 HW GA b0 p0 q0 p0' q0' hx0 hx1 hx2 hx3 HQ
   go_loopg [5, 29] 4 (fun kq v5 v29 w' => ∃ (acc2 : List Int) (j : Int), v29 = .int .i64 j ∧ Aside0 (0 ≤ j ∧ j + kq = 4 ∧ (acc2.length : Int) + (fB x kq).length ≤ 1 + 9 * (i + 1)) ∧ Aside0 (acc2 ++ (fB x kq ++ (l0.drop (i + 1).toNat).flatMap aB) = r1) ∧ Aside0 (Kd.R (Kd.int .u8) 5 w' w.heap.size (fun _ => True) v5 acc2) ∧ Aside0 (w'.heap[ga]? = some (.cells #[.int .i64 x.f0, .int .i64 x.f1, .int .i64 x.f2, .int .i64 x.f3] 106 (0, 0))) ∧ Aside0 (w'.heap[gf]? = some (.cells (FldC ga 0) 112 (0, 0))) ∧ Aside0 (Below w.heap.size w w'))
   case atStart => exact ⟨acc, 0, rfl, ⟨by have := HQL.out; omega⟩, HQ2, HO6, BA6, BF, HBW⟩
   case round =>
    clear HQ2 HO6 BA6 BF HBW HQL; obtain ⟨acc2, j, rfl, HJ, HQ, HO, BA, BF, HB⟩ := hrel
    cases gk with
    | zero =>
     obtain rfl : j = 4 := by have := HJ.out; omega
     have HQ2 := Aside0.mk (show acc2 ++ (l0.drop (i + 1).toNat).flatMap aB = r1 from HQ.out)
     have hi0 : 0 ≤ i := by have := HI.out; omega
     have hi1 : i ≤ 64 := by have := HI.out; have := HN.out; omega
     have HJ2 := Aside0.mk (show (acc2.length : Int) ≤ 1 + 9 * (i + 1) by have h_ := HJ.out.2.2; simp only [fB, List.length_nil] at h_; omega); clear HQ HJ
     go_wp2
     go_roundg k1
     case measure => omega
     case rel =>
      have hi := HI.out
      exact ⟨acc2, i + 1, rfl, ⟨by have := HJ2.out; omega⟩, HQ2, HO, HB⟩
    | succ d =>
     have hj := HJ.out
     obtain ⟨jn, hjn⟩ : ∃ n, n = 3 - d := ⟨_, rfl⟩
     have hjt : j.toNat = jn := by omega
     have hj3 : jn < 4 := by omega
     obtain ⟨cA, cB⟩ := fld_cells' BF.out HADF.out hj3 hjt
     rw [Nat.zero_add] at cA
     obtain ⟨pa, hpa⟩ : ∃ p : Addr, p = ⟨ga, jn, none⟩ := ⟨_, rfl⟩
     rw [← hpa] at cA
     have HPA := Aside0.mk hpa
     obtain ⟨sz, hsz⟩ : ∃ s : Int, s = (abSz jn : Int) := ⟨_, rfl⟩
     rw [← hsz] at cB
     obtain ⟨vl, hvl⟩ : ∃ s, s = getF jn x := ⟨_, rfl⟩
     have HPF := Aside0.mk (show wire_Put.f vl sz = some (be (abSz jn) (getF jn x), 0) by rw [hsz, hvl]; exact put_fit x HX.out jn hj3); have HJN := Aside0.mk (show jn < 4 ∧ jn = 3 - d ∧ d ≤ 3 from ⟨hj3, hjn, by omega⟩); have HVL := Aside0.mk hvl
     have p0 : 0 ≤ j := hj.1
     have q0 : j < 4 := by omega
     have b0 : decide (j < 4) = true := decide_eq_true q0
     have p0' := eq_true p0
     have q0' := eq_true q0
     clear hj hjt hjn hj3 hpa hsz hvl
     go_upto_region 11 with (((with_reducible refine gate_dst (N := 9) rfl ?_); refine bx #[.pointer none, .int .i64 0] 112 ?_; intro gb hg w6 hbox hb; have HW := Aside0.mk hb; have GB := Aside0.mk (Nat.le_of_eq hg.symm); have BX := Aside0.mk hbox; clear hb hbox hg; obtain ⟨u0, u1⟩ := cA2 BX; obtain ⟨uf0, uf1⟩ := fA2 BX))
     have BX2 := Aside0.mk (show ((w6.setCell ⟨gb, 0, none⟩ (.pointer (some pa))).setCell ⟨gb, 1, none⟩ (.int .i64 sz)).heap[gb]? = some (.cells #[.pointer (some pa), .int .i64 sz] 112 (0, 0)) by refine blk_put (cs := #[.pointer (some pa), .int .i64 0]) ?_ 1 _ rfl; refine blk_put (cs := #[.pointer none, .int .i64 0]) ?_ 0 _ rfl; exact BX.out)
     have hbw : Below wr.heap.size wr ((w6.setCell ⟨gb, 0, none⟩ (.pointer (some pa))).setCell ⟨gb, 1, none⟩ (.int .i64 sz)) := below_set (below_set HW.out GB.out) GB.out
     have HB6 := Aside0.mk (below_step HB.out hbw); have BA6 := Aside0.mk (blk_below BA.out hbw); have BF6 := Aside0.mk (blk_below BF.out hbw); have HO6 := Aside0.mk (Kd.R_below HO.out hbw); clear u0 u1 uf0 uf1 BX HW HB HO BA BF hbw
     generalize ((w6.setCell ⟨gb, 0, none⟩ (.pointer (some pa))).setCell ⟨gb, 1, none⟩ (.int .i64 sz)) = wq at BX2 HB6 BA6 BF6 HO6 ⊢
     have cp : wq.drew.cell? pa = some (.int .i64 vl) := by
      show wq.cell? pa = _
      rw [HPA.out, blk_cell BA6.out, HVL.out]
      have hjn := HJN.out.1
      obtain rfl | rfl | rfl | rfl : jn = 0 ∨ jn = 1 ∨ jn = 2 ∨ jn = 3 := by omega
      all_goals rfl
     refine start_ (n := 12) (S := fun w' => w'.cell? ⟨gb, 0, none⟩ = some (.pointer (some pa)) ∧ w'.cell? ⟨gb, 1, none⟩ = some (.int .i64 sz) ∧ w'.cell? pa = some (.int .i64 vl)) (ds := []) #[false, false, false, false, false, false, false, false, false, false, false, false] (by kernel_rfl) rfl rfl ⟨(blk_cell BX2.out 0).trans rfl, (blk_cell BX2.out 1).trans rfl, cp⟩ (fun hHeld => ?_); refine with_tabW ack_Bytes.tab11 ack_Bytes.bits11 (fun HT_ HW_ => ?_)
     refine pA 0 (some 34) ?_; refine pA 4 (some 38) ?_; refine tA 1 (some 35) ?_; refine pA 2 (some 36) ?_; refine tA 3 (some 37) ?_; refine tA 5 (some 39) ?_
     refine oA 6 (some 40) (fun K hK => ?_)
     refine goes_ Try.func20 (by kernel_rfl) rfl #[.int .i64 vl, .int .i64 sz] (by rfl) rfl rfl (by simp only [List.map_toArray, List.map_cons, List.map_nil]; rfl) ?_
     with_reducible refine (wire_Put.calls vl sz _ _ _ HPF.out).mono ?_
     rintro e w7 ⟨vb, rfl, ho7, hb7⟩
     refine ⟨_, rfl, ?_⟩
     have HB7 := Aside0.mk (below_step (below_drew HB6.out) hb7); have BA7 := Aside0.mk (blk_below (w := wq.drew) BA6.out hb7); have BF7 := Aside0.mk (blk_below (w := wq.drew) BF6.out hb7); have BX7 := Aside0.mk (blk_below (w := wq.drew) BX2.out hb7); have HO7 := Aside0.mk (Kd.R_below (Kd.R_drew HO6.out) hb7); have HV7 := Aside0.mk ho7; have cp7 := pw_cell_below hb7 cp; clear hb7 ho7
     refine hK.out _ _ ⟨(blk_cell BX7.out 0).trans rfl, (blk_cell BX7.out 1).trans rfl, cp7⟩ (fun hHeld => ?_)
     clear hK K; refine nA 40 ?_; refine pA 7 (some 33) ?_; refine pA 8 (some 41) ?_; refine pA 9 (some 42) ?_; refine pA 10 (some 10) ?_; refine pA 11 (some 11) ?_
     refine dA ?_
     clear HT_ HW_; obtain ⟨Ab, cb, rfl⟩ := Kd.R_slice HV7.out; have hvl := HV7.out; have HLM := Aside0.mk (show (acc2.length : Int) + (be (abSz jn) (getF jn x)).length ≤ 1000 by
      have h_ := HJ.out.2.2; have hjn := HJN.out; have hi := HI.out; have hn := HN.out
      rw [be_length]
      have : abSz jn ≤ 4 := by unfold abSz; split <;> omega
      omega)
     go_wp2_with (((with_reducible refine gate_builtin (b := .append) (xs := #[.tmp 43, .tmp 44]) rfl ?_); at_builtin; refine Kd.R_append_row (Value.int .u8) 0 (h1 := fun _ => rfl) (w0 := w) w.heap.size rfl (.tmp 43) (.tmp 44) 26 5 (.int .u8 0) 1 rfl Try.underlying26 info5 rfl (by decide) u5 acc2 (be (abSz jn) (getF jn x)) Ab _ _ (fun _ => True) rfl rfl (fun _ _ => trivial) HO7.out (Kd.R_reads' HV7.out).2.2 HB7.out (below_size HB7.out) (by have := HLM.out; omega) ?_; intro v9 w9 ho9 hb9 hg9 hat9; have HO9 := Aside0.mk ho9; have HB9 := Aside0.mk hb9; have BA9 := Aside0.mk (blk_grown BA7.out hg9 (Kd.R_ne HO7.out BA7.out (by decide))); have BF9 := Aside0.mk (blk_grown BF7.out hg9 (Kd.R_ne HO7.out BF7.out (by decide))); clear ho9 hb9 hg9 hat9))
     go_roundg d
     case measure => omega
     case rel =>
      have hj := HJ.out; have hjn := HJN.out; have hq := HQ.out
      simp only [fB, List.length_append] at hj
      simp only [fB, List.append_assoc] at hq
      rw [← hjn.2.1] at hj hq
      refine ⟨acc2 ++ be (abSz jn) (getF jn x), j + 1, rfl, ⟨?_⟩, ⟨?_⟩, HO9, BA9, BF9, HB9⟩
      ·rw [List.length_append]; omega
      ·rw [List.append_assoc]; exact hq
end Go.Proofs.Ytpgmmnlkiogamaa.P
namespace Go.Proofs.Ytpgmmnlkiogamaa.P
open Go.RowKit YtpgmmnlkiogamaaW.PrintWords YtpgmmnlkiogamaaW.PrintLast YtpgmmnlkiogamaaW.PrintMore
theorem grown_below2 {w w1 w2 : World} {r : Nat} (hb : Below w.heap.size w w1) (hr : w.heap.size ≤ r) (h : w1.grownBy w2 (some r)) : Below w.heap.size w w2 := pw_below_grown hb (some r) hb.size h (fun k e => by cases e; exact hr)
theorem by_no (a0 : Int) (a1 a3 b0 b1 b2 b3 : Int) (A2 A4 A5 : Option Addr) (n2 c2 n4 c4 n5 c5 : Nat) (s4 : ByteArray) (w : World) (k1 : ¬ a0 = 1) (k2 : ¬ a0 = 2) (k3 : ¬ a0 = 3) (k4 : ¬ a0 = 4) :
  Calls Try.prog 21 #[.agg #[.int .i64 a0, .int .i64 a1, .slice A2 n2 c2, .int .i64 a3, .slice A4 n4 c4, .slice A5 n5 c5, .int .i64 b0, .int .i64 b1, .int .i64 b2, .int .i64 b3, .string s4]] w fun e w' => e = .returned (.tuple #[.slice none 0 0, .bool false]) ∧ Below w.heap.size w w' := by
 have hu50 := Try.underlying50
 have hmm := @run_makeMap Try.prog
 go_enter Try.func21, Try.ntmps21
 go_upto_region 1 with (first
  | ((with_reducible refine gate_dst (N := 1) rfl ?_); refine box_event ?hg (N := 1) ?hd (cs := #[.int .i64 a0, .int .i64 a1, .slice A2 n2 c2, .int .i64 a3, .slice A4 n4 c4, .slice A5 n5 c5, .int .i64 b0, .int .i64 b1, .int .i64 b2, .int .i64 b3, .string s4]) (t := 50) ?hr ?_; (case hd => rfl); (case hg => rfl); (case hr => first | (go_simp; done) | (go_simp; rfl) | rfl | kernel_rfl); intro g1 hg w1 hbox hb; have X1 := Aside0.mk hbox; have L1 := Aside0.mk hb; have N1 := Aside0.mk (show w.heap.size ≤ g1 by rw [hg]; exact Nat.le_refl _); clear hb hbox hg))
 obtain ⟨rm, hrm⟩ : ∃ rm, rm = w1.heap.size := ⟨_, rfl⟩
 have NM := Aside0.mk (show w.heap.size ≤ rm by rw [hrm]; exact L1.out.size)
 obtain ⟨W0, hW0⟩ : ∃ W0, W0 = w1.alloc (.map #[] 0) := ⟨_, rfl⟩
 have M0 : W0.heap[rm]? = some (.map #[] 0) := by rw [hW0, hrm]; exact blk_new _ _
 have G0 : Below w.heap.size w W0 := by rw [hW0]; exact below_alloc L1.out _
 have Y0 : W0.heap[g1]? = some (.cells #[.int .i64 a0, .int .i64 a1, .slice A2 n2 c2, .int .i64 a3, .slice A4 n4 c4, .slice A5 n5 c5, .int .i64 b0, .int .i64 b1, .int .i64 b2, .int .i64 b3, .string s4] 50 (0, 0)) := by rw [hW0]; exact blk_below X1.out (below_alloc (Below.refl _ _) _)
 obtain ⟨W1, hi1, M1, gr1⟩ := ins_new (P := Try.prog) (mty := 76) Try.underlying76 Try.underlying3 M0 1 (.func (.func 31) #[] #[.pointer (some ⟨g1, 0, none⟩)]) (by rfl)
 have G1 : Below w.heap.size w W1 := grown_below2 G0 NM.out gr1
 have Y1 : W1.heap[g1]? = some (.cells #[.int .i64 a0, .int .i64 a1, .slice A2 n2 c2, .int .i64 a3, .slice A4 n4 c4, .slice A5 n5 c5, .int .i64 b0, .int .i64 b1, .int .i64 b2, .int .i64 b3, .string s4] 50 (0, 0)) := (gr1.block g1 (blk_lt Y0) (fun e => by cases e; rw [M0] at Y0; cases Y0)).trans Y0
 obtain ⟨W2, hi2, M2, gr2⟩ := ins_new (P := Try.prog) (mty := 76) Try.underlying76 Try.underlying3 M1 2 (.func (.func 33) #[] #[.pointer (some ⟨g1, 0, none⟩)]) (by rfl)
 have G2 : Below w.heap.size w W2 := grown_below2 G1 NM.out gr2
 have Y2 : W2.heap[g1]? = some (.cells #[.int .i64 a0, .int .i64 a1, .slice A2 n2 c2, .int .i64 a3, .slice A4 n4 c4, .slice A5 n5 c5, .int .i64 b0, .int .i64 b1, .int .i64 b2, .int .i64 b3, .string s4] 50 (0, 0)) := (gr2.block g1 (blk_lt Y1) (fun e => by cases e; rw [M1] at Y1; cases Y1)).trans Y1
 obtain ⟨W3, hi3, M3, gr3⟩ := ins_new (P := Try.prog) (mty := 76) Try.underlying76 Try.underlying3 M2 3 (.func (.func 35) #[] #[.pointer (some ⟨g1, 0, none⟩)]) (by rfl)
 have G3 : Below w.heap.size w W3 := grown_below2 G2 NM.out gr3
 have Y3 : W3.heap[g1]? = some (.cells #[.int .i64 a0, .int .i64 a1, .slice A2 n2 c2, .int .i64 a3, .slice A4 n4 c4, .slice A5 n5 c5, .int .i64 b0, .int .i64 b1, .int .i64 b2, .int .i64 b3, .string s4] 50 (0, 0)) := (gr3.block g1 (blk_lt Y2) (fun e => by cases e; rw [M2] at Y2; cases Y2)).trans Y2
 obtain ⟨W4, hi4, M4, gr4⟩ := ins_new (P := Try.prog) (mty := 76) Try.underlying76 Try.underlying3 M3 4 (.func (.func 37) #[] #[.pointer (some ⟨g1, 0, none⟩)]) (by rfl)
 have G4 : Below w.heap.size w W4 := grown_below2 G3 NM.out gr4
 have Y4 : W4.heap[g1]? = some (.cells #[.int .i64 a0, .int .i64 a1, .slice A2 n2 c2, .int .i64 a3, .slice A4 n4 c4, .slice A5 n5 c5, .int .i64 b0, .int .i64 b1, .int .i64 b2, .int .i64 b3, .string s4] 50 (0, 0)) := (gr4.block g1 (blk_lt Y3) (fun e => by cases e; rw [M3] at Y3; cases Y3)).trans Y3
 have hz : (zeroValue 72).run Try.prog W4 = .ok .nilFunc W4 := by first | rfl | kernel_rfl | (go_simp; done)
 have hlk := look_no (P := Try.prog) (mty := 76) Try.underlying76 Try.underlying3 M4 a0 .nilFunc hz (by simp [Instr.findNow, Instr.sameNow, beq_eq_false_iff_ne.mpr k1, beq_eq_false_iff_ne.mpr k2, beq_eq_false_iff_ne.mpr k3, beq_eq_false_iff_ne.mpr k4])
 have Y4A := Aside0.mk Y4
 have G4A := Aside0.mk G4
 have ya : W4.cell? ⟨g1, 0, none⟩ = some (.int .i64 a0) := (blk_cell Y4 0).trans rfl
 clear M0 M1 M2 M3 M4 G0 G1 G2 G3 G4 Y0 Y1 Y2 Y3 Y4 gr1 gr2 gr3 gr4
 subst hW0
 subst hrm
 clear k1 k2 k3 k4
 go_wp2
 go_ret2
 exact ⟨rfl, G4A.out⟩
theorem clo1 (g1 : Nat) (a0 : Int) (a1 a3 b0 b1 b2 b3 : Int) (A2 A4 A5 : Option Addr) (n2 c2 n4 c4 n5 c5 : Nat) (s4 : ByteArray) (w : World) (hb : w.heap[g1]? = some (.cells #[.int .i64 a0, .int .i64 a1, .slice A2 n2 c2, .int .i64 a3, .slice A4 n4 c4, .slice A5 n5 c5, .int .i64 b0, .int .i64 b1, .int .i64 b2, .int .i64 b3, .string s4] 50 (0, 0))) (k : Nat) (l2 : List S101) (hn : n2 = l2.length) (hr : Kd.C k101 w A2 n2 l2) (hc : n2 ≤ c2) (r1 : List Int) (r2 : Int) (h : beacon_Bytes.f k a1 l2 = some (r1, r2)) :
  Calls Try.prog 31 #[.pointer (some ⟨g1, 0, none⟩)] w fun e w' => ∃ v_ : Value, e = .returned (.tuple #[v_, .int .i64 r2]) ∧ Kd.R (Kd.int .u8) 5 w' w.heap.size (fun _ => True) v_ r1 ∧ Below w.heap.size w w' := by
 subst hn
 have HR := Aside0.mk hr
 have HC := Aside0.mk hc
 have HH := Aside0.mk h
 have u1 : w.cell? ⟨g1, 1, none⟩ = some (.int .i64 a1) := (blk_cell hb 1).trans rfl
 have u2 : w.cell? ⟨g1, 2, none⟩ = some (.slice A2 l2.length c2) := (blk_cell hb 2).trans rfl
 clear h hb hr hc
 go_enter Try.func31, Try.ntmps31
 go_wp2_with (go_at_call 32; (with_reducible refine (beacon_Bytes.calls k a1 A2 c2 l2 r1 r2 _ HR.out HC.out HH.out).mono ?_); rintro e w' ⟨v, rfl, hv, hb2⟩; have HV := Aside0.mk hv; have HB := Aside0.mk hb2; clear hv hb2)
 go_ret2
 exact ⟨_, rfl, HV.out, HB.out⟩
theorem clo2 (g1 : Nat) (a0 : Int) (a1 a3 b0 b1 b2 b3 : Int) (A2 A4 A5 : Option Addr) (n2 c2 n4 c4 n5 c5 : Nat) (s4 : ByteArray) (w : World) (hb : w.heap[g1]? = some (.cells #[.int .i64 a0, .int .i64 a1, .slice A2 n2 c2, .int .i64 a3, .slice A4 n4 c4, .slice A5 n5 c5, .int .i64 b0, .int .i64 b1, .int .i64 b2, .int .i64 b3, .string s4] 50 (0, 0))) (k : Nat) (l4 : List S62) (hn : n4 = l4.length) (hr : Kd.C k62 w A4 n4 l4) (hc : n4 ≤ c4) (r1 : List Int) (r2 : Int) (h : batch_Bytes.f k a3 l4 = some (r1, r2)) :
  Calls Try.prog 33 #[.pointer (some ⟨g1, 0, none⟩)] w fun e w' => ∃ v_ : Value, e = .returned (.tuple #[v_, .int .i64 r2]) ∧ Kd.R (Kd.int .u8) 5 w' w.heap.size (fun _ => True) v_ r1 ∧ Below w.heap.size w w' := by
 subst hn
 have HR := Aside0.mk hr
 have HC := Aside0.mk hc
 have HH := Aside0.mk h
 have u3 : w.cell? ⟨g1, 3, none⟩ = some (.int .i64 a3) := (blk_cell hb 3).trans rfl
 have u4 : w.cell? ⟨g1, 4, none⟩ = some (.slice A4 l4.length c4) := (blk_cell hb 4).trans rfl
 clear h hb hr hc
 go_enter Try.func33, Try.ntmps33
 go_wp2_with (go_at_call 34; (with_reducible refine (batch_Bytes.calls k a3 A4 c4 l4 r1 r2 _ HR.out HC.out HH.out).mono ?_); rintro e w' ⟨v, rfl, hv, hb2⟩; have HV := Aside0.mk hv; have HB := Aside0.mk hb2; clear hv hb2)
 go_ret2
 exact ⟨_, rfl, HV.out, HB.out⟩
theorem clo3 (g1 : Nat) (a0 : Int) (a1 a3 b0 b1 b2 b3 : Int) (A2 A4 A5 : Option Addr) (n2 c2 n4 c4 n5 c5 : Nat) (s4 : ByteArray) (w : World) (hb : w.heap[g1]? = some (.cells #[.int .i64 a0, .int .i64 a1, .slice A2 n2 c2, .int .i64 a3, .slice A4 n4 c4, .slice A5 n5 c5, .int .i64 b0, .int .i64 b1, .int .i64 b2, .int .i64 b3, .string s4] 50 (0, 0))) (l5 : List S106) (hn : n5 = l5.length) (hr : Kd.C k106 w A5 n5 l5) (hc : n5 ≤ c5) (r1 : List Int) (r2 : Int) (h : ack_Bytes.f l5 = some (r1, r2)) :
  Calls Try.prog 35 #[.pointer (some ⟨g1, 0, none⟩)] w fun e w' => ∃ v_ : Value, e = .returned (.tuple #[v_, .int .i64 r2]) ∧ Kd.R (Kd.int .u8) 5 w' w.heap.size (fun _ => True) v_ r1 ∧ Below w.heap.size w w' := by
 subst hn
 have HR := Aside0.mk hr
 have HC := Aside0.mk hc
 have HH := Aside0.mk h
 have u5 : w.cell? ⟨g1, 5, none⟩ = some (.slice A5 l5.length c5) := (blk_cell hb 5).trans rfl
 clear h hb hr hc
 go_enter Try.func35, Try.ntmps35
 go_wp2_with (go_at_call 36; (with_reducible refine (ack_Bytes.calls A5 c5 l5 r1 r2 _ HR.out HC.out HH.out).mono ?_); rintro e w' ⟨v, rfl, hv, hb2⟩; have HV := Aside0.mk hv; have HB := Aside0.mk hb2; clear hv hb2)
 go_ret2
 exact ⟨_, rfl, HV.out, HB.out⟩
theorem clo4 (g1 : Nat) (a0 : Int) (a1 a3 b0 b1 b2 b3 : Int) (A2 A4 A5 : Option Addr) (n2 c2 n4 c4 n5 c5 : Nat) (s4 : ByteArray) (w : World) (hb : w.heap[g1]? = some (.cells #[.int .i64 a0, .int .i64 a1, .slice A2 n2 c2, .int .i64 a3, .slice A4 n4 c4, .slice A5 n5 c5, .int .i64 b0, .int .i64 b1, .int .i64 b2, .int .i64 b3, .string s4] 50 (0, 0))) (k : Nat) (r1 : List Int) (r2 : Int) (h : packet_Bytes.f k b0 b1 b2 b3 s4 = some (r1, r2)) :
  Calls Try.prog 37 #[.pointer (some ⟨g1, 0, none⟩)] w fun e w' => ∃ v_ : Value, e = .returned (.tuple #[v_, .int .i64 r2]) ∧ Kd.R (Kd.int .u8) 5 w' w.heap.size (fun _ => True) v_ r1 ∧ Below w.heap.size w w' := by
 have HH := Aside0.mk h
 have u6 : w.cell? ⟨g1, 6, none⟩ = some (.int .i64 b0) := (blk_cell hb 6).trans rfl
 have u7 : w.cell? ⟨g1, 7, none⟩ = some (.int .i64 b1) := (blk_cell hb 7).trans rfl
 have u8 : w.cell? ⟨g1, 8, none⟩ = some (.int .i64 b2) := (blk_cell hb 8).trans rfl
 have u9 : w.cell? ⟨g1, 9, none⟩ = some (.int .i64 b3) := (blk_cell hb 9).trans rfl
 have u10 : w.cell? ⟨g1, 10, none⟩ = some (.string s4) := (blk_cell hb 10).trans rfl
 clear h hb
 go_enter Try.func37, Try.ntmps37
 go_wp2_with (go_at_call 38; (with_reducible refine (packet_Bytes.calls k b0 b1 b2 b3 s4 r1 r2 _ HH.out).mono ?_); rintro e w' ⟨v, rfl, hv, hb2⟩; have HV := Aside0.mk hv; have HB := Aside0.mk hb2; clear hv hb2)
 go_ret2
 exact ⟨_, rfl, HV.out, HB.out⟩
theorem idx4 (e1 e2 e3 e4 : Bool) (i : Nat) (v : Bool) (hi : i < 4) (hv : #[Value.bool e1, .bool e2, .bool e3, .bool e4][i]? = some (.bool v)) (w : World) : (Instr.index 78 (.agg #[.bool e1, .bool e2, .bool e3, .bool e4]) (.int .i64 (i : Int))).run Try.prog w = .ok (.bool v) w := by
 have hs : (sizeOf 4).run Try.prog w = .ok 1 w := by
  have h : Try.prog.cellsOf 4 = 1 := by kernel_rfl
  obtain ⟨j, hj⟩ := info_of_underlying Try.underlying4
  rw [run_sizeOf w hj, h]
 have hp := run_part_plain (P := Try.prog) w (e := 4) (by kernel_rfl) (off := i) hv
 simp [Instr.index, asIntOf, run_underlying Try.underlying78, hs, hp, hi, Result.andThen]
def CB (g1 : Nat) (a0 a1 a3 b0 b1 b2 b3 : Int) (A2 A4 A5 : Option Addr) (n2 c2 n4 c4 n5 c5 : Nat) (s4 : ByteArray) (w : World) : Prop := w.heap[g1]? = some (.cells #[.int .i64 a0, .int .i64 a1, .slice A2 n2 c2, .int .i64 a3, .slice A4 n4 c4, .slice A5 n5 c5, .int .i64 b0, .int .i64 b1, .int .i64 b2, .int .i64 b3, .string s4] 50 (0, 0))
def cf (a0 : Int) : FuncId := if a0 = 1 then 31 else if a0 = 2 then 33 else if a0 = 3 then 35 else 37
def okk (a0 : Int) (e1 e2 e3 e4 : Bool) (x : Int) : Prop := (1 ≤ x → e1 = true ∨ a0 = 1) ∧ (2 ≤ x → e2 = true ∨ a0 = 2) ∧ (3 ≤ x → e3 = true ∨ a0 = 3) ∧ (4 ≤ x → e4 = true ∨ a0 = 4)
theorem by_k (a0 a1 a3 b0 b1 b2 b3 : Int) (A2 A4 A5 : Option Addr) (n2 c2 n4 c4 n5 c5 : Nat) (s4 : ByteArray) (w : World) (e1 e2 e3 e4 : Bool) (h1 : (a1 == 0 && ((n2 : Int) == 0)) = e1) (h2 : (a3 == 0 && ((n4 : Int) == 0)) = e2) (h3 : ((n5 : Int) == 0) = e3) (h4 : (b0 == 0 && (b1 == 0 && (b2 == 0 && (b3 == 0 && s4.toList.isEmpty)))) = e4) (kk : a0 = 1 ∨ a0 = 2 ∨ a0 = 3 ∨ a0 = 4) (r1 : List Int) (r2 : Int)
  (hcl : okk a0 e1 e2 e3 e4 4 → ∀ g1 wr, Below w.heap.size w wr → CB g1 a0 a1 a3 b0 b1 b2 b3 A2 A4 A5 n2 c2 n4 c4 n5 c5 s4 wr → Calls Try.prog (cf a0) #[.pointer (some ⟨g1, 0, none⟩)] wr fun e w' => ∃ v_ : Value, e = .returned (.tuple #[v_, .int .i64 r2]) ∧ Kd.R (Kd.int .u8) 5 w' wr.heap.size (fun _ => True) v_ r1 ∧ Below wr.heap.size wr w') :
  Calls Try.prog 21 #[.agg #[.int .i64 a0, .int .i64 a1, .slice A2 n2 c2, .int .i64 a3, .slice A4 n4 c4, .slice A5 n5 c5, .int .i64 b0, .int .i64 b1, .int .i64 b2, .int .i64 b3, .string s4]] w fun e w' => ((okk a0 e1 e2 e3 e4 4 → ∃ v_ : Value, e = .returned (.tuple #[v_, .bool (r2 == 0)]) ∧ Kd.R (Kd.int .u8) 5 w' w.heap.size (fun _ => True) v_ r1) ∧ (¬ okk a0 e1 e2 e3 e4 4 → e = .returned (.tuple #[.slice none 0 0, .bool false]))) ∧ Below w.heap.size w w' := by
 have E1 := Aside0.mk h1
 have E2 := Aside0.mk h2
 have E3 := Aside0.mk h3
 have E4 := Aside0.mk h4
 have HC := Aside0.mk hcl
 clear h1 h2 h3 h4 hcl
 have hu50 := Try.underlying50
 have hmm := @run_makeMap Try.prog
 have KK := Aside0.mk kk
 clear kk
 go_enter Try.func21, Try.ntmps21
 go_upto_region 1 with (((with_reducible refine gate_dst (N := 1) rfl ?_); refine box_event ?hg (N := 1) ?hd (cs := #[.int .i64 a0, .int .i64 a1, .slice A2 n2 c2, .int .i64 a3, .slice A4 n4 c4, .slice A5 n5 c5, .int .i64 b0, .int .i64 b1, .int .i64 b2, .int .i64 b3, .string s4]) (t := 50) ?hr ?_; (case hd => rfl); (case hg => rfl); (case hr => first | (go_simp; done) | (go_simp; rfl) | rfl | kernel_rfl); intro g1 hg w1 hbox hb; have X1 := Aside0.mk hbox; have L1 := Aside0.mk hb; have N1 := Aside0.mk (show w.heap.size ≤ g1 by rw [hg]; exact Nat.le_refl _); clear hb hbox hg))
 obtain ⟨rm, hrm⟩ : ∃ rm, rm = w1.heap.size := ⟨_, rfl⟩
 have NM := Aside0.mk (show w.heap.size ≤ rm by rw [hrm]; exact L1.out.size)
 obtain ⟨W0, hW0⟩ : ∃ W0, W0 = w1.alloc (.map #[] 0) := ⟨_, rfl⟩
 have M0 : W0.heap[rm]? = some (.map #[] 0) := by rw [hW0, hrm]; exact blk_new _ _
 have G0 : Below w.heap.size w W0 := by rw [hW0]; exact below_alloc L1.out _
 have Y0 : CB g1 a0 a1 a3 b0 b1 b2 b3 A2 A4 A5 n2 c2 n4 c4 n5 c5 s4 W0 := by rw [hW0]; exact blk_below X1.out (below_alloc (Below.refl _ _) _)
 obtain ⟨W1, hi1, M1, gr1⟩ := ins_new (P := Try.prog) (mty := 76) Try.underlying76 Try.underlying3 M0 1 (.func (.func 31) #[] #[.pointer (some ⟨g1, 0, none⟩)]) (by rfl)
 have G1 : Below w.heap.size w W1 := grown_below2 G0 NM.out gr1
 have Y1 : CB g1 a0 a1 a3 b0 b1 b2 b3 A2 A4 A5 n2 c2 n4 c4 n5 c5 s4 W1 := (gr1.block g1 (blk_lt Y0) (fun e => by cases e; have y := Y0; unfold CB at y; rw [M0] at y; cases y)).trans Y0
 obtain ⟨W2, hi2, M2, gr2⟩ := ins_new (P := Try.prog) (mty := 76) Try.underlying76 Try.underlying3 M1 2 (.func (.func 33) #[] #[.pointer (some ⟨g1, 0, none⟩)]) (by rfl)
 have G2 : Below w.heap.size w W2 := grown_below2 G1 NM.out gr2
 have Y2 : CB g1 a0 a1 a3 b0 b1 b2 b3 A2 A4 A5 n2 c2 n4 c4 n5 c5 s4 W2 := (gr2.block g1 (blk_lt Y1) (fun e => by cases e; have y := Y1; unfold CB at y; rw [M1] at y; cases y)).trans Y1
 obtain ⟨W3, hi3, M3, gr3⟩ := ins_new (P := Try.prog) (mty := 76) Try.underlying76 Try.underlying3 M2 3 (.func (.func 35) #[] #[.pointer (some ⟨g1, 0, none⟩)]) (by rfl)
 have G3 : Below w.heap.size w W3 := grown_below2 G2 NM.out gr3
 have Y3 : CB g1 a0 a1 a3 b0 b1 b2 b3 A2 A4 A5 n2 c2 n4 c4 n5 c5 s4 W3 := (gr3.block g1 (blk_lt Y2) (fun e => by cases e; have y := Y2; unfold CB at y; rw [M2] at y; cases y)).trans Y2
 obtain ⟨W4, hi4, M4, gr4⟩ := ins_new (P := Try.prog) (mty := 76) Try.underlying76 Try.underlying3 M3 4 (.func (.func 37) #[] #[.pointer (some ⟨g1, 0, none⟩)]) (by rfl)
 have G4 : Below w.heap.size w W4 := grown_below2 G3 NM.out gr4
 have Y4 : CB g1 a0 a1 a3 b0 b1 b2 b3 A2 A4 A5 n2 c2 n4 c4 n5 c5 s4 W4 := (gr4.block g1 (blk_lt Y3) (fun e => by cases e; have y := Y3; unfold CB at y; rw [M3] at y; cases y)).trans Y3
 have hlk1 := look_at (P := Try.prog) (mty := 76) Try.underlying76 Try.underlying3 M4 1 0 (.func (.func 31) #[] #[.pointer (some ⟨g1, 0, none⟩)]) (by rfl)
 have hlk2 := look_at (P := Try.prog) (mty := 76) Try.underlying76 Try.underlying3 M4 2 1 (.func (.func 33) #[] #[.pointer (some ⟨g1, 0, none⟩)]) (by rfl)
 have hlk3 := look_at (P := Try.prog) (mty := 76) Try.underlying76 Try.underlying3 M4 3 2 (.func (.func 35) #[] #[.pointer (some ⟨g1, 0, none⟩)]) (by rfl)
 have hlk4 := look_at (P := Try.prog) (mty := 76) Try.underlying76 Try.underlying3 M4 4 3 (.func (.func 37) #[] #[.pointer (some ⟨g1, 0, none⟩)]) (by rfl)
 have Y4A := Aside0.mk Y4
 have G4A := Aside0.mk G4
 clear M0 M1 M2 M3 M4 G0 G1 G2 G3 G4 Y0 Y1 Y2 Y3 gr1 gr2 gr3 gr4
 subst hW0
 subst hrm
 clear Y4
 obtain ⟨kd, hkd⟩ : ∃ kd : Int, kd = a0 := ⟨_, rfl⟩
 rcases KK.out with rfl | rfl | rfl | rfl
 all_goals
  obtain ⟨y0, y1, y2, y3, y4, y5, y6, y7, y8, y9, y10⟩ := cells11 Y4A.out
  go_wp2_with (go_at_call 39; (with_reducible refine (empty_a _ a1 a3 b0 b1 b2 b3 A2 A4 A5 n2 c2 n4 c4 n5 c5 s4 _ e1 e2 e3 e4 E1.out E2.out E3.out E4.out).mono ?_); rintro e w5 ⟨rfl, hb⟩; have G5 := Aside0.mk (below_step G4A.out hb); have Y5 : Aside0 (CB g1 _ a1 a3 b0 b1 b2 b3 A2 A4 A5 n2 c2 n4 c4 n5 c5 s4 w5) := Aside0.mk (blk_below Y4A.out hb); clear hb)
  have Y6 : Aside0 (CB g1 kd a1 a3 b0 b1 b2 b3 A2 A4 A5 n2 c2 n4 c4 n5 c5 s4 w5) := ⟨by rw [hkd]; exact Y5.out⟩
  clear Y5
  go_loopg [28] 4 (fun kq v28 wr => ∃ x : Int, v28 = .int .i64 x ∧ Aside0 (0 ≤ x) ∧ Aside0 (x + kq = 4) ∧ Aside0 (x ≤ 4) ∧ Aside0 (Below w.heap.size w wr) ∧ Aside0 (CB g1 kd a1 a3 b0 b1 b2 b3 A2 A4 A5 n2 c2 n4 c4 n5 c5 s4 wr) ∧ Aside0 (okk kd e1 e2 e3 e4 x))
  case atStart => exact ⟨0, rfl, ⟨by omega⟩, ⟨by omega⟩, ⟨by omega⟩, ⟨G5.out⟩, Y6, ⟨by unfold okk; omega⟩⟩
  case round =>
   obtain ⟨x, rfl, H0, HI, HT, BL, YR, OK⟩ := hrel
   clear Y4A G4A G5 Y6
   subst hkd
   have ya := (blk_cell (show wr.heap[g1]? = some (.cells #[.int .i64 _, .int .i64 a1, .slice A2 n2 c2, .int .i64 a3, .slice A4 n4 c4, .slice A5 n5 c5, .int .i64 b0, .int .i64 b1, .int .i64 b2, .int .i64 b3, .string s4] 50 (0, 0)) from YR.out) 0).trans rfl
   cases gk with
   | zero =>
    obtain rfl : x = 4 := by have := HI.out; omega
    go_wp2_with (first
     | (go_at_call 31; (refine (show Calls _ 31 _ _ _ from HC.out OK.out g1 _ BL.out YR.out).mono ?_); rintro e w6 ⟨v, rfl, hv, hb⟩; have HV := Aside0.mk (Kd.R_lower hv BL.out.size); have HB6 := Aside0.mk (below_step BL.out hb); clear hv hb)
     | (go_at_call 33; (refine (show Calls _ 33 _ _ _ from HC.out OK.out g1 _ BL.out YR.out).mono ?_); rintro e w6 ⟨v, rfl, hv, hb⟩; have HV := Aside0.mk (Kd.R_lower hv BL.out.size); have HB6 := Aside0.mk (below_step BL.out hb); clear hv hb)
     | (go_at_call 35; (refine (show Calls _ 35 _ _ _ from HC.out OK.out g1 _ BL.out YR.out).mono ?_); rintro e w6 ⟨v, rfl, hv, hb⟩; have HV := Aside0.mk (Kd.R_lower hv BL.out.size); have HB6 := Aside0.mk (below_step BL.out hb); clear hv hb)
     | (go_at_call 37; (refine (show Calls _ 37 _ _ _ from HC.out OK.out g1 _ BL.out YR.out).mono ?_); rintro e w6 ⟨v, rfl, hv, hb⟩; have HV := Aside0.mk (Kd.R_lower hv BL.out.size); have HB6 := Aside0.mk (below_step BL.out hb); clear hv hb))
    go_ret2
    exact ⟨⟨fun _ => ⟨_, rfl, HV.out⟩, fun h => absurd OK.out h⟩, HB6.out⟩
   | succ k1 =>
    have hx : x = 0 ∨ x = 1 ∨ x = 2 ∨ x = 3 := by have := HI.out; have := H0.out; have := HT.out; omega
    rcases hx with rfl | rfl | rfl | rfl
    ·cases e1
     ·have hix : (Instr.index 78 (.agg #[.bool false, .bool e2, .bool e3, .bool e4]) (.int .i64 0)).run Try.prog wr = .ok (.bool false) wr := idx4 false e2 e3 e4 0 false (by decide) rfl wr
      go_wp2
      first
       | (go_roundg k1; (case measure => have := HI.out; omega); (case rel => exact ⟨1, by first | rfl | (simp; done) | decide, ⟨by omega⟩, ⟨by have := HI.out; omega⟩, ⟨by omega⟩, BL, YR, ⟨by have := OK.out; unfold okk at this ⊢; refine ⟨?_, ?_, ?_, ?_⟩ <;> intro <;> first | exact .inl rfl | exact .inr rfl | exact this.1 (by omega) | exact this.2.1 (by omega) | exact this.2.2.1 (by omega) | (exfalso; omega)⟩⟩))
       | (go_ret2; exact ⟨⟨fun h => absurd h (by simp [okk]), fun _ => rfl⟩, BL.out⟩)
     ·have hix : (Instr.index 78 (.agg #[.bool true, .bool e2, .bool e3, .bool e4]) (.int .i64 0)).run Try.prog wr = .ok (.bool true) wr := idx4 true e2 e3 e4 0 true (by decide) rfl wr
      go_wp2
      first
       | (go_roundg k1; (case measure => have := HI.out; omega); (case rel => exact ⟨1, by first | rfl | (simp; done) | decide, ⟨by omega⟩, ⟨by have := HI.out; omega⟩, ⟨by omega⟩, BL, YR, ⟨by have := OK.out; unfold okk at this ⊢; refine ⟨?_, ?_, ?_, ?_⟩ <;> intro <;> first | exact .inl rfl | exact .inr rfl | exact this.1 (by omega) | exact this.2.1 (by omega) | exact this.2.2.1 (by omega) | (exfalso; omega)⟩⟩))
       | (go_ret2; exact ⟨⟨fun h => absurd h (by simp [okk]), fun _ => rfl⟩, BL.out⟩)
    ·cases e2
     ·have hix : (Instr.index 78 (.agg #[.bool e1, .bool false, .bool e3, .bool e4]) (.int .i64 1)).run Try.prog wr = .ok (.bool false) wr := idx4 e1 false e3 e4 1 false (by decide) rfl wr
      go_wp2
      first
       | (go_roundg k1; (case measure => have := HI.out; omega); (case rel => exact ⟨2, by first | rfl | (simp; done) | decide, ⟨by omega⟩, ⟨by have := HI.out; omega⟩, ⟨by omega⟩, BL, YR, ⟨by have := OK.out; unfold okk at this ⊢; refine ⟨?_, ?_, ?_, ?_⟩ <;> intro <;> first | exact .inl rfl | exact .inr rfl | exact this.1 (by omega) | exact this.2.1 (by omega) | exact this.2.2.1 (by omega) | (exfalso; omega)⟩⟩))
       | (go_ret2; exact ⟨⟨fun h => absurd h (by simp [okk]), fun _ => rfl⟩, BL.out⟩)
     ·have hix : (Instr.index 78 (.agg #[.bool e1, .bool true, .bool e3, .bool e4]) (.int .i64 1)).run Try.prog wr = .ok (.bool true) wr := idx4 e1 true e3 e4 1 true (by decide) rfl wr
      go_wp2
      first
       | (go_roundg k1; (case measure => have := HI.out; omega); (case rel => exact ⟨2, by first | rfl | (simp; done) | decide, ⟨by omega⟩, ⟨by have := HI.out; omega⟩, ⟨by omega⟩, BL, YR, ⟨by have := OK.out; unfold okk at this ⊢; refine ⟨?_, ?_, ?_, ?_⟩ <;> intro <;> first | exact .inl rfl | exact .inr rfl | exact this.1 (by omega) | exact this.2.1 (by omega) | exact this.2.2.1 (by omega) | (exfalso; omega)⟩⟩))
       | (go_ret2; exact ⟨⟨fun h => absurd h (by simp [okk]), fun _ => rfl⟩, BL.out⟩)
    ·cases e3
     ·have hix : (Instr.index 78 (.agg #[.bool e1, .bool e2, .bool false, .bool e4]) (.int .i64 2)).run Try.prog wr = .ok (.bool false) wr := idx4 e1 e2 false e4 2 false (by decide) rfl wr
      go_wp2
      first
       | (go_roundg k1; (case measure => have := HI.out; omega); (case rel => exact ⟨3, by first | rfl | (simp; done) | decide, ⟨by omega⟩, ⟨by have := HI.out; omega⟩, ⟨by omega⟩, BL, YR, ⟨by have := OK.out; unfold okk at this ⊢; refine ⟨?_, ?_, ?_, ?_⟩ <;> intro <;> first | exact .inl rfl | exact .inr rfl | exact this.1 (by omega) | exact this.2.1 (by omega) | exact this.2.2.1 (by omega) | (exfalso; omega)⟩⟩))
       | (go_ret2; exact ⟨⟨fun h => absurd h (by simp [okk]), fun _ => rfl⟩, BL.out⟩)
     ·have hix : (Instr.index 78 (.agg #[.bool e1, .bool e2, .bool true, .bool e4]) (.int .i64 2)).run Try.prog wr = .ok (.bool true) wr := idx4 e1 e2 true e4 2 true (by decide) rfl wr
      go_wp2
      first
       | (go_roundg k1; (case measure => have := HI.out; omega); (case rel => exact ⟨3, by first | rfl | (simp; done) | decide, ⟨by omega⟩, ⟨by have := HI.out; omega⟩, ⟨by omega⟩, BL, YR, ⟨by have := OK.out; unfold okk at this ⊢; refine ⟨?_, ?_, ?_, ?_⟩ <;> intro <;> first | exact .inl rfl | exact .inr rfl | exact this.1 (by omega) | exact this.2.1 (by omega) | exact this.2.2.1 (by omega) | (exfalso; omega)⟩⟩))
       | (go_ret2; exact ⟨⟨fun h => absurd h (by simp [okk]), fun _ => rfl⟩, BL.out⟩)
    ·cases e4
     ·have hix : (Instr.index 78 (.agg #[.bool e1, .bool e2, .bool e3, .bool false]) (.int .i64 3)).run Try.prog wr = .ok (.bool false) wr := idx4 e1 e2 e3 false 3 false (by decide) rfl wr
      go_wp2
      first
       | (go_roundg k1; (case measure => have := HI.out; omega); (case rel => exact ⟨4, by first | rfl | (simp; done) | decide, ⟨by omega⟩, ⟨by have := HI.out; omega⟩, ⟨by omega⟩, BL, YR, ⟨by have := OK.out; unfold okk at this ⊢; refine ⟨?_, ?_, ?_, ?_⟩ <;> intro <;> first | exact .inl rfl | exact .inr rfl | exact this.1 (by omega) | exact this.2.1 (by omega) | exact this.2.2.1 (by omega) | (exfalso; omega)⟩⟩))
       | (go_ret2; exact ⟨⟨fun h => absurd h (by simp [okk]), fun _ => rfl⟩, BL.out⟩)
     ·have hix : (Instr.index 78 (.agg #[.bool e1, .bool e2, .bool e3, .bool true]) (.int .i64 3)).run Try.prog wr = .ok (.bool true) wr := idx4 e1 e2 e3 true 3 true (by decide) rfl wr
      go_wp2
      first
       | (go_roundg k1; (case measure => have := HI.out; omega); (case rel => exact ⟨4, by first | rfl | (simp; done) | decide, ⟨by omega⟩, ⟨by have := HI.out; omega⟩, ⟨by omega⟩, BL, YR, ⟨by have := OK.out; unfold okk at this ⊢; refine ⟨?_, ?_, ?_, ?_⟩ <;> intro <;> first | exact .inl rfl | exact .inr rfl | exact this.1 (by omega) | exact this.2.1 (by omega) | exact this.2.2.1 (by omega) | (exfalso; omega)⟩⟩))
       | (go_ret2; exact ⟨⟨fun h => absurd h (by simp [okk]), fun _ => rfl⟩, BL.out⟩)
def noB (a1 : Int) (l2 : List S101) : Bool := a1 == 0 && ((l2.length : Int) == 0)
def noT (a3 : Int) (l4 : List S62) : Bool := a3 == 0 && ((l4.length : Int) == 0)
def noA (l5 : List S106) : Bool := ((l5.length : Int) == 0)
def noP (b0 b1 b2 b3 : Int) (s : ByteArray) : Bool := b0 == 0 && (b1 == 0 && (b2 == 0 && (b3 == 0 && s.toList.isEmpty)))
def frame_bytes.f (k : Nat) (a0 a1 : Int) (l2 : List S101) (a3 : Int) (l4 : List S62) (l5 : List S106) (b0 b1 b2 b3 : Int) (s : ByteArray) : Option (List Int × Bool) :=
 if a0 = 1 then (if (noT a3 l4 && noA l5 && noP b0 b1 b2 b3 s) = true then (beacon_Bytes.f k a1 l2).bind (fun r => some (r.1, r.2 == 0)) else some ([], false))
 else if a0 = 2 then (if (noB a1 l2 && noA l5 && noP b0 b1 b2 b3 s) = true then (batch_Bytes.f k a3 l4).bind (fun r => some (r.1, r.2 == 0)) else some ([], false))
 else if a0 = 3 then (if (noB a1 l2 && noT a3 l4 && noP b0 b1 b2 b3 s) = true then (ack_Bytes.f l5).bind (fun r => some (r.1, r.2 == 0)) else some ([], false))
 else if a0 = 4 then (if (noB a1 l2 && noT a3 l4 && noA l5) = true then (packet_Bytes.f k b0 b1 b2 b3 s).bind (fun r => some (r.1, r.2 == 0)) else some ([], false))
 else some ([], false)
theorem frame_bytes.mono (a0 a1 : Int) (l2 : List S101) (a3 : Int) (l4 : List S62) (l5 : List S106) (b0 b1 b2 b3 : Int) (s : ByteArray) : ∀ k, LeO (frame_bytes.f k a0 a1 l2 a3 l4 l5 b0 b1 b2 b3 s) (frame_bytes.f (k + 1) a0 a1 l2 a3 l4 l5 b0 b1 b2 b3 s) := by
 intro k
 unfold frame_bytes.f
 repeat' first
   | exact beacon_Bytes.mono _ _ _
   | exact batch_Bytes.mono _ _ _
   | exact packet_Bytes.mono _ _ _ _ _ _
   | exact LeO.refl _
   | refine LeO.ite ?_ ?_
   | refine LeO.bind ?_ (fun _ => ?_)
theorem frame_bytes.calls (k : Nat) (a0_0 : Int) (a0_1 : Int) (A0_2 : Option Addr) (c0_2 : Nat) (l0_2 : List S101) (a0_3 : Int) (A0_4 : Option Addr) (c0_4 : Nat) (l0_4 : List S62) (A0_5 : Option Addr) (c0_5 : Nat) (l0_5 : List S106) (a0_6 : Int) (a0_7 : Int) (a0_8 : Int) (a0_9 : Int) (a0_10 : ByteArray) (r1 : List Int) (r2 : Bool) (w : World) (hr0_2 : Kd.C k101 w A0_2 l0_2.length l0_2) (hc0_2 : l0_2.length ≤ c0_2) (hr0_4 : Kd.C k62 w A0_4 l0_4.length l0_4) (hc0_4 : l0_4.length ≤ c0_4) (hr0_5 : Kd.C k106 w A0_5 l0_5.length l0_5) (hc0_5 : l0_5.length ≤ c0_5)
  (h : frame_bytes.f k a0_0 a0_1 l0_2 a0_3 l0_4 l0_5 a0_6 a0_7 a0_8 a0_9 a0_10 = some (r1, r2)) :
  Calls Try.prog 21 #[.agg #[.int .i64 a0_0, .int .i64 a0_1, .slice A0_2 l0_2.length c0_2, .int .i64 a0_3, .slice A0_4 l0_4.length c0_4, .slice A0_5 l0_5.length c0_5, .int .i64 a0_6, .int .i64 a0_7, .int .i64 a0_8, .int .i64 a0_9, .string a0_10]] w fun e w' => ∃ v0_ : Value, e = .returned (.tuple #[v0_, .bool r2]) ∧ Kd.R (Kd.int .u8) 5 w' w.heap.size (fun _ => True) v0_ r1 ∧ Below w.heap.size w w' := by
 unfold frame_bytes.f at h
 by_cases kk : a0_0 = 1 ∨ a0_0 = 2 ∨ a0_0 = 3 ∨ a0_0 = 4
 ·have K := fun q1 q2 hcl => by_k a0_0 a0_1 a0_3 a0_6 a0_7 a0_8 a0_9 A0_2 A0_4 A0_5 l0_2.length c0_2 l0_4.length c0_4 l0_5.length c0_5 a0_10 w (noB a0_1 l0_2) (noT a0_3 l0_4) (noA l0_5) (noP a0_6 a0_7 a0_8 a0_9 a0_10) rfl rfl rfl rfl kk q1 q2 hcl
  by_cases ok : okk a0_0 (noB a0_1 l0_2) (noT a0_3 l0_4) (noA l0_5) (noP a0_6 a0_7 a0_8 a0_9 a0_10) 4
  ·have K2 := fun q1 q2 hcl => (K q1 q2 hcl).mono (R' := fun e w' => ∃ v0_ : Value, e = .returned (.tuple #[v0_, .bool (q2 == 0)]) ∧ Kd.R (Kd.int .u8) 5 w' w.heap.size (fun _ => True) v0_ q1 ∧ Below w.heap.size w w') fun e w' hp => by obtain ⟨v, h1, h2⟩ := hp.1.1 ok; exact ⟨v, h1, h2, hp.2⟩
   clear K
   have ok2 := ok
   rcases kk with rfl | rfl | rfl | rfl
   ·simp only [okk] at ok
    rw [if_pos rfl, if_pos (by have := ok.1; have := ok.2.1; have := ok.2.2.1; have := ok.2.2.2; simp_all)] at h
    obtain ⟨⟨q1, q2⟩, hq, h⟩ := Option.bind_eq_some_iff.1 h
    cases h
    exact K2 q1 q2 (fun _ g1 wr hb hc => clo1 g1 1 a0_1 a0_3 a0_6 a0_7 a0_8 a0_9 A0_2 A0_4 A0_5 l0_2.length c0_2 l0_4.length c0_4 l0_5.length c0_5 a0_10 wr hc k l0_2 rfl (Kd.C_below hr0_2 hb) hc0_2 q1 q2 hq)
   ·simp only [okk] at ok
    rw [if_neg (by decide), if_pos rfl, if_pos (by have := ok.1; have := ok.2.1; have := ok.2.2.1; have := ok.2.2.2; simp_all)] at h
    obtain ⟨⟨q1, q2⟩, hq, h⟩ := Option.bind_eq_some_iff.1 h
    cases h
    exact K2 q1 q2 (fun _ g1 wr hb hc => clo2 g1 2 a0_1 a0_3 a0_6 a0_7 a0_8 a0_9 A0_2 A0_4 A0_5 l0_2.length c0_2 l0_4.length c0_4 l0_5.length c0_5 a0_10 wr hc k l0_4 rfl (Kd.C_below hr0_4 hb) hc0_4 q1 q2 hq)
   ·simp only [okk] at ok
    rw [if_neg (by decide), if_neg (by decide), if_pos rfl, if_pos (by have := ok.1; have := ok.2.1; have := ok.2.2.1; have := ok.2.2.2; simp_all)] at h
    obtain ⟨⟨q1, q2⟩, hq, h⟩ := Option.bind_eq_some_iff.1 h
    cases h
    exact K2 q1 q2 (fun _ g1 wr hb hc => clo3 g1 3 a0_1 a0_3 a0_6 a0_7 a0_8 a0_9 A0_2 A0_4 A0_5 l0_2.length c0_2 l0_4.length c0_4 l0_5.length c0_5 a0_10 wr hc l0_5 rfl (Kd.C_below hr0_5 hb) hc0_5 q1 q2 hq)
   ·simp only [okk] at ok
    rw [if_neg (by decide), if_neg (by decide), if_neg (by decide), if_pos rfl, if_pos (by have := ok.1; have := ok.2.1; have := ok.2.2.1; have := ok.2.2.2; simp_all)] at h
    obtain ⟨⟨q1, q2⟩, hq, h⟩ := Option.bind_eq_some_iff.1 h
    cases h
    exact K2 q1 q2 (fun _ g1 wr hb hc => clo4 g1 4 a0_1 a0_3 a0_6 a0_7 a0_8 a0_9 A0_2 A0_4 A0_5 l0_2.length c0_2 l0_4.length c0_4 l0_5.length c0_5 a0_10 wr hc k q1 q2 hq)
  ·have e : (([] : List Int), false) = (r1, r2) := by
    rcases kk with rfl | rfl | rfl | rfl
    ·rw [if_pos rfl, if_neg (by simp only [okk] at ok; intro h2; simp_all)] at h
     exact Option.some.inj h
    ·rw [if_neg (by decide), if_pos rfl, if_neg (by simp only [okk] at ok; intro h2; simp_all)] at h
     exact Option.some.inj h
    ·rw [if_neg (by decide), if_neg (by decide), if_pos rfl, if_neg (by simp only [okk] at ok; intro h2; simp_all)] at h
     exact Option.some.inj h
    ·rw [if_neg (by decide), if_neg (by decide), if_neg (by decide), if_pos rfl, if_neg (by simp only [okk] at ok; intro h2; simp_all)] at h
     exact Option.some.inj h
   cases e
   exact (K [] 0 (fun o => absurd o ok)).mono fun e w' hp => ⟨_, hp.1.2 ok, Kd.R_nil _ _ _ _ _, hp.2⟩
 ·rw [if_neg (by omega), if_neg (by omega), if_neg (by omega), if_neg (by omega)] at h
  cases h
  exact (by_no a0_0 _ _ _ _ _ _ _ _ _ _ _ _ _ _ _ _ w (by omega) (by omega) (by omega) (by omega)).mono fun e w' ⟨h1, h2⟩ => ⟨_, h1, Kd.R_nil _ _ _ _ _, h2⟩
end Go.Proofs.Ytpgmmnlkiogamaa.P
namespace Go.Proofs.Ytpgmmnlkiogamaa.P
open Go.RowKit YtpgmmnlkiogamaaW.PrintWords YtpgmmnlkiogamaaW.PrintLast YtpgmmnlkiogamaaW.PrintMore
attribute [local go_sem] max2_int min2_int max_two min_two max_three min_three max_four min_four
mutual
def frame_Bytes.j0 : Nat → List Int → List Int → Bool → Int → Int → Int → Int → List (S50) → Option (List Int × Int)
 | 0, _, _, _, _, _, _, _, _ => none
 | k + 1, x5, x7, x74, x294000, x294001, x294002, x294003, x294004 => if x74 = true then (some (([] : List Int), 1)) else ((some (([84, 1, (x294000) % 256, (x294002) % 256] : List Int) : List Int)).bind fun y306 => (if y306.length + x5.length < 140737488355328 then ((some (y306 ++ x5 : List Int)).bind fun y309 => (if y309.length + x7.length < 140737488355328 then ((some (y309 ++ x7 : List Int)).bind fun y312 => ((some (([0, 0, ((x294004.length : Int)) % 256] : List Int) : List Int)).bind fun y315 => (if y312.length + y315.length < 140737488355328 then (frame_Bytes.l0 k (y312 ++ y315) x294004 (x294004.length : Int) 0) else (none)))) else (none))) else (none)))
def frame_Bytes.l0 : Nat → List Int → List (S50) → Int → Int → Option (List Int × Int)
 | 0, _, _, _, _ => none
 | k + 1, x9, x94, x95, x96 => if x96 < x95 then (if 0 ≤ x96 then (if x96 < (x94.length : Int) then ((frame_bytes.f k ((rd_T50 x94 x96).f0) ((rd_T50 x94 x96).f1.f0) ((rd_T50 x94 x96).f1.f1) ((rd_T50 x94 x96).f2.f0) ((rd_T50 x94 x96).f2.f1) ((rd_T50 x94 x96).f3) ((rd_T50 x94 x96).f4.f0) ((rd_T50 x94 x96).f4.f1) ((rd_T50 x94 x96).f4.f2) ((rd_T50 x94 x96).f4.f3) ((rd_T50 x94 x96).f4.f4)).bind fun bt323 => (if bt323.2 = true then ((some (([((rd_T50 x94 x96).f0) % 256, ((bt323.1.length : Int) / 256) % 256, ((bt323.1.length : Int)) % 256] : List Int) : List Int)).bind fun y327 => (if x9.length + y327.length < 140737488355328 then ((some (x9 ++ y327 : List Int)).bind fun y330 => (if y330.length + bt323.1.length < 140737488355328 then (frame_Bytes.l0 k (y330 ++ bt323.1) x94 x95 (wrap64 (x96 + 1))) else (none))) else (none))) else (some (([] : List Int), 1)))) else (none)) else (none)) else (if (wrap64 ((x9.length : Int) + 2)) > 1400 then (some (([] : List Int), 1)) else (if 12 < (x9.length : Int) then (if 13 < (x9.length : Int) then ((some ((x9.set (12 : Int).toNat (((wrap64 ((x9.length : Int) + 2)) / 256) % 256)).set (13 : Int).toNat ((wrap64 ((x9.length : Int) + 2)) % 256) : List Int)).bind fun y337 => ((wire_Sum.f k y337).bind fun t338 => ((some (([(t338 / 256) % 256, (t338) % 256] : List Int) : List Int)).bind fun y339 => (if y337.length + y339.length < 140737488355328 then (some ((y337 ++ y339), 0)) else (none))))) else (none)) else (none)))
end
def frame_Bytes.f (k : Nat) (a0_0 : Int) (a0_1 : Int) (a0_2 : Int) (a0_3 : Int) (l0_4 : List (S50)) : Option (List Int × Int) := (wire_Put.f a0_1 4).bind fun bt294 => ((wire_Put.f a0_3 4).bind fun bt298 => (if bt294.2 = 0 then (if bt298.2 = 0 then (if a0_2 = 255 then (if a0_3 = 0 then ((frame_Bytes_1.f a0_0).bind fun t302 => (if t302 = true then ((frame_Bytes_1.f a0_2).bind fun t303 => (if t303 = true then (if (l0_4.length : Int) = 0 then (frame_Bytes.j0 k bt294.1 bt298.1 true a0_0 a0_1 a0_2 a0_3 l0_4) else (frame_Bytes.j0 k bt294.1 bt298.1 (decide ((l0_4.length : Int) > 8)) a0_0 a0_1 a0_2 a0_3 l0_4)) else (if (l0_4.length : Int) = 0 then (frame_Bytes.j0 k bt294.1 bt298.1 true a0_0 a0_1 a0_2 a0_3 l0_4) else (frame_Bytes.j0 k bt294.1 bt298.1 (decide ((l0_4.length : Int) > 8)) a0_0 a0_1 a0_2 a0_3 l0_4)))) else (frame_Bytes.j0 k bt294.1 bt298.1 true a0_0 a0_1 a0_2 a0_3 l0_4))) else (frame_Bytes.j0 k bt294.1 bt298.1 true a0_0 a0_1 a0_2 a0_3 l0_4)) else ((frame_Bytes_1.f a0_0).bind fun t304 => (if t304 = true then ((frame_Bytes_1.f a0_2).bind fun t305 => (if t305 = true then (if (l0_4.length : Int) = 0 then (frame_Bytes.j0 k bt294.1 bt298.1 true a0_0 a0_1 a0_2 a0_3 l0_4) else (frame_Bytes.j0 k bt294.1 bt298.1 (decide ((l0_4.length : Int) > 8)) a0_0 a0_1 a0_2 a0_3 l0_4)) else (frame_Bytes.j0 k bt294.1 bt298.1 true a0_0 a0_1 a0_2 a0_3 l0_4))) else (frame_Bytes.j0 k bt294.1 bt298.1 true a0_0 a0_1 a0_2 a0_3 l0_4)))) else (frame_Bytes.j0 k bt294.1 bt298.1 true a0_0 a0_1 a0_2 a0_3 l0_4)) else (frame_Bytes.j0 k bt294.1 bt298.1 true a0_0 a0_1 a0_2 a0_3 l0_4)))
theorem frame_Bytes.mono_l : ∀ k, (∀ y0 y1 y2 y3 y4 y5 y6 y7, LeO (frame_Bytes.j0 k y0 y1 y2 y3 y4 y5 y6 y7) (frame_Bytes.j0 (k + 1) y0 y1 y2 y3 y4 y5 y6 y7)) ∧ (∀ y0 y1 y2 y3, LeO (frame_Bytes.l0 k y0 y1 y2 y3) (frame_Bytes.l0 (k + 1) y0 y1 y2 y3))
 | 0 => ⟨fun _ _ _ _ _ _ _ _ r h => by simp [frame_Bytes.j0] at h, fun _ _ _ _ r h => by simp [frame_Bytes.l0] at h⟩
 | k + 1 => by
  obtain ⟨ih0, ih1⟩ := frame_Bytes.mono_l k
  refine ⟨?_, ?_⟩
  ·intro y0 y1 y2 y3 y4 y5 y6 y7
   unfold frame_Bytes.j0
   repeat' first
   | (with_reducible exact ih0 _ _ _ _ _ _ _ _)
   | (with_reducible exact ih1 _ _ _ _)
   | (with_reducible exact frame_bytes.mono _ _ _ _ _ _ _ _ _ _ _ _)
   | (with_reducible exact wire_Sum.mono _ _)
   | (with_reducible exact LeO.refl _)
   | (with_reducible exact LeO.none _)
   | (with_reducible refine LeO.ite ?_ ?_)
   | (with_reducible refine LeO.bind ?_ (fun _ => ?_))
   | exact ih0 _ _ _ _ _ _ _ _
   | exact ih1 _ _ _ _
   | exact frame_bytes.mono _ _ _ _ _ _ _ _ _ _ _ _
   | exact wire_Sum.mono _ _
   | exact LeO.none _
   | refine LeO.ite ?_ ?_
   | refine LeO.bind ?_ (fun _ => ?_)
  intro y0 y1 y2 y3
  unfold frame_Bytes.l0
  repeat' first
  | (with_reducible exact ih0 _ _ _ _ _ _ _ _)
  | (with_reducible exact ih1 _ _ _ _)
  | (with_reducible exact frame_bytes.mono _ _ _ _ _ _ _ _ _ _ _ _)
  | (with_reducible exact wire_Sum.mono _ _)
  | (with_reducible exact LeO.refl _)
  | (with_reducible exact LeO.none _)
  | (with_reducible refine LeO.ite ?_ ?_)
  | (with_reducible refine LeO.bind ?_ (fun _ => ?_))
  | exact ih0 _ _ _ _ _ _ _ _
  | exact ih1 _ _ _ _
  | exact frame_bytes.mono _ _ _ _ _ _ _ _ _ _ _ _
  | exact wire_Sum.mono _ _
  | exact LeO.none _
  | refine LeO.ite ?_ ?_
  | refine LeO.bind ?_ (fun _ => ?_)
theorem frame_Bytes.mono : ∀ a0 a1 a2 a3 a4 k, LeO (frame_Bytes.f k a0 a1 a2 a3 a4) (frame_Bytes.f (k + 1) a0 a1 a2 a3 a4) := by
 intro a0 a1 a2 a3 a4 k
 obtain ⟨ih0, ih1⟩ := frame_Bytes.mono_l k
 unfold frame_Bytes.f
 repeat' first
   | (with_reducible exact ih0 _ _ _ _ _ _ _ _)
   | (with_reducible exact ih1 _ _ _ _)
   | (with_reducible exact frame_bytes.mono _ _ _ _ _ _ _ _ _ _ _ _)
   | (with_reducible exact wire_Sum.mono _ _)
   | (with_reducible exact LeO.refl _)
   | (with_reducible exact LeO.none _)
   | (with_reducible refine LeO.ite ?_ ?_)
   | (with_reducible refine LeO.bind ?_ (fun _ => ?_))
   | exact ih0 _ _ _ _ _ _ _ _
   | exact ih1 _ _ _ _
   | exact frame_bytes.mono _ _ _ _ _ _ _ _ _ _ _ _
   | exact wire_Sum.mono _ _
   | exact LeO.none _
   | refine LeO.ite ?_ ?_
   | refine LeO.bind ?_ (fun _ => ?_)
def frame_Bytes.T7 : Bool × List (List Nat × List Nat) := (true, [([], []), ([], []), ([0, 1], [0, 1]), ([], []), ([3], [3]), ([4], [4]), ([5], [5]), ([6], [6]), ([2, 7, 2], [2, 7]), ([8, 8, 0, 1, 2, 3, 4, 5, 6, 7, 8], [0, 8])])
def frame_Bytes.B7 : List Nat := [0, 0, 3, 0, 8, 24, 56, 120, 255, 511]
theorem frame_Bytes.tab7 : rtab .any (opsOf Try.f9 7) = frame_Bytes.T7 := by kernel_rfl
theorem frame_Bytes.bits7 : waitsOk frame_Bytes.T7.2 frame_Bytes.B7 = true := by kernel_rfl
theorem frame_Bytes.calls (k : Nat) (a0_0 : Int) (a0_1 : Int) (a0_2 : Int) (a0_3 : Int) (A0_4 : Option Addr) (c0_4 : Nat) (l0_4 : List (S50)) (r1 : List Int) (r2 : Int) (w : World) (hr0_4 : Kd.C k50 w A0_4 l0_4.length l0_4) (hc0_4 : l0_4.length ≤ c0_4) (h : frame_Bytes.f k a0_0 a0_1 a0_2 a0_3 l0_4 = some (r1, r2)) :
  Calls Try.prog 9 #[.agg #[.int .i64 a0_0, .int .i64 a0_1, .int .i64 a0_2, .int .i64 a0_3, .slice A0_4 l0_4.length c0_4]] w fun e w' => ∃ v0_ : Value, e = .returned (.tuple #[v0_, .int .i64 r2]) ∧ Kd.R (Kd.int .u8) 5 w' w.heap.size (fun _ => True) v0_ r1 ∧ Below w.heap.size w w' := by
 have hu24 := Try.underlying24; have hu50 := Try.underlying50; have HR0_4 := Aside0.mk hr0_4; have HC0_4 := Aside0.mk hc0_4; clear hr0_4 hc0_4; have HB := Aside0.mk (Below.refl w.heap.size w)
 have H : ((wire_Put.f a0_1 4).bind fun bt294 => ((wire_Put.f a0_3 4).bind fun bt298 => (if bt294.2 = 0 then (if bt298.2 = 0 then (if a0_2 = 255 then (if a0_3 = 0 then ((frame_Bytes_1.f a0_0).bind fun t302 => (if t302 = true then ((frame_Bytes_1.f a0_2).bind fun t303 => (if t303 = true then (if (l0_4.length : Int) = 0 then (frame_Bytes.j0 k bt294.1 bt298.1 true a0_0 a0_1 a0_2 a0_3 l0_4) else (frame_Bytes.j0 k bt294.1 bt298.1 (decide ((l0_4.length : Int) > 8)) a0_0 a0_1 a0_2 a0_3 l0_4)) else (if (l0_4.length : Int) = 0 then (frame_Bytes.j0 k bt294.1 bt298.1 true a0_0 a0_1 a0_2 a0_3 l0_4) else (frame_Bytes.j0 k bt294.1 bt298.1 (decide ((l0_4.length : Int) > 8)) a0_0 a0_1 a0_2 a0_3 l0_4)))) else (frame_Bytes.j0 k bt294.1 bt298.1 true a0_0 a0_1 a0_2 a0_3 l0_4))) else (frame_Bytes.j0 k bt294.1 bt298.1 true a0_0 a0_1 a0_2 a0_3 l0_4)) else ((frame_Bytes_1.f a0_0).bind fun t304 => (if t304 = true then ((frame_Bytes_1.f a0_2).bind fun t305 => (if t305 = true then (if (l0_4.length : Int) = 0 then (frame_Bytes.j0 k bt294.1 bt298.1 true a0_0 a0_1 a0_2 a0_3 l0_4) else (frame_Bytes.j0 k bt294.1 bt298.1 (decide ((l0_4.length : Int) > 8)) a0_0 a0_1 a0_2 a0_3 l0_4)) else (frame_Bytes.j0 k bt294.1 bt298.1 true a0_0 a0_1 a0_2 a0_3 l0_4))) else (frame_Bytes.j0 k bt294.1 bt298.1 true a0_0 a0_1 a0_2 a0_3 l0_4)))) else (frame_Bytes.j0 k bt294.1 bt298.1 true a0_0 a0_1 a0_2 a0_3 l0_4)) else (frame_Bytes.j0 k bt294.1 bt298.1 true a0_0 a0_1 a0_2 a0_3 l0_4)))) = some (r1, r2) := h
 clear h; replace H := Option.bind_eq_some_iff.mp H
 obtain ⟨⟨t294, t295⟩, A20, H⟩ := H
 replace H : ((wire_Put.f a0_3 4).bind fun bt298 => (if t295 = 0 then (if bt298.2 = 0 then (if a0_2 = 255 then (if a0_3 = 0 then ((frame_Bytes_1.f a0_0).bind fun t302 => (if t302 = true then ((frame_Bytes_1.f a0_2).bind fun t303 => (if t303 = true then (if (l0_4.length : Int) = 0 then (frame_Bytes.j0 k t294 bt298.1 true a0_0 a0_1 a0_2 a0_3 l0_4) else (frame_Bytes.j0 k t294 bt298.1 (decide ((l0_4.length : Int) > 8)) a0_0 a0_1 a0_2 a0_3 l0_4)) else (if (l0_4.length : Int) = 0 then (frame_Bytes.j0 k t294 bt298.1 true a0_0 a0_1 a0_2 a0_3 l0_4) else (frame_Bytes.j0 k t294 bt298.1 (decide ((l0_4.length : Int) > 8)) a0_0 a0_1 a0_2 a0_3 l0_4)))) else (frame_Bytes.j0 k t294 bt298.1 true a0_0 a0_1 a0_2 a0_3 l0_4))) else (frame_Bytes.j0 k t294 bt298.1 true a0_0 a0_1 a0_2 a0_3 l0_4)) else ((frame_Bytes_1.f a0_0).bind fun t304 => (if t304 = true then ((frame_Bytes_1.f a0_2).bind fun t305 => (if t305 = true then (if (l0_4.length : Int) = 0 then (frame_Bytes.j0 k t294 bt298.1 true a0_0 a0_1 a0_2 a0_3 l0_4) else (frame_Bytes.j0 k t294 bt298.1 (decide ((l0_4.length : Int) > 8)) a0_0 a0_1 a0_2 a0_3 l0_4)) else (frame_Bytes.j0 k t294 bt298.1 true a0_0 a0_1 a0_2 a0_3 l0_4))) else (frame_Bytes.j0 k t294 bt298.1 true a0_0 a0_1 a0_2 a0_3 l0_4)))) else (frame_Bytes.j0 k t294 bt298.1 true a0_0 a0_1 a0_2 a0_3 l0_4)) else (frame_Bytes.j0 k t294 bt298.1 true a0_0 a0_1 a0_2 a0_3 l0_4))) = some (r1, r2) := H
 have A2 := Aside0.mk A20; clear A20; replace H := Option.bind_eq_some_iff.mp H
 obtain ⟨⟨t298, t299⟩, A30, H⟩ := H
 replace H : (if t295 = 0 then (if t299 = 0 then (if a0_2 = 255 then (if a0_3 = 0 then ((frame_Bytes_1.f a0_0).bind fun t302 => (if t302 = true then ((frame_Bytes_1.f a0_2).bind fun t303 => (if t303 = true then (if (l0_4.length : Int) = 0 then (frame_Bytes.j0 k t294 t298 true a0_0 a0_1 a0_2 a0_3 l0_4) else (frame_Bytes.j0 k t294 t298 (decide ((l0_4.length : Int) > 8)) a0_0 a0_1 a0_2 a0_3 l0_4)) else (if (l0_4.length : Int) = 0 then (frame_Bytes.j0 k t294 t298 true a0_0 a0_1 a0_2 a0_3 l0_4) else (frame_Bytes.j0 k t294 t298 (decide ((l0_4.length : Int) > 8)) a0_0 a0_1 a0_2 a0_3 l0_4)))) else (frame_Bytes.j0 k t294 t298 true a0_0 a0_1 a0_2 a0_3 l0_4))) else (frame_Bytes.j0 k t294 t298 true a0_0 a0_1 a0_2 a0_3 l0_4)) else ((frame_Bytes_1.f a0_0).bind fun t304 => (if t304 = true then ((frame_Bytes_1.f a0_2).bind fun t305 => (if t305 = true then (if (l0_4.length : Int) = 0 then (frame_Bytes.j0 k t294 t298 true a0_0 a0_1 a0_2 a0_3 l0_4) else (frame_Bytes.j0 k t294 t298 (decide ((l0_4.length : Int) > 8)) a0_0 a0_1 a0_2 a0_3 l0_4)) else (frame_Bytes.j0 k t294 t298 true a0_0 a0_1 a0_2 a0_3 l0_4))) else (frame_Bytes.j0 k t294 t298 true a0_0 a0_1 a0_2 a0_3 l0_4)))) else (frame_Bytes.j0 k t294 t298 true a0_0 a0_1 a0_2 a0_3 l0_4)) else (frame_Bytes.j0 k t294 t298 true a0_0 a0_1 a0_2 a0_3 l0_4)) = some (r1, r2) := H
 have A3 := Aside0.mk A30; clear A30; have HC4 := Aside0.mk H; clear H
 go_enter Try.func9, Try.ntmps9
 go_upto_region 4 with (first | ((with_reducible refine gate_dst (N := 1) rfl ?_); (try (refine gate_guard (by rfl) ?_; dsimp only)); refine bx #[.int .i64 a0_0, .int .i64 a0_1, .int .i64 a0_2, .int .i64 a0_3, .slice A0_4 l0_4.length c0_4] 24 ?_; intro gb293 hg w5 hbox hb; have BK293 := Aside0.mk hbox; have GW293 := ge HB hg; have GE293 := ge HB hg; replace HB := bs HB hb; clear hb hbox hg; obtain ⟨q6_0, q6_1, q6_2, q6_3, q6_4⟩ := cA5 BK293; obtain ⟨f6_0, f6_1, f6_2, f6_3, f6_4⟩ := fA5 BK293) | ((with_reducible refine gate_callee (f := 20) rfl ?_); refine gL (some 19) Try.func20 #[.int .i64 a0_1, .int .i64 4] ?_; (with_reducible refine (wire_Put.calls a0_1 4 t294 t295 _ A2.out).mono ?_); rintro e w7 ⟨v296, rfl, ho0, hb⟩; refine ⟨_, rfl, ?_⟩; have HO297 := Aside0.mk (Kd.R_lower ho0 (below_size (uB HB))); replace BK293 := kb BK293 hb; replace HB := bs HB hb; (try clear hb); (try clear hb2); (try clear hk); (try clear hi); (try clear ho0); obtain ⟨q8_0, q8_1, q8_2, q8_3, q8_4⟩ := cA5 BK293; obtain ⟨f8_0, f8_1, f8_2, f8_3, f8_4⟩ := fA5 BK293) | ((with_reducible refine gate_callee (f := 20) rfl ?_); refine gL (some 25) Try.func20 #[.int .i64 a0_3, .int .i64 4] ?_; (with_reducible refine (wire_Put.calls a0_3 4 t298 t299 _ A3.out).mono ?_); rintro e w9 ⟨v300, rfl, ho0, hb⟩; refine ⟨_, rfl, ?_⟩; have HO301 := Aside0.mk (Kd.R_lower (Kd.R_new' ho0 (Kd.R_lt (uR HO297))) (below_size (uB HB))); replace HO297 := Aside0.mk (Kd.R_elder' (uR HO297) (Kd.R_base ho0) hb); replace BK293 := kb BK293 hb; replace HB := bs HB hb; (try clear hb); (try clear hb2); (try clear hk); (try clear hi); (try clear ho0)))
 (try simp only [Act.put, List.setIfInBounds_toArray, List.set_cons_zero, List.set_cons_succ])
 go_cut [74] (fun v74 wc => ∃ (kq : Nat) (x74_3 : Bool), v74 = .bool x74_3 ∧ Aside0 (frame_Bytes.j0 kq t294 t298 x74_3 a0_0 a0_1 a0_2 a0_3 l0_4 = some (r1, r2)) ∧ Aside0 (kq ≤ k) ∧ Aside0 (Kd.R (Kd.int .u8) 5 wc w.heap.size (fun k_ => some k_ ≠ (v300 : Value).ownBlock) v296 t294) ∧ Aside0 (Kd.R (Kd.int .u8) 5 wc w.heap.size (fun k_ => some k_ ≠ (v296 : Value).ownBlock) v300 t298) ∧ Aside0 (wc.heap[gb293]? = some (.cells #[.int .i64 a0_0, .int .i64 a0_1, .int .i64 a0_2, .int .i64 a0_3, (.slice A0_4 l0_4.length c0_4)] 24 (0, 0))) ∧ Aside0 (Below w.heap.size w wc))
 case first =>
  have H := HC4.out
  clear HC4
  by_cases c10 : t295 = 0
  ·rw [if_pos c10] at H
   have c10b0 : (t295 == 0) = true := beq_iff_eq.mpr c10
   have c10b1 : (t295 != 0) = false := bne_eq_false_iff_eq.mpr c10
   clear c10
   (first | rw [c10b0] | (simp only [i64_w, i32_w]; rw [c10b0]) | rw [c10b1] | skip)
   by_cases c11 : t299 = 0
   ·rw [if_pos c11] at H
    have c11b0 : (t299 == 0) = true := beq_iff_eq.mpr c11
    have c11b1 : (t299 != 0) = false := bne_eq_false_iff_eq.mpr c11
    clear c11
    by_cases c12 : a0_2 = 255
    ·rw [if_pos c12] at H
     have c12b0 : (a0_2 == 255) = true := beq_iff_eq.mpr c12
     have c12b1 : (a0_2 != 255) = false := bne_eq_false_iff_eq.mpr c12
     clear c12
     by_cases c13 : a0_3 = 0
     ·rw [if_pos c13] at H
      have c13b0 : (a0_3 == 0) = true := beq_iff_eq.mpr c13
      have c13b1 : (a0_3 != 0) = false := bne_eq_false_iff_eq.mpr c13
      clear c13; replace H := Option.bind_eq_some_iff.mp H; obtain ⟨t302, A140, H⟩ := H
      replace H : (if t302 = true then ((frame_Bytes_1.f a0_2).bind fun t303 => (if t303 = true then (if (l0_4.length : Int) = 0 then (frame_Bytes.j0 k t294 t298 true a0_0 a0_1 a0_2 a0_3 l0_4) else (frame_Bytes.j0 k t294 t298 (decide ((l0_4.length : Int) > 8)) a0_0 a0_1 a0_2 a0_3 l0_4)) else (if (l0_4.length : Int) = 0 then (frame_Bytes.j0 k t294 t298 true a0_0 a0_1 a0_2 a0_3 l0_4) else (frame_Bytes.j0 k t294 t298 (decide ((l0_4.length : Int) > 8)) a0_0 a0_1 a0_2 a0_3 l0_4)))) else (frame_Bytes.j0 k t294 t298 true a0_0 a0_1 a0_2 a0_3 l0_4)) = some (r1, r2) := H
      have A14 := Aside0.mk A140; clear A140
      by_cases c15 : t302 = true
      ·subst c15
       have H1 : ((frame_Bytes_1.f a0_2).bind fun t303 => (if t303 = true then (if (l0_4.length : Int) = 0 then (frame_Bytes.j0 k t294 t298 true a0_0 a0_1 a0_2 a0_3 l0_4) else (frame_Bytes.j0 k t294 t298 (decide ((l0_4.length : Int) > 8)) a0_0 a0_1 a0_2 a0_3 l0_4)) else (if (l0_4.length : Int) = 0 then (frame_Bytes.j0 k t294 t298 true a0_0 a0_1 a0_2 a0_3 l0_4) else (frame_Bytes.j0 k t294 t298 (decide ((l0_4.length : Int) > 8)) a0_0 a0_1 a0_2 a0_3 l0_4)))) = some (r1, r2) := by rw [if_pos rfl] at H; exact H
       clear H; have H := H1; clear H1; replace H := Option.bind_eq_some_iff.mp H; obtain ⟨t303, A160, H⟩ := H
       replace H : (if t303 = true then (if (l0_4.length : Int) = 0 then (frame_Bytes.j0 k t294 t298 true a0_0 a0_1 a0_2 a0_3 l0_4) else (frame_Bytes.j0 k t294 t298 (decide ((l0_4.length : Int) > 8)) a0_0 a0_1 a0_2 a0_3 l0_4)) else (if (l0_4.length : Int) = 0 then (frame_Bytes.j0 k t294 t298 true a0_0 a0_1 a0_2 a0_3 l0_4) else (frame_Bytes.j0 k t294 t298 (decide ((l0_4.length : Int) > 8)) a0_0 a0_1 a0_2 a0_3 l0_4))) = some (r1, r2) := H
       have A16 := Aside0.mk A160; clear A160
       by_cases c17 : t303 = true
       ·subst c17
        rw [if_pos rfl] at H
        by_cases c18 : (l0_4.length : Int) = 0
        ·rw [if_pos c18] at H
         have c18b0 : ((l0_4.length : Int) == 0) = true := beq_iff_eq.mpr c18
         have c18b1 : ((l0_4.length : Int) != 0) = false := bne_eq_false_iff_eq.mpr c18
         clear c18
         have H' := Aside0.mk H
         clear H; obtain ⟨q19_0, q19_1, q19_2, q19_3, q19_4⟩ := cA5 BK293; obtain ⟨f19_0, f19_1, f19_2, f19_3, f19_4⟩ := fA5 BK293
         go_wp2_with (first | (go_at_call 19; (with_reducible refine (frame_Bytes_1.calls a0_0 true _ A14.out).mono ?_); rintro e w' ⟨rfl, ⟨nd, rfl⟩⟩) | (go_at_call 19; (with_reducible refine (frame_Bytes_1.calls a0_2 true _ A16.out).mono ?_); rintro e w' ⟨rfl, ⟨nd, rfl⟩⟩))
         go_meet
         case rel => exact ⟨_, (true), gv, H', ⟨by first | omega | exact Nat.le_refl _⟩, ⟨mR HO297⟩, ⟨mR HO301⟩, ⟨uK BK293⟩, ⟨uB HB⟩⟩
        rw [if_neg c18] at H
        have c18b0 : ((l0_4.length : Int) == 0) = false := beq_eq_false_iff_ne.mpr c18
        have c18b1 : ((l0_4.length : Int) != 0) = true := bne_iff_ne.mpr c18
        have c18b2 : ¬ (l0_4 = []) := fun h_ => c18 (by rw [h_]; rfl)
        have H' := Aside0.mk H
        clear H; obtain ⟨q20_0, q20_1, q20_2, q20_3, q20_4⟩ := cA5 BK293; obtain ⟨f20_0, f20_1, f20_2, f20_3, f20_4⟩ := fA5 BK293
        go_wp2_with (first | (go_at_call 19; (with_reducible refine (frame_Bytes_1.calls a0_0 true _ A14.out).mono ?_); rintro e w' ⟨rfl, ⟨nd, rfl⟩⟩) | (go_at_call 19; (with_reducible refine (frame_Bytes_1.calls a0_2 true _ A16.out).mono ?_); rintro e w' ⟨rfl, ⟨nd, rfl⟩⟩))
        go_meet
        case rel => exact ⟨_, (decide ((l0_4.length : Int) > 8)), gv, H', ⟨by first | omega | exact Nat.le_refl _⟩, ⟨mR HO297⟩, ⟨mR HO301⟩, ⟨uK BK293⟩, ⟨uB HB⟩⟩
       replace c17 := Bool.eq_false_iff.mpr c17
       subst c17
       rw [if_neg (show ¬ (false = true) by decide)] at H
       by_cases c21 : (l0_4.length : Int) = 0
       ·rw [if_pos c21] at H
        have c21b0 : ((l0_4.length : Int) == 0) = true := beq_iff_eq.mpr c21
        have c21b1 : ((l0_4.length : Int) != 0) = false := bne_eq_false_iff_eq.mpr c21
        clear c21
        have H' := Aside0.mk H
        clear H; obtain ⟨q22_0, q22_1, q22_2, q22_3, q22_4⟩ := cA5 BK293; obtain ⟨f22_0, f22_1, f22_2, f22_3, f22_4⟩ := fA5 BK293
        go_wp2_with (first | (go_at_call 19; (with_reducible refine (frame_Bytes_1.calls a0_0 true _ A14.out).mono ?_); rintro e w' ⟨rfl, ⟨nd, rfl⟩⟩) | (go_at_call 19; (with_reducible refine (frame_Bytes_1.calls a0_2 false _ A16.out).mono ?_); rintro e w' ⟨rfl, ⟨nd, rfl⟩⟩))
        go_meet
        case rel => exact ⟨_, (true), gv, H', ⟨by first | omega | exact Nat.le_refl _⟩, ⟨mR HO297⟩, ⟨mR HO301⟩, ⟨uK BK293⟩, ⟨uB HB⟩⟩
       rw [if_neg c21] at H
       have c21b0 : ((l0_4.length : Int) == 0) = false := beq_eq_false_iff_ne.mpr c21
       have c21b1 : ((l0_4.length : Int) != 0) = true := bne_iff_ne.mpr c21
       have c21b2 : ¬ (l0_4 = []) := fun h_ => c21 (by rw [h_]; rfl)
       have H' := Aside0.mk H
       clear H; obtain ⟨q23_0, q23_1, q23_2, q23_3, q23_4⟩ := cA5 BK293; obtain ⟨f23_0, f23_1, f23_2, f23_3, f23_4⟩ := fA5 BK293
       go_wp2_with (first | (go_at_call 19; (with_reducible refine (frame_Bytes_1.calls a0_0 true _ A14.out).mono ?_); rintro e w' ⟨rfl, ⟨nd, rfl⟩⟩) | (go_at_call 19; (with_reducible refine (frame_Bytes_1.calls a0_2 false _ A16.out).mono ?_); rintro e w' ⟨rfl, ⟨nd, rfl⟩⟩))
       go_meet
       case rel => exact ⟨_, (decide ((l0_4.length : Int) > 8)), gv, H', ⟨by first | omega | exact Nat.le_refl _⟩, ⟨mR HO297⟩, ⟨mR HO301⟩, ⟨uK BK293⟩, ⟨uB HB⟩⟩
      replace c15 := Bool.eq_false_iff.mpr c15
      subst c15
      rw [if_neg (show ¬ (false = true) by decide)] at H
      have H' := Aside0.mk H
      clear H; obtain ⟨q24_0, q24_1, q24_2, q24_3, q24_4⟩ := cA5 BK293; obtain ⟨f24_0, f24_1, f24_2, f24_3, f24_4⟩ := fA5 BK293
      go_wp2_with (first | (go_at_call 19; (with_reducible refine (frame_Bytes_1.calls a0_0 false _ A14.out).mono ?_); rintro e w' ⟨rfl, ⟨nd, rfl⟩⟩))
      go_meet
      case rel => exact ⟨_, (true), gv, H', ⟨by first | omega | exact Nat.le_refl _⟩, ⟨mR HO297⟩, ⟨mR HO301⟩, ⟨uK BK293⟩, ⟨uB HB⟩⟩
     rw [if_neg c13] at H
     have c13b0 : (a0_3 == 0) = false := beq_eq_false_iff_ne.mpr c13
     have c13b1 : (a0_3 != 0) = true := bne_iff_ne.mpr c13
     have H' := Aside0.mk H
     clear H; obtain ⟨q25_0, q25_1, q25_2, q25_3, q25_4⟩ := cA5 BK293; obtain ⟨f25_0, f25_1, f25_2, f25_3, f25_4⟩ := fA5 BK293
     go_wp2
     go_meet
     case rel => exact ⟨_, (true), gv, H', ⟨by first | omega | exact Nat.le_refl _⟩, ⟨mR HO297⟩, ⟨mR HO301⟩, ⟨uK BK293⟩, ⟨uB HB⟩⟩
    rw [if_neg c12] at H
    have c12b0 : (a0_2 == 255) = false := beq_eq_false_iff_ne.mpr c12
    have c12b1 : (a0_2 != 255) = true := bne_iff_ne.mpr c12
    replace H := Option.bind_eq_some_iff.mp H; obtain ⟨t304, A260, H⟩ := H
    replace H : (if t304 = true then ((frame_Bytes_1.f a0_2).bind fun t305 => (if t305 = true then (if (l0_4.length : Int) = 0 then (frame_Bytes.j0 k t294 t298 true a0_0 a0_1 a0_2 a0_3 l0_4) else (frame_Bytes.j0 k t294 t298 (decide ((l0_4.length : Int) > 8)) a0_0 a0_1 a0_2 a0_3 l0_4)) else (frame_Bytes.j0 k t294 t298 true a0_0 a0_1 a0_2 a0_3 l0_4))) else (frame_Bytes.j0 k t294 t298 true a0_0 a0_1 a0_2 a0_3 l0_4)) = some (r1, r2) := H
    have A26 := Aside0.mk A260; clear A260
    by_cases c27 : t304 = true
    ·subst c27
     have H1 : ((frame_Bytes_1.f a0_2).bind fun t305 => (if t305 = true then (if (l0_4.length : Int) = 0 then (frame_Bytes.j0 k t294 t298 true a0_0 a0_1 a0_2 a0_3 l0_4) else (frame_Bytes.j0 k t294 t298 (decide ((l0_4.length : Int) > 8)) a0_0 a0_1 a0_2 a0_3 l0_4)) else (frame_Bytes.j0 k t294 t298 true a0_0 a0_1 a0_2 a0_3 l0_4))) = some (r1, r2) := by rw [if_pos rfl] at H; exact H
     clear H; have H := H1; clear H1; replace H := Option.bind_eq_some_iff.mp H; obtain ⟨t305, A280, H⟩ := H
     replace H : (if t305 = true then (if (l0_4.length : Int) = 0 then (frame_Bytes.j0 k t294 t298 true a0_0 a0_1 a0_2 a0_3 l0_4) else (frame_Bytes.j0 k t294 t298 (decide ((l0_4.length : Int) > 8)) a0_0 a0_1 a0_2 a0_3 l0_4)) else (frame_Bytes.j0 k t294 t298 true a0_0 a0_1 a0_2 a0_3 l0_4)) = some (r1, r2) := H
     have A28 := Aside0.mk A280; clear A280
     by_cases c29 : t305 = true
     ·subst c29
      rw [if_pos rfl] at H
      by_cases c30 : (l0_4.length : Int) = 0
      ·rw [if_pos c30] at H
       have c30b0 : ((l0_4.length : Int) == 0) = true := beq_iff_eq.mpr c30
       have c30b1 : ((l0_4.length : Int) != 0) = false := bne_eq_false_iff_eq.mpr c30
       clear c30
       have H' := Aside0.mk H
       clear H; obtain ⟨q31_0, q31_1, q31_2, q31_3, q31_4⟩ := cA5 BK293; obtain ⟨f31_0, f31_1, f31_2, f31_3, f31_4⟩ := fA5 BK293
       go_wp2_with (first | (go_at_call 19; (with_reducible refine (frame_Bytes_1.calls a0_0 true _ A26.out).mono ?_); rintro e w' ⟨rfl, ⟨nd, rfl⟩⟩) | (go_at_call 19; (with_reducible refine (frame_Bytes_1.calls a0_2 true _ A28.out).mono ?_); rintro e w' ⟨rfl, ⟨nd, rfl⟩⟩))
       go_meet
       case rel => exact ⟨_, (true), gv, H', ⟨by first | omega | exact Nat.le_refl _⟩, ⟨mR HO297⟩, ⟨mR HO301⟩, ⟨uK BK293⟩, ⟨uB HB⟩⟩
      rw [if_neg c30] at H
      have c30b0 : ((l0_4.length : Int) == 0) = false := beq_eq_false_iff_ne.mpr c30
      have c30b1 : ((l0_4.length : Int) != 0) = true := bne_iff_ne.mpr c30
      have c30b2 : ¬ (l0_4 = []) := fun h_ => c30 (by rw [h_]; rfl)
      have H' := Aside0.mk H
      clear H; obtain ⟨q32_0, q32_1, q32_2, q32_3, q32_4⟩ := cA5 BK293; obtain ⟨f32_0, f32_1, f32_2, f32_3, f32_4⟩ := fA5 BK293
      go_wp2_with (first | (go_at_call 19; (with_reducible refine (frame_Bytes_1.calls a0_0 true _ A26.out).mono ?_); rintro e w' ⟨rfl, ⟨nd, rfl⟩⟩) | (go_at_call 19; (with_reducible refine (frame_Bytes_1.calls a0_2 true _ A28.out).mono ?_); rintro e w' ⟨rfl, ⟨nd, rfl⟩⟩))
      go_meet
      case rel => exact ⟨_, (decide ((l0_4.length : Int) > 8)), gv, H', ⟨by first | omega | exact Nat.le_refl _⟩, ⟨mR HO297⟩, ⟨mR HO301⟩, ⟨uK BK293⟩, ⟨uB HB⟩⟩
     replace c29 := Bool.eq_false_iff.mpr c29
     subst c29
     rw [if_neg (show ¬ (false = true) by decide)] at H
     have H' := Aside0.mk H
     clear H; obtain ⟨q33_0, q33_1, q33_2, q33_3, q33_4⟩ := cA5 BK293; obtain ⟨f33_0, f33_1, f33_2, f33_3, f33_4⟩ := fA5 BK293
     go_wp2_with (first | (go_at_call 19; (with_reducible refine (frame_Bytes_1.calls a0_0 true _ A26.out).mono ?_); rintro e w' ⟨rfl, ⟨nd, rfl⟩⟩) | (go_at_call 19; (with_reducible refine (frame_Bytes_1.calls a0_2 false _ A28.out).mono ?_); rintro e w' ⟨rfl, ⟨nd, rfl⟩⟩))
     go_meet
     case rel => exact ⟨_, (true), gv, H', ⟨by first | omega | exact Nat.le_refl _⟩, ⟨mR HO297⟩, ⟨mR HO301⟩, ⟨uK BK293⟩, ⟨uB HB⟩⟩
    replace c27 := Bool.eq_false_iff.mpr c27
    subst c27
    rw [if_neg (show ¬ (false = true) by decide)] at H
    have H' := Aside0.mk H
    clear H; obtain ⟨q34_0, q34_1, q34_2, q34_3, q34_4⟩ := cA5 BK293; obtain ⟨f34_0, f34_1, f34_2, f34_3, f34_4⟩ := fA5 BK293
    go_wp2_with (first | (go_at_call 19; (with_reducible refine (frame_Bytes_1.calls a0_0 false _ A26.out).mono ?_); rintro e w' ⟨rfl, ⟨nd, rfl⟩⟩))
    go_meet
    case rel => exact ⟨_, (true), gv, H', ⟨by first | omega | exact Nat.le_refl _⟩, ⟨mR HO297⟩, ⟨mR HO301⟩, ⟨uK BK293⟩, ⟨uB HB⟩⟩
   rw [if_neg c11] at H
   have c11b0 : (t299 == 0) = false := beq_eq_false_iff_ne.mpr c11
   have c11b1 : (t299 != 0) = true := bne_iff_ne.mpr c11
   have H' := Aside0.mk H
   clear H
   go_wp2
   go_meet
   case rel => exact ⟨_, (true), gv, H', ⟨by first | omega | exact Nat.le_refl _⟩, ⟨mR HO297⟩, ⟨mR HO301⟩, ⟨uK BK293⟩, ⟨uB HB⟩⟩
  rw [if_neg c10] at H
  have c10b0 : (t295 == 0) = false := beq_eq_false_iff_ne.mpr c10
  have c10b1 : (t295 != 0) = true := bne_iff_ne.mpr c10
  (first | rw [c10b0] | (simp only [i64_w, i32_w]; rw [c10b0]) | rw [c10b1] | skip)
  have H' := Aside0.mk H
  clear H
  go_wp2
  go_meet
  case rel => exact ⟨_, (true), gv, H', ⟨by first | omega | exact Nat.le_refl _⟩, ⟨mR HO297⟩, ⟨mR HO301⟩, ⟨uK BK293⟩, ⟨uB HB⟩⟩
 case rest =>
  clear HC4; (try clear c1); (try clear c2); (try clear p2); (try clear c3); (try clear c9); (try clear c10); (try clear c10b0); (try clear c10b1); (try clear c11); (try clear c11b0); (try clear c11b1); (try clear c12); (try clear c12b0); (try clear c12b1); (try clear c13); (try clear c13b0); (try clear c13b1); (try clear c15); (try clear c17); (try clear c18); (try clear c18b0); (try clear c18b1); (try clear c18b2); (try clear c20); (try clear c21); (try clear c21b0); (try clear c21b1); (try clear c21b2); (try clear c27); (try clear c29); (try clear c30); (try clear c30b0); (try clear c30b1); (try clear c30b2); (try clear q19_0); (try clear q19_1); (try clear q19_2); (try clear q19_3); (try clear q19_4); (try clear q20_0); (try clear q20_1); (try clear q20_2); (try clear q20_3); (try clear q20_4); (try clear q22_0); (try clear q22_1); (try clear q22_2); (try clear q22_3); (try clear q22_4); (try clear q23_0); (try clear q23_1); (try clear q23_2); (try clear q23_3); (try clear q23_4); (try clear q24_0); (try clear q24_1); (try clear q24_2); (try clear q24_3); (try clear q24_4); (try clear q25_0); (try clear q25_1); (try clear q25_2); (try clear q25_3); (try clear q25_4); (try clear q31_0); (try clear q31_1); (try clear q31_2); (try clear q31_3); (try clear q31_4); (try clear q32_0); (try clear q32_1); (try clear q32_2); (try clear q32_3); (try clear q32_4); (try clear q33_0); (try clear q33_1); (try clear q33_2); (try clear q33_3); (try clear q33_4); (try clear q34_0); (try clear q34_1); (try clear q34_2); (try clear q34_3); (try clear q34_4); (try clear q6_0); (try clear q6_1); (try clear q6_2); (try clear q6_3); (try clear q6_4); (try clear q8_0); (try clear q8_1); (try clear q8_2); (try clear q8_3); (try clear q8_4); (try clear f19_0); (try clear f19_1); (try clear f19_2); (try clear f19_3); (try clear f19_4); (try clear f20_0); (try clear f20_1); (try clear f20_2); (try clear f20_3); (try clear f20_4); (try clear f22_0); (try clear f22_1); (try clear f22_2); (try clear f22_3); (try clear f22_4); (try clear f23_0); (try clear f23_1); (try clear f23_2); (try clear f23_3); (try clear f23_4); (try clear f24_0); (try clear f24_1); (try clear f24_2); (try clear f24_3); (try clear f24_4); (try clear f25_0); (try clear f25_1); (try clear f25_2); (try clear f25_3); (try clear f25_4); (try clear f31_0); (try clear f31_1); (try clear f31_2); (try clear f31_3); (try clear f31_4); (try clear f32_0); (try clear f32_1); (try clear f32_2); (try clear f32_3); (try clear f32_4); (try clear f33_0); (try clear f33_1); (try clear f33_2); (try clear f33_3); (try clear f33_4); (try clear f34_0); (try clear f34_1); (try clear f34_2); (try clear f34_3); (try clear f34_4); (try clear f6_0); (try clear f6_1); (try clear f6_2); (try clear f6_3); (try clear f6_4); (try clear f8_0); (try clear f8_1); (try clear f8_2); (try clear f8_3); (try clear f8_4); obtain ⟨kq, x74_3, rfl, HA, HJ3, HO_5, HO_7, BK293, HB⟩ := hcut
  cases kq with
  | zero => exact absurd HA.out (by simp [frame_Bytes.j0])
  | succ kj3 =>
   have H := HA.out
   clear HA
   simp only [frame_Bytes.j0] at H
   by_cases c35 : x74_3 = true
   ·subst c35
    rw [if_pos rfl] at H
    simp only [Option.some.injEq, Prod.mk.injEq] at H
    obtain ⟨rfl, rfl⟩ := H
    go_wp2
    go_ret2
    exact ⟨_, gE, gO, uB HB⟩
   replace c35 := Bool.eq_false_iff.mpr c35
   subst c35
   rw [if_neg (show ¬ (false = true) by decide)] at H
   obtain ⟨y306, hy306⟩ : ∃ y_ : List Int, y_ = (([84, 1, (a0_0) % 256, (a0_2) % 256] : List Int)) := ⟨_, rfl⟩
   replace H : (if y306.length + t294.length < 140737488355328 then ((some (y306 ++ t294 : List Int)).bind fun y309 => (if y309.length + t298.length < 140737488355328 then ((some (y309 ++ t298 : List Int)).bind fun y312 => ((some (([0, 0, ((l0_4.length : Int)) % 256] : List Int) : List Int)).bind fun y315 => (if y312.length + y315.length < 140737488355328 then (frame_Bytes.l0 kj3 (y312 ++ y315) l0_4 (l0_4.length : Int) 0) else (none)))) else (none))) else (none)) = some (r1, r2) := by first | (rw [hy306]; with_reducible exact H) | (have H2_ := (Option.bind_some _ _).symm.trans H; rw [hy306]; with_reducible exact H2_) | (have H2_ := (Option.bind_some _ _).symm.trans H; with_reducible exact H2_) | with_reducible exact H | (rw [hy306]; exact H) | exact H
   have Ny306 := Aside0.mk hy306; clear hy306
   by_cases c36 : y306.length + t294.length < 140737488355328
   rotate_left
   ·rw [if_neg c36] at H
    exact absurd H (by simp)
   rw [if_pos c36] at H; have LMc36 := Aside0.mk c36; clear c36
   obtain ⟨y309, hy309⟩ : ∃ y_ : List Int, y_ = (y306 ++ t294) := ⟨_, rfl⟩
   replace H : (if y309.length + t298.length < 140737488355328 then ((some (y309 ++ t298 : List Int)).bind fun y312 => ((some (([0, 0, ((l0_4.length : Int)) % 256] : List Int) : List Int)).bind fun y315 => (if y312.length + y315.length < 140737488355328 then (frame_Bytes.l0 kj3 (y312 ++ y315) l0_4 (l0_4.length : Int) 0) else (none)))) else (none)) = some (r1, r2) := by first | (rw [hy309]; with_reducible exact H) | (have H2_ := (Option.bind_some _ _).symm.trans H; rw [hy309]; with_reducible exact H2_) | (have H2_ := (Option.bind_some _ _).symm.trans H; with_reducible exact H2_) | with_reducible exact H | (rw [hy309]; exact H) | exact H
   have Ny309 := Aside0.mk hy309; clear hy309
   by_cases c37 : y309.length + t298.length < 140737488355328
   rotate_left
   ·rw [if_neg c37] at H
    exact absurd H (by simp)
   rw [if_pos c37] at H; have LMc37 := Aside0.mk c37; clear c37
   obtain ⟨y312, hy312⟩ : ∃ y_ : List Int, y_ = (y309 ++ t298) := ⟨_, rfl⟩
   replace H : ((some (([0, 0, ((l0_4.length : Int)) % 256] : List Int) : List Int)).bind fun y315 => (if y312.length + y315.length < 140737488355328 then (frame_Bytes.l0 kj3 (y312 ++ y315) l0_4 (l0_4.length : Int) 0) else (none))) = some (r1, r2) := by first | (rw [hy312]; with_reducible exact H) | (have H2_ := (Option.bind_some _ _).symm.trans H; rw [hy312]; with_reducible exact H2_) | (have H2_ := (Option.bind_some _ _).symm.trans H; with_reducible exact H2_) | with_reducible exact H | (rw [hy312]; exact H) | exact H
   have Ny312 := Aside0.mk hy312; clear hy312
   obtain ⟨y315, hy315⟩ : ∃ y_ : List Int, y_ = (([0, 0, ((l0_4.length : Int)) % 256] : List Int)) := ⟨_, rfl⟩
   replace H : (if y312.length + y315.length < 140737488355328 then (frame_Bytes.l0 kj3 (y312 ++ y315) l0_4 (l0_4.length : Int) 0) else (none)) = some (r1, r2) := by first | (rw [hy315]; with_reducible exact H) | (have H2_ := (Option.bind_some _ _).symm.trans H; rw [hy315]; with_reducible exact H2_) | (have H2_ := (Option.bind_some _ _).symm.trans H; with_reducible exact H2_) | with_reducible exact H | (rw [hy315]; exact H) | exact H
   have Ny315 := Aside0.mk hy315; clear hy315
   by_cases c38 : y312.length + y315.length < 140737488355328
   rotate_left
   ·rw [if_neg c38] at H
    exact absurd H (by simp)
   rw [if_pos c38] at H; have LMc38 := Aside0.mk c38; clear c38
   obtain ⟨y318, hy318⟩ : ∃ y_ : List Int, y_ = (y312 ++ y315) := ⟨_, rfl⟩
   replace H : (frame_Bytes.l0 kj3 y318 l0_4 (l0_4.length : Int) 0) = some (r1, r2) := by first | (rw [hy318]; with_reducible exact H) | (have H2_ := (Option.bind_some _ _).symm.trans H; rw [hy318]; with_reducible exact H2_) | (have H2_ := (Option.bind_some _ _).symm.trans H; with_reducible exact H2_) | with_reducible exact H | (rw [hy318]; exact H) | exact H
   have Ny318 := Aside0.mk hy318; clear hy318
   have H' := Aside0.mk H
   clear H; obtain ⟨q39_0, q39_1, q39_2, q39_3, q39_4⟩ := cA5 BK293; obtain ⟨f39_0, f39_1, f39_2, f39_3, f39_4⟩ := fA5 BK293
   try go_wp2_with (first | ((with_reducible refine gate_dst (N := 81) rfl ?_); (try (refine gate_guard (by rfl) ?_; dsimp only)); refine Kd.R_lit (Kd.int .u8) _ 5 ?hg (N := 81) ?hd (xs := ([84, 1, (a0_0) % 256, (a0_2) % 256] : List Int)) (inner := [.int .u8 84, .int .u8 1, .int .u8 ((a0_0) % 256), .int .u8 ((a0_2) % 256)]) (ok := fun _ => True) (okp := fun _ => True) ?hr ?hp (fun _ hk => hk) trivial (Below.refl _ _) (Nat.le_refl _) (by simp) ?_; (case hd => rfl); (case hg => rfl); (case hr => first | (go_simp; done) | (go_simp; rfl)); (case hp => exact (Reps.one (show Kd.M (Kd.int .u8) _ _ _ 84 [.int .u8 84] from rfl) (Reps.one (show Kd.M (Kd.int .u8) _ _ _ 1 [.int .u8 1] from rfl) (Reps.one (show Kd.M (Kd.int .u8) _ _ _ ((a0_0) % 256) [.int .u8 ((a0_0) % 256)] from rfl) (Reps.one (show Kd.M (Kd.int .u8) _ _ _ ((a0_2) % 256) [.int .u8 ((a0_2) % 256)] from rfl) (Reps.none _ _)))))); intro v307 w40 ho41 hb hg_ hnew_; clear hg_ hnew_; (first | rw [← Ny306.out] at ho41 | (simp only [Int.reduceToNat] at ho41; rw [← Ny306.out] at ho41)); have HO308 := Aside0.mk (Kd.R_lower (Kd.R_new' (Kd.R_new' ho41 (Kd.R_lt (uR HO_5))) (Kd.R_lt (uR HO_7))) (below_size (uB HB))); replace HO_5 := Aside0.mk (Kd.R_elder' (uR HO_5) (Kd.R_base ho41) hb); replace HO_7 := Aside0.mk (Kd.R_elder' (uR HO_7) (Kd.R_base ho41) hb); replace BK293 := kb BK293 hb; replace HB := bs HB hb; clear hb ho41; obtain ⟨Ao43, co43, eo43⟩ := Kd.R_slice HO_5.out; subst eo43) | ((with_reducible refine gate_builtin (b := .append) (xs := #[.tmp 81, .tmp 82]) rfl ?_); (try (refine gate_guard (by rfl) ?_; dsimp only)); at_builtin; refine Kd.R_append_rows (Kd.int .u8) (w0 := w) w.heap.size rfl (.tmp 81) (.tmp 82) 26 5 (.int .u8 0) 1 rfl Try.underlying26 info5 rfl (by decide) (by omega) v307 y306 t294 _ _ _ (fun k_ => some k_ ≠ (.slice Ao43 t294.length co43 : Value).ownBlock ∧ some k_ ≠ (v300 : Value).ownBlock) (fun _ => False) rfl rfl ?aO ?aR (fun _ _ h => h) (fun _ h => h.elim) ?aF ?aB ?aS ?aL ?_; (case aR => exact rC (Kd.R_reads' HO_5.out).2.2); (case aB => exact (uB HB)); (case aF => exact (fun k_ hk => ⟨Kd.fresh' (Kd.R_lt (uR HO_5)) k_ hk, Kd.fresh' (Kd.R_lt (uR HO_7)) k_ hk⟩)); (case aO => exact (mR HO308)); (case aS => exact (below_size (uB HB))); (case aL => have := LMc36.out; omega); intro v310 w42 ho hb hg hat; rw [← Ny309.out] at ho; have n0_ := Aside0.mk (Kd.R_after (ok := (fun k_ => some k_ ≠ (v300 : Value).ownBlock)) (uR HO_5) hg hat); have n1_ := Aside0.mk (Kd.R_after (ok := (fun k_ => some k_ ≠ (.slice Ao43 t294.length co43 : Value).ownBlock)) (uR HO_7) hg hat); have n2_ := Aside0.mk (blk_grown (uK BK293) hg (Kd.R_ne HO308.out BK293.out (by decide))); have n3_ := Aside0.mk (hb); have n4_ := Aside0.mk (ho); clear HO_5; clear HO_7; clear BK293; clear HB; clear HO308; have HO_5 := n0_; have HO_7 := n1_; have BK293 := n2_; have HB := n3_; have HO311 := n4_; clear n0_ n1_ n2_ n3_ n4_; clear ho hb hg hat; obtain ⟨Ao44, co44, eo44⟩ := Kd.R_slice HO311.out; subst eo44; obtain ⟨Ao45, co45, eo45⟩ := Kd.R_slice HO_7.out; subst eo45))
   replace HO_5 := Aside0.mk (Kd.R_drew HO_5.out); replace HO_7 := Aside0.mk (Kd.R_drew HO_7.out); replace HO311 := Aside0.mk (Kd.R_drew HO311.out); replace BK293 := Aside0.mk (blk_drew BK293.out); replace HB := Aside0.mk (below_drew1 HB.out)
   refine start_ (n := 10) (S := fun w' => w'.cell? ⟨gb293, 0, none⟩ = some (.int .i64 a0_0) ∧ w'.cell? ⟨gb293, 1, none⟩ = some (.int .i64 a0_1) ∧ w'.cell? ⟨gb293, 2, none⟩ = some (.int .i64 a0_2) ∧ w'.cell? ⟨gb293, 3, none⟩ = some (.int .i64 a0_3) ∧ w'.cell? ⟨gb293, 4, none⟩ = some (.slice A0_4 l0_4.length c0_4)) (ds := []) #[false, false, false, false, false, false, false, false, false, false] (by kernel_rfl) rfl rfl (cA5 BK293) (fun hHeld => ?_)
   refine with_tabW frame_Bytes.tab7 frame_Bytes.bits7 (fun HT_ HW_ => ?_)
   generalize w42.drew = w46 at HO_5 HO_7 HO311 BK293 HB hHeld ⊢
   refine pA 0 (some 84) ?_; refine pA 1 (some 85) ?_; refine pA 3 (some 87) ?_; refine tA 4 (some 88) ?_; refine pA 5 (some 89) ?_; refine pA 6 (some 90) ?_
   refine join_ (σ := Value × Value) 2 #[true, true, true, true, true, true, true, true, false, false] (fun s_ => [(86, s_.1), (91, s_.2)]) (fun s_ w' => (w'.cell? ⟨gb293, 0, none⟩ = some (.int .i64 a0_0) ∧ w'.cell? ⟨gb293, 1, none⟩ = some (.int .i64 a0_1) ∧ w'.cell? ⟨gb293, 2, none⟩ = some (.int .i64 a0_2) ∧ w'.cell? ⟨gb293, 3, none⟩ = some (.int .i64 a0_3) ∧ w'.cell? ⟨gb293, 4, none⟩ = some (.slice A0_4 l0_4.length c0_4)) ∧ (Kd.R (Kd.int .u8) 5 w' w.heap.size (fun k_ => some k_ ≠ (s_.2 : Value).ownBlock ∧ some k_ ≠ (.slice Ao43 t294.length co43 : Value).ownBlock ∧ some k_ ≠ (.slice Ao45 t298.length co45 : Value).ownBlock) s_.1 y312) ∧ (Kd.R (Kd.int .u8) 5 w' w.heap.size (fun k_ => some k_ ≠ (s_.1 : Value).ownBlock ∧ some k_ ≠ (.slice Ao43 t294.length co43 : Value).ownBlock ∧ some k_ ≠ (.slice Ao45 t298.length co45 : Value).ownBlock) s_.2 y315) ∧ (Kd.R (Kd.int .u8) 5 w' w.heap.size (fun k_ => some k_ ≠ (s_.1 : Value).ownBlock ∧ some k_ ≠ (s_.2 : Value).ownBlock ∧ some k_ ≠ (.slice Ao45 t298.length co45 : Value).ownBlock) (.slice Ao43 t294.length co43) t294) ∧ (Kd.R (Kd.int .u8) 5 w' w.heap.size (fun k_ => some k_ ≠ (s_.1 : Value).ownBlock ∧ some k_ ≠ (s_.2 : Value).ownBlock ∧ some k_ ≠ (.slice Ao43 t294.length co43 : Value).ownBlock) (.slice Ao45 t298.length co45) t298) ∧ (w'.heap[gb293]? = some (.cells #[.int .i64 a0_0, .int .i64 a0_1, .int .i64 a0_2, .int .i64 a0_3, .slice A0_4 l0_4.length c0_4] 24 (0, 0))) ∧ (Below w.heap.size w w')) ?_ ?_
   rotate_left
   ·intro hCont
    refine two_ (i := 2) (j := 7) (Ni := some 86) (Nj := some 91) #[true, true, true, true, true, true, true, false, false, false] #[true, true, false, true, true, true, true, true, false, false] rfl rfl rfl rfl (two_of HT_.out (by kernel_rfl)) (by decide) (by decide) (fun K hK => ?_) (fun K hK => ?_)
    ·skip
     refine Kd.R_append_rows_step (Kd.int .u8) (w0 := w) w.heap.size (by rfl) (.tmp 84) (.tmp 85) 26 5 (.int .u8 0) 1 rfl Try.underlying26 info5 rfl (by decide) (by omega) (.slice Ao44 y309.length co44) y309 t298 _ _ _ (fun k_ => some k_ ≠ (.slice Ao43 t294.length co43 : Value).ownBlock ∧ some k_ ≠ (.slice Ao45 t298.length co45 : Value).ownBlock) (fun _ => False) rfl rfl ?aO ?aR (fun _ _ h => h) (fun _ h => h.elim) ?aF ?aB ?aS ?aL ?_
     (case aR => exact rC (Kd.R_reads' HO_7.out).2.2)
     (case aB => exact (uB HB))
     (case aF => exact (fun k_ hk => ⟨Kd.fresh' (Kd.R_lt (uR HO_5)) k_ hk, Kd.fresh' (Kd.R_lt (uR HO_7)) k_ hk⟩))
     (case aO => exact (uR HO311))
     (case aS => exact (below_size (uB HB)))
     (case aL => have := LMc37.out; omega)
     intro v313 w47 ho hb hg hat
     rw [← Ny312.out] at ho
     have n0_ := Aside0.mk (Kd.R_after (ok := (fun k_ => some k_ ≠ (.slice Ao45 t298.length co45 : Value).ownBlock)) (uR HO_5) hg hat); have n1_ := Aside0.mk (Kd.R_after (ok := (fun k_ => some k_ ≠ (.slice Ao43 t294.length co43 : Value).ownBlock)) (uR HO_7) hg hat); have n2_ := Aside0.mk (blk_grown (uK BK293) hg (Kd.R_ne HO311.out BK293.out (by decide))); have n3_ := Aside0.mk (hb); have n4_ := Aside0.mk (ho); clear HO_5; clear HO_7; clear BK293; clear HB; clear HO311; have HO_5 := n0_; have HO_7 := n1_; have BK293 := n2_; have HB := n3_; have HO314 := n4_; clear n0_ n1_ n2_ n3_ n4_; clear ho hb hg hat
     refine hK.out _ _ (cA5 BK293) (fun hHeld => ?_)
     clear hK K; refine nA 86 ?_
     refine oA 7 (some 91) (fun K hK => ?_)
     refine Kd.R_lit_step (Kd.int .u8) _ 5 ?hg (N := 91) ?hd (xs := ([0, 0, ((l0_4.length : Int)) % 256] : List Int)) (inner := [.int .u8 0, .int .u8 0, .int .u8 (((l0_4.length : Int)) % 256)]) (ok := fun _ => True) (okp := fun _ => True) ?hr ?hp (fun _ hk => hk) trivial (Below.refl _ _) (Nat.le_refl _) (by simp) ?_
     (case hd => rfl)
     (case hg => rfl)
     (case hr => first | (go_simp; done) | (go_simp; rfl))
     (case hp => exact (Reps.one (show Kd.M (Kd.int .u8) _ _ _ 0 [.int .u8 0] from rfl) (Reps.one (show Kd.M (Kd.int .u8) _ _ _ 0 [.int .u8 0] from rfl) (Reps.one (show Kd.M (Kd.int .u8) _ _ _ (((l0_4.length : Int)) % 256) [.int .u8 (((l0_4.length : Int)) % 256)] from rfl) (Reps.none _ _)))))
     intro v316 w48 ho49 hb hg_ hnew_
     clear hg_ hnew_
     (first | rw [← Ny315.out] at ho49 | (simp only [Int.reduceToNat] at ho49; rw [← Ny315.out] at ho49))
     have HO317 := Aside0.mk (Kd.R_lower (Kd.R_new' (Kd.R_new' (Kd.R_new' ho49 (Kd.R_lt (uR HO_5))) (Kd.R_lt (uR HO_7))) (Kd.R_lt (uR HO314))) (below_size (uB HB))); replace HO_5 := Aside0.mk (Kd.R_elder' (uR HO_5) (Kd.R_base ho49) hb); replace HO_7 := Aside0.mk (Kd.R_elder' (uR HO_7) (Kd.R_base ho49) hb); replace HO314 := Aside0.mk (Kd.R_elder' (uR HO314) (Kd.R_base ho49) hb); replace BK293 := kb BK293 hb; replace HB := bs HB hb; clear hb ho49
     refine hK.out _ _ (cA5 BK293) (fun hHeld => ?_)
     clear hK K; refine nA 91 ?_
     exact norm_ (by simp only [putAll, Act.put, List.setIfInBounds_toArray, List.set_cons_zero, List.set_cons_succ]) (hCont (v313, v316) _ ⟨hHeld, (by refine rR ?_; exact Kd.R_mono HO314.out (fun _ hk => by first | exact ⟨hk.2, ⟨hk.1.1, hk.1.2⟩⟩ | exact trivial | (simp [hk]; done) | simp_all)), (by refine rR ?_; exact Kd.R_mono HO317.out (fun _ hk => by first | exact ⟨hk.2, ⟨hk.1.1.2, hk.1.2⟩⟩ | exact trivial | (simp [hk]; done) | simp_all)), (by refine rR ?_; exact Kd.R_mono HO_5.out (fun _ hk => by first | exact ⟨hk.1.2, ⟨hk.2, hk.1.1⟩⟩ | exact trivial | (simp [hk]; done) | simp_all)), (by refine rR ?_; exact Kd.R_mono HO_7.out (fun _ hk => by first | exact ⟨hk.1.2, ⟨hk.2, hk.1.1⟩⟩ | exact trivial | (simp [hk]; done) | simp_all)), (uK BK293), (uB HB)⟩)
    skip
    refine Kd.R_lit_step (Kd.int .u8) _ 5 ?hg (N := 91) ?hd (xs := ([0, 0, ((l0_4.length : Int)) % 256] : List Int)) (inner := [.int .u8 0, .int .u8 0, .int .u8 (((l0_4.length : Int)) % 256)]) (ok := fun _ => True) (okp := fun _ => True) ?hr ?hp (fun _ hk => hk) trivial (Below.refl _ _) (Nat.le_refl _) (by simp) ?_; (case hd => rfl); (case hg => rfl); (case hr => first | (go_simp; done) | (go_simp; rfl)); (case hp => exact (Reps.one (show Kd.M (Kd.int .u8) _ _ _ 0 [.int .u8 0] from rfl) (Reps.one (show Kd.M (Kd.int .u8) _ _ _ 0 [.int .u8 0] from rfl) (Reps.one (show Kd.M (Kd.int .u8) _ _ _ (((l0_4.length : Int)) % 256) [.int .u8 (((l0_4.length : Int)) % 256)] from rfl) (Reps.none _ _)))))
    intro v316 w47 ho48 hb hg_ hnew_
    clear hg_ hnew_
    (first | rw [← Ny315.out] at ho48 | (simp only [Int.reduceToNat] at ho48; rw [← Ny315.out] at ho48))
    have HO317 := Aside0.mk (Kd.R_lower (Kd.R_new' (Kd.R_new' (Kd.R_new' ho48 (Kd.R_lt (uR HO_5))) (Kd.R_lt (uR HO_7))) (Kd.R_lt (uR HO311))) (below_size (uB HB))); replace HO_5 := Aside0.mk (Kd.R_elder' (uR HO_5) (Kd.R_base ho48) hb); replace HO_7 := Aside0.mk (Kd.R_elder' (uR HO_7) (Kd.R_base ho48) hb); replace HO311 := Aside0.mk (Kd.R_elder' (uR HO311) (Kd.R_base ho48) hb); replace BK293 := kb BK293 hb; replace HB := bs HB hb; clear hb ho48
    refine hK.out _ _ (cA5 BK293) (fun hHeld => ?_)
    clear hK K; refine nA 91 ?_
    refine oA 2 (some 86) (fun K hK => ?_)
    refine Kd.R_append_rows_step (Kd.int .u8) (w0 := w) w.heap.size (by rfl) (.tmp 84) (.tmp 85) 26 5 (.int .u8 0) 1 rfl Try.underlying26 info5 rfl (by decide) (by omega) (.slice Ao44 y309.length co44) y309 t298 _ _ _ (fun k_ => some k_ ≠ (.slice Ao43 t294.length co43 : Value).ownBlock ∧ some k_ ≠ (.slice Ao45 t298.length co45 : Value).ownBlock ∧ some k_ ≠ (v316 : Value).ownBlock) (fun _ => False) rfl rfl ?aO ?aR (fun _ _ h => h) (fun _ h => h.elim) ?aF ?aB ?aS ?aL ?_
    (case aR => exact rC (Kd.R_reads' HO_7.out).2.2)
    (case aB => exact (uB HB))
    (case aF => exact (fun k_ hk => ⟨Kd.fresh' (Kd.R_lt (uR HO_5)) k_ hk, Kd.fresh' (Kd.R_lt (uR HO_7)) k_ hk, Kd.fresh' (Kd.R_lt (uR HO317)) k_ hk⟩))
    (case aO => exact (by refine rR ?_; exact Kd.R_mono HO311.out (fun _ hk => by first | exact ⟨hk.1.1, ⟨hk.1.2, hk.2⟩⟩ | exact trivial | (simp [hk]; done) | simp_all)))
    (case aS => exact (below_size (uB HB)))
    (case aL => have := LMc37.out; omega)
    intro v313 w49 ho hb hg hat
    rw [← Ny312.out] at ho
    have n0_ := Aside0.mk (Kd.R_after (ok := (fun k_ => some k_ ≠ (.slice Ao45 t298.length co45 : Value).ownBlock ∧ some k_ ≠ (v316 : Value).ownBlock)) (by refine rR ?_; exact Kd.R_mono HO_5.out (fun _ hk => by first | exact ⟨⟨hk.1.1, hk.2⟩, hk.1.2⟩ | exact trivial | (simp [hk]; done) | simp_all)) hg hat); have n1_ := Aside0.mk (Kd.R_after (ok := (fun k_ => some k_ ≠ (.slice Ao43 t294.length co43 : Value).ownBlock ∧ some k_ ≠ (v316 : Value).ownBlock)) (by refine rR ?_; exact Kd.R_mono HO_7.out (fun _ hk => by first | exact ⟨⟨hk.1.1, hk.2⟩, hk.1.2⟩ | exact trivial | (simp [hk]; done) | simp_all)) hg hat); have n2_ := Aside0.mk (blk_grown (uK BK293) hg (Kd.R_ne HO311.out BK293.out (by decide))); have n3_ := Aside0.mk (Kd.R_after (ok := (fun k_ => some k_ ≠ (.slice Ao43 t294.length co43 : Value).ownBlock ∧ some k_ ≠ (.slice Ao45 t298.length co45 : Value).ownBlock)) (by refine rR ?_; exact Kd.R_mono HO317.out (fun _ hk => by first | exact ⟨⟨hk.1.1.2, hk.1.2⟩, hk.2⟩ | exact trivial | (simp [hk]; done) | simp_all)) hg hat); have n4_ := Aside0.mk (hb); have n5_ := Aside0.mk (ho); clear HO_5; clear HO_7; clear BK293; clear HO317; clear HB; clear HO311; have HO_5 := n0_; have HO_7 := n1_; have BK293 := n2_; have HO317 := n3_; have HB := n4_; have HO314 := n5_; clear n0_ n1_ n2_ n3_ n4_ n5_; clear ho hb hg hat
    refine hK.out _ _ (cA5 BK293) (fun hHeld => ?_)
    clear hK K; refine nA 86 ?_
    exact norm_ (by simp only [putAll, Act.put, List.setIfInBounds_toArray, List.set_cons_zero, List.set_cons_succ]) (hCont (v313, v316) _ ⟨hHeld, (by refine rR ?_; exact Kd.R_mono HO314.out (fun _ hk => by first | exact ⟨hk.2.2, ⟨hk.1, hk.2.1⟩⟩ | exact trivial | (simp [hk]; done) | simp_all)), (by refine rR ?_; exact Kd.R_mono HO317.out (fun _ hk => by first | exact ⟨hk.2, ⟨hk.1.1, hk.1.2⟩⟩ | exact trivial | (simp [hk]; done) | simp_all)), (by refine rR ?_; exact Kd.R_mono HO_5.out (fun _ hk => by first | exact ⟨hk.2, ⟨hk.1.2, hk.1.1⟩⟩ | exact trivial | (simp [hk]; done) | simp_all)), (by refine rR ?_; exact Kd.R_mono HO_7.out (fun _ hk => by first | exact ⟨hk.2, ⟨hk.1.2, hk.1.1⟩⟩ | exact trivial | (simp [hk]; done) | simp_all)), (uK BK293), (uB HB)⟩)
   rintro ⟨v313, v316⟩ w50 ⟨hS_, h0_, h1_, h2_, h3_, h4_, h5_⟩
   have n0_ : Aside0 (Kd.R (Kd.int .u8) 5 w50 w.heap.size (fun k_ => some k_ ≠ (v316 : Value).ownBlock ∧ some k_ ≠ (.slice Ao43 t294.length co43 : Value).ownBlock ∧ some k_ ≠ (.slice Ao45 t298.length co45 : Value).ownBlock) v313 y312) := ⟨h0_⟩
   have n1_ : Aside0 (Kd.R (Kd.int .u8) 5 w50 w.heap.size (fun k_ => some k_ ≠ (v313 : Value).ownBlock ∧ some k_ ≠ (.slice Ao43 t294.length co43 : Value).ownBlock ∧ some k_ ≠ (.slice Ao45 t298.length co45 : Value).ownBlock) v316 y315) := ⟨h1_⟩
   have n2_ : Aside0 (Kd.R (Kd.int .u8) 5 w50 w.heap.size (fun k_ => some k_ ≠ (v313 : Value).ownBlock ∧ some k_ ≠ (v316 : Value).ownBlock ∧ some k_ ≠ (.slice Ao45 t298.length co45 : Value).ownBlock) (.slice Ao43 t294.length co43) t294) := ⟨h2_⟩
   have n3_ : Aside0 (Kd.R (Kd.int .u8) 5 w50 w.heap.size (fun k_ => some k_ ≠ (v313 : Value).ownBlock ∧ some k_ ≠ (v316 : Value).ownBlock ∧ some k_ ≠ (.slice Ao43 t294.length co43 : Value).ownBlock) (.slice Ao45 t298.length co45) t298) := ⟨h3_⟩
   have n4_ : Aside0 (w50.heap[gb293]? = some (.cells #[.int .i64 a0_0, .int .i64 a0_1, .int .i64 a0_2, .int .i64 a0_3, .slice A0_4 l0_4.length c0_4] 24 (0, 0))) := ⟨h4_⟩
   have n5_ : Aside0 (Below w.heap.size w w50) := ⟨h5_⟩
   clear HO_5; clear HO_7; clear HO311; clear BK293; clear HB; clear h0_ h1_ h2_ h3_ h4_ h5_; have HO314 := n0_; have HO317 := n1_; have HO_5 := n2_; have HO_7 := n3_; have BK293 := n4_; have HB := n5_; clear n0_ n1_ n2_ n3_ n4_ n5_
   have hHeld : w50.cell? ⟨gb293, 0, none⟩ = some (.int .i64 a0_0) ∧ w50.cell? ⟨gb293, 1, none⟩ = some (.int .i64 a0_1) ∧ w50.cell? ⟨gb293, 2, none⟩ = some (.int .i64 a0_2) ∧ w50.cell? ⟨gb293, 3, none⟩ = some (.int .i64 a0_3) ∧ w50.cell? ⟨gb293, 4, none⟩ = some (.slice A0_4 l0_4.length c0_4) := hS_
   obtain ⟨Ao52, co52, eo52⟩ := Kd.R_slice HO317.out
   (first | subst eo52 | (injection eo52 with f1_ f2_ f3_; have f4_ := f1_.symm; have f5_ := f3_.symm; clear f1_ f2_ f3_; subst f4_; subst f5_))
   refine norm_ (a' := ?_) ?_ ?_
   rotate_left
   ·simp only [putAll, Act.put, List.setIfInBounds_toArray, List.set_cons_zero, List.set_cons_succ]
    rfl
   refine oA 8 (some 92) (fun K hK => ?_)
   refine Kd.R_append_rows_step (Kd.int .u8) (w0 := w) w.heap.size (by rfl) (.tmp 86) (.tmp 91) 26 5 (.int .u8 0) 1 rfl Try.underlying26 info5 rfl (by decide) (by omega) v313 y312 y315 _ _ _ (fun k_ => some k_ ≠ (.slice Ao43 t294.length co43 : Value).ownBlock ∧ some k_ ≠ (.slice Ao45 t298.length co45 : Value).ownBlock ∧ some k_ ≠ (.slice Ao52 y315.length co52 : Value).ownBlock) (fun _ => False) rfl rfl ?aO ?aR (fun _ _ h => h) (fun _ h => h.elim) ?aF ?aB ?aS ?aL ?_
   (case aR => exact rC (Kd.R_reads' HO317.out).2.2)
   (case aB => exact (uB HB))
   (case aF => exact (fun k_ hk => ⟨Kd.fresh' (Kd.R_lt (uR HO_5)) k_ hk, Kd.fresh' (Kd.R_lt (uR HO_7)) k_ hk, Kd.fresh' (Kd.R_lt (uR HO317)) k_ hk⟩))
   (case aO => exact (by refine rR ?_; exact Kd.R_mono HO314.out (fun _ hk => by first | exact ⟨hk.2.1, ⟨hk.2.2, hk.1⟩⟩ | exact trivial | (simp [hk]; done) | simp_all)))
   (case aS => exact (below_size (uB HB)))
   (case aL => have := LMc38.out; omega)
   intro v319 w51 ho hb hg hat
   rw [← Ny318.out] at ho
   have n0_ := Aside0.mk (Kd.R_after (ok := (fun k_ => some k_ ≠ (.slice Ao45 t298.length co45 : Value).ownBlock ∧ some k_ ≠ (.slice Ao52 y315.length co52 : Value).ownBlock)) (by refine rR ?_; exact Kd.R_mono HO_5.out (fun _ hk => by first | exact ⟨⟨hk.2.2, hk.2.1⟩, hk.1⟩ | exact trivial | (simp [hk]; done) | simp_all)) hg hat); have n1_ := Aside0.mk (Kd.R_after (ok := (fun k_ => some k_ ≠ (.slice Ao43 t294.length co43 : Value).ownBlock ∧ some k_ ≠ (.slice Ao52 y315.length co52 : Value).ownBlock)) (by refine rR ?_; exact Kd.R_mono HO_7.out (fun _ hk => by first | exact ⟨⟨hk.2.2, hk.2.1⟩, hk.1⟩ | exact trivial | (simp [hk]; done) | simp_all)) hg hat); have n2_ := Aside0.mk (blk_grown (uK BK293) hg (Kd.R_ne HO314.out BK293.out (by decide))); have n3_ := Aside0.mk (Kd.R_after (ok := (fun k_ => some k_ ≠ (.slice Ao43 t294.length co43 : Value).ownBlock ∧ some k_ ≠ (.slice Ao45 t298.length co45 : Value).ownBlock)) (by refine rR ?_; exact Kd.R_mono HO317.out (fun _ hk => by first | exact ⟨⟨hk.2.1, hk.2.2⟩, hk.1⟩ | exact trivial | (simp [hk]; done) | simp_all)) hg hat); have n4_ := Aside0.mk (hb); have n5_ := Aside0.mk (ho); clear HO_5; clear HO_7; clear BK293; clear HO317; clear HB; clear HO314; have HO_5 := n0_; have HO_7 := n1_; have BK293 := n2_; have HO317 := n3_; have HB := n4_; have HO320 := n5_; clear n0_ n1_ n2_ n3_ n4_ n5_; clear ho hb hg hat
   refine hK.out _ _ (cA5 BK293) (fun hHeld => ?_)
   clear hK K; refine nA 92 ?_; refine pA 9 (some 9) ?_
   refine dA ?_
   obtain ⟨q53_0, q53_1, q53_2, q53_3, q53_4⟩ := cA5 BK293; obtain ⟨f53_0, f53_1, f53_2, f53_3, f53_4⟩ := fA5 BK293
   try go_wp2
   go_loopg [9, 96] kj3 (fun kq v9 v96 w' => ∃ (x9_2 : List Int) (x96_2 : Int), v96 = .int .i64 x96_2 ∧ Aside0 (frame_Bytes.l0 kq x9_2 l0_4 (l0_4.length : Int) x96_2 = some (r1, r2)) ∧ Aside0 (kq ≤ kj3) ∧ Aside0 (Kd.R (Kd.int .u8) 5 w' w.heap.size (fun _ => True) v9 x9_2) ∧ Aside0 (w'.heap[gb293]? = some (.cells #[.int .i64 a0_0, .int .i64 a0_1, .int .i64 a0_2, .int .i64 a0_3, (.slice A0_4 l0_4.length c0_4)] 24 (0, 0))) ∧ Aside0 (Below w.heap.size w w'))
   case atStart => exact ⟨(y318), (0), gv, H', ⟨Nat.le_refl _⟩, ⟨by refine rR ?_; exact Kd.R_mono HO320.out (fun _ hk => trivial)⟩, ⟨uK BK293⟩, ⟨uB HB⟩⟩
   case round =>
    clear H'; (try clear c1); (try clear c2); (try clear p2); (try clear c3); (try clear c9); (try clear c10); (try clear c10b0); (try clear c10b1); (try clear c11); (try clear c11b0); (try clear c11b1); (try clear c12); (try clear c12b0); (try clear c12b1); (try clear c13); (try clear c13b0); (try clear c13b1); (try clear c15); (try clear c17); (try clear c18); (try clear c18b0); (try clear c18b1); (try clear c18b2); (try clear c20); (try clear c21); (try clear c21b0); (try clear c21b1); (try clear c21b2); (try clear c27); (try clear c29); (try clear c30); (try clear c30b0); (try clear c30b1); (try clear c30b2); (try clear c35); (try clear c36); (try clear c37); (try clear c38); (try clear q19_0); (try clear q19_1); (try clear q19_2); (try clear q19_3); (try clear q19_4); (try clear q20_0); (try clear q20_1); (try clear q20_2); (try clear q20_3); (try clear q20_4); (try clear q22_0); (try clear q22_1); (try clear q22_2); (try clear q22_3); (try clear q22_4); (try clear q23_0); (try clear q23_1); (try clear q23_2); (try clear q23_3); (try clear q23_4); (try clear q24_0); (try clear q24_1); (try clear q24_2); (try clear q24_3); (try clear q24_4); (try clear q25_0); (try clear q25_1); (try clear q25_2); (try clear q25_3); (try clear q25_4); (try clear q31_0); (try clear q31_1); (try clear q31_2); (try clear q31_3); (try clear q31_4); (try clear q32_0); (try clear q32_1); (try clear q32_2); (try clear q32_3); (try clear q32_4); (try clear q33_0); (try clear q33_1); (try clear q33_2); (try clear q33_3); (try clear q33_4); (try clear q34_0); (try clear q34_1); (try clear q34_2); (try clear q34_3); (try clear q34_4); (try clear q39_0); (try clear q39_1); (try clear q39_2); (try clear q39_3); (try clear q39_4); (try clear q53_0); (try clear q53_1); (try clear q53_2); (try clear q53_3); (try clear q53_4); (try clear q6_0); (try clear q6_1); (try clear q6_2); (try clear q6_3); (try clear q6_4); (try clear q8_0); (try clear q8_1); (try clear q8_2); (try clear q8_3); (try clear q8_4); (try clear f19_0); (try clear f19_1); (try clear f19_2); (try clear f19_3); (try clear f19_4); (try clear f20_0); (try clear f20_1); (try clear f20_2); (try clear f20_3); (try clear f20_4); (try clear f22_0); (try clear f22_1); (try clear f22_2); (try clear f22_3); (try clear f22_4); (try clear f23_0); (try clear f23_1); (try clear f23_2); (try clear f23_3); (try clear f23_4); (try clear f24_0); (try clear f24_1); (try clear f24_2); (try clear f24_3); (try clear f24_4); (try clear f25_0); (try clear f25_1); (try clear f25_2); (try clear f25_3); (try clear f25_4); (try clear f31_0); (try clear f31_1); (try clear f31_2); (try clear f31_3); (try clear f31_4); (try clear f32_0); (try clear f32_1); (try clear f32_2); (try clear f32_3); (try clear f32_4); (try clear f33_0); (try clear f33_1); (try clear f33_2); (try clear f33_3); (try clear f33_4); (try clear f34_0); (try clear f34_1); (try clear f34_2); (try clear f34_3); (try clear f34_4); (try clear f39_0); (try clear f39_1); (try clear f39_2); (try clear f39_3); (try clear f39_4); (try clear f53_0); (try clear f53_1); (try clear f53_2); (try clear f53_3); (try clear f53_4); (try clear f6_0); (try clear f6_1); (try clear f6_2); (try clear f6_3); (try clear f6_4); (try clear f8_0); (try clear f8_1); (try clear f8_2); (try clear f8_3); (try clear f8_4); (try clear p2); obtain ⟨x9_2, x96_2, rfl, HA, HK2, HO_9, BK293, HB⟩ := hrel
    cases gk with
    | zero => exact absurd HA.out (by simp [frame_Bytes.l0])
    | succ k2 =>
     have H := HA.out
     clear HA
     simp only [frame_Bytes.l0] at H
     by_cases c54 : x96_2 < (l0_4.length : Int)
     ·rw [if_pos c54] at H
      have c54b0 := decide_eq_true c54; clear c54
      by_cases c55 : 0 ≤ x96_2
      rotate_left
      ·rw [if_neg c55] at H
       exact absurd H (by simp)
      rw [if_pos c55] at H; have c55b0 : decide (0 ≤ x96_2) = true := decide_eq_true c55; clear c55
      by_cases c56 : x96_2 < (l0_4.length : Int)
      rotate_left
      ·rw [if_neg c56] at H
       exact absurd H (by simp)
      rw [if_pos c56] at H; have c56b0 := decide_eq_true c56; clear c56; replace H := Option.bind_eq_some_iff.mp H
      obtain ⟨⟨t323, t326⟩, A570, H⟩ := H
      replace H : (if t326 = true then ((some (([((rd_T50 l0_4 x96_2).f0) % 256, ((t323.length : Int) / 256) % 256, ((t323.length : Int)) % 256] : List Int) : List Int)).bind fun y327 => (if x9_2.length + y327.length < 140737488355328 then ((some (x9_2 ++ y327 : List Int)).bind fun y330 => (if y330.length + t323.length < 140737488355328 then (frame_Bytes.l0 k2 (y330 ++ t323) l0_4 (l0_4.length : Int) (wrap64 (x96_2 + 1))) else (none))) else (none))) else (some (([] : List Int), 1))) = some (r1, r2) := H
      have A57 := Aside0.mk A570; clear A570
      by_cases c58 : t326 = true
      ·subst c58
       rw [if_pos rfl] at H
       obtain ⟨y327, hy327⟩ : ∃ y_ : List Int, y_ = (([((rd_T50 l0_4 x96_2).f0) % 256, ((t323.length : Int) / 256) % 256, ((t323.length : Int)) % 256] : List Int)) := ⟨_, rfl⟩
       replace H : (if x9_2.length + y327.length < 140737488355328 then ((some (x9_2 ++ y327 : List Int)).bind fun y330 => (if y330.length + t323.length < 140737488355328 then (frame_Bytes.l0 k2 (y330 ++ t323) l0_4 (l0_4.length : Int) (wrap64 (x96_2 + 1))) else (none))) else (none)) = some (r1, r2) := by first | (rw [hy327]; with_reducible exact H) | (have H2_ := (Option.bind_some _ _).symm.trans H; rw [hy327]; with_reducible exact H2_) | (have H2_ := (Option.bind_some _ _).symm.trans H; with_reducible exact H2_) | with_reducible exact H | (rw [hy327]; exact H) | exact H
       have Ny327 := Aside0.mk hy327; clear hy327
       by_cases c59 : x9_2.length + y327.length < 140737488355328
       rotate_left
       ·rw [if_neg c59] at H
        exact absurd H (by simp)
       rw [if_pos c59] at H; have LMc59 := Aside0.mk c59; clear c59
       obtain ⟨y330, hy330⟩ : ∃ y_ : List Int, y_ = (x9_2 ++ y327) := ⟨_, rfl⟩
       replace H : (if y330.length + t323.length < 140737488355328 then (frame_Bytes.l0 k2 (y330 ++ t323) l0_4 (l0_4.length : Int) (wrap64 (x96_2 + 1))) else (none)) = some (r1, r2) := by first | (rw [hy330]; with_reducible exact H) | (have H2_ := (Option.bind_some _ _).symm.trans H; rw [hy330]; with_reducible exact H2_) | (have H2_ := (Option.bind_some _ _).symm.trans H; with_reducible exact H2_) | with_reducible exact H | (rw [hy330]; exact H) | exact H
       have Ny330 := Aside0.mk hy330; clear hy330
       by_cases c60 : y330.length + t323.length < 140737488355328
       rotate_left
       ·rw [if_neg c60] at H
        exact absurd H (by simp)
       rw [if_pos c60] at H; have LMc60 := Aside0.mk c60; clear c60
       obtain ⟨y333, hy333⟩ : ∃ y_ : List Int, y_ = (y330 ++ t323) := ⟨_, rfl⟩
       replace H : (frame_Bytes.l0 k2 y333 l0_4 (l0_4.length : Int) (wrap64 (x96_2 + 1))) = some (r1, r2) := by first | (rw [hy333]; with_reducible exact H) | (have H2_ := (Option.bind_some _ _).symm.trans H; rw [hy333]; with_reducible exact H2_) | (have H2_ := (Option.bind_some _ _).symm.trans H; with_reducible exact H2_) | with_reducible exact H | (rw [hy333]; exact H) | exact H
       have Ny333 := Aside0.mk hy333; clear hy333
       have H' := Aside0.mk H
       clear H
       have p321 : 0 ≤ (x96_2 : Int) := of_decide_eq_true gA
       have q321 : x96_2 < (l0_4.length : Int) := of_decide_eq_true gA
       obtain ⟨ad321, A321_2, c321_2, A321_4, c321_4, A321_5, c321_5, e321, hx321_0, hx321_1, hx321_2, hx321_3, hx321_4, hx321_5, hx321_6, hx321_7, hx321_8, hx321_9, hx321_10, hl321_2, hi321_2, hl321_4, hi321_4, hl321_5, hi321_5⟩ := at_T50 HR0_4.out x96_2 p321 q321
       cases e321
       replace hx321_0 := bc HB hx321_0; replace hx321_1 := bc HB hx321_1; replace hx321_2 := bc HB hx321_2; replace hx321_3 := bc HB hx321_3; replace hx321_4 := bc HB hx321_4; replace hx321_5 := bc HB hx321_5; replace hx321_6 := bc HB hx321_6; replace hx321_7 := bc HB hx321_7; replace hx321_8 := bc HB hx321_8; replace hx321_9 := bc HB hx321_9; replace hx321_10 := bc HB hx321_10; have HR321_2 := Aside0.mk hi321_2; have HC321_2 := Aside0.mk hl321_2; clear hi321_2 hl321_2; have HR321_4 := Aside0.mk hi321_4; have HC321_4 := Aside0.mk hl321_4; clear hi321_4 hl321_4; have HR321_5 := Aside0.mk hi321_5; have HC321_5 := Aside0.mk hl321_5; clear hi321_5 hl321_5; replace p321 := eq_true p321; replace q321 := eq_true q321
       go_wp2_with (first | ((with_reducible refine gate_dst (N := 11) rfl ?_); (try (refine gate_guard (by rfl) ?_; dsimp only)); refine bx #[.int .i64 0, .int .i64 0, .slice none 0 0, .int .i64 0, .slice none 0 0, .slice none 0 0, .int .i64 0, .int .i64 0, .int .i64 0, .int .i64 0, .string (⟨#[]⟩ : ByteArray)] 50 ?_; intro gb322 hg w61 hbox hb; replace HO_9 := Aside0.mk (Kd.R_below (uR HO_9) hb); have BK322 := Aside0.mk hbox; have GW322 := ge HB hg; have GE322 := ge HB hg; replace HB := bs HB hb; have NB293_322 := nL BK293 hg; have NB322_293 := nG BK293 hg; replace BK293 := kb BK293 hb; clear hb hbox hg; have hnb62 := NB322_293.out; have hnc62 := NB293_322.out; obtain ⟨q63_0, q63_1, q63_2, q63_3, q63_4, q63_5, q63_6, q63_7, q63_8, q63_9, q63_10⟩ := cA11 BK322; obtain ⟨f63_0, f63_1, f63_2, f63_3, f63_4, f63_5, f63_6, f63_7, f63_8, f63_9, f63_10⟩ := fA11 BK322) | ((with_reducible refine gate_callee (f := 21) rfl ?_); refine gL (some 102) Try.func21 #[.agg #[.int .i64 ((rd_T50 l0_4 x96_2).f0), .int .i64 ((rd_T50 l0_4 x96_2).f1.f0), .slice A321_2 ((rd_T50 l0_4 x96_2).f1.f1).length c321_2, .int .i64 ((rd_T50 l0_4 x96_2).f2.f0), .slice A321_4 ((rd_T50 l0_4 x96_2).f2.f1).length c321_4, .slice A321_5 ((rd_T50 l0_4 x96_2).f3).length c321_5, .int .i64 ((rd_T50 l0_4 x96_2).f4.f0), .int .i64 ((rd_T50 l0_4 x96_2).f4.f1), .int .i64 ((rd_T50 l0_4 x96_2).f4.f2), .int .i64 ((rd_T50 l0_4 x96_2).f4.f3), .string ((rd_T50 l0_4 x96_2).f4.f4)]] ?_; (with_reducible refine (frame_bytes.calls k2 ((rd_T50 l0_4 x96_2).f0) ((rd_T50 l0_4 x96_2).f1.f0) _ _ ((rd_T50 l0_4 x96_2).f1.f1) ((rd_T50 l0_4 x96_2).f2.f0) _ _ ((rd_T50 l0_4 x96_2).f2.f1) _ _ ((rd_T50 l0_4 x96_2).f3) ((rd_T50 l0_4 x96_2).f4.f0) ((rd_T50 l0_4 x96_2).f4.f1) ((rd_T50 l0_4 x96_2).f4.f2) ((rd_T50 l0_4 x96_2).f4.f3) ((rd_T50 l0_4 x96_2).f4.f4) t323 true _ ?side1 ?side2 ?side3 ?side4 ?side5 ?side6 A57.out).mono ?_); (case side1 => exact Kd.C_below HR321_2.out (uB HB)); (case side2 => exact HC321_2.out); (case side3 => exact Kd.C_below HR321_4.out (uB HB)); (case side4 => exact HC321_4.out); (case side5 => exact Kd.C_below HR321_5.out (uB HB)); (case side6 => exact HC321_5.out); rintro e w64 ⟨v324, rfl, ho0, hb⟩; refine ⟨_, rfl, ?_⟩; have HO325 := Aside0.mk (Kd.R_lower (Kd.R_new' ho0 (Kd.R_lt (fR HO_9 BK322))) (below_size (uB HB))); replace HO_9 := Aside0.mk (Kd.R_elder' (fR HO_9 BK322) (Kd.R_base ho0) hb); replace BK293 := kc BK293 hb; replace BK322 := kc BK322 hb; replace HB := bs HB hb; (try clear hb); (try clear hb2); (try clear hk); (try clear hi); (try clear ho0); obtain ⟨q65_0, q65_1, q65_2, q65_3, q65_4, q65_5, q65_6, q65_7, q65_8, q65_9, q65_10⟩ := cA11 BK322; obtain ⟨f65_0, f65_1, f65_2, f65_3, f65_4, f65_5, f65_6, f65_7, f65_8, f65_9, f65_10⟩ := fA11 BK322; obtain ⟨Ao66, co66, eo66⟩ := Kd.R_slice HO325.out; subst eo66) | ((with_reducible refine gate_dst (N := 118) rfl ?_); (try (refine gate_guard (by rfl) ?_; dsimp only)); refine Kd.R_lit (Kd.int .u8) _ 5 ?hg (N := 118) ?hd (xs := ([((rd_T50 l0_4 x96_2).f0) % 256, ((t323.length : Int) / 256) % 256, ((t323.length : Int)) % 256] : List Int)) (inner := [.int .u8 (((rd_T50 l0_4 x96_2).f0) % 256), .int .u8 (((t323.length : Int) / 256) % 256), .int .u8 (((t323.length : Int)) % 256)]) (ok := fun _ => True) (okp := fun _ => True) ?hr ?hp (fun _ hk => hk) trivial (Below.refl _ _) (Nat.le_refl _) (by simp) ?_; (case hd => rfl); (case hg => rfl); (case hr => first | (go_simp; done) | (go_simp; rfl)); (case hp => exact (Reps.one (show Kd.M (Kd.int .u8) _ _ _ (((rd_T50 l0_4 x96_2).f0) % 256) [.int .u8 (((rd_T50 l0_4 x96_2).f0) % 256)] from rfl) (Reps.one (show Kd.M (Kd.int .u8) _ _ _ (((t323.length : Int) / 256) % 256) [.int .u8 (((t323.length : Int) / 256) % 256)] from rfl) (Reps.one (show Kd.M (Kd.int .u8) _ _ _ (((t323.length : Int)) % 256) [.int .u8 (((t323.length : Int)) % 256)] from rfl) (Reps.none _ _))))); intro v328 w67 ho68 hb hg_ hnew_; clear hg_ hnew_; (first | rw [← Ny327.out] at ho68 | (simp only [Int.reduceToNat] at ho68; rw [← Ny327.out] at ho68)); have HO329 := Aside0.mk (Kd.R_lower (Kd.R_new' (Kd.R_new' ho68 (Kd.R_lt (uR HO_9))) (Kd.R_lt (uR HO325))) (below_size (uB HB))); replace HO_9 := Aside0.mk (Kd.R_elder' (uR HO_9) (Kd.R_base ho68) hb); replace HO325 := Aside0.mk (Kd.R_elder' (uR HO325) (Kd.R_base ho68) hb); replace BK293 := kb BK293 hb; replace BK322 := kb BK322 hb; replace HB := bs HB hb; clear hb ho68; obtain ⟨Ao70, co70, eo70⟩ := Kd.R_slice HO329.out; subst eo70) | ((with_reducible refine gate_builtin (b := .append) (xs := #[.tmp 107, .tmp 118]) rfl ?_); (try (refine gate_guard (by rfl) ?_; dsimp only)); at_builtin; refine Kd.R_append_rows (Kd.int .u8) (w0 := w) w.heap.size rfl (.tmp 107) (.tmp 118) 26 5 (.int .u8 0) 1 rfl Try.underlying26 info5 rfl (by decide) (by omega) u9 x9_2 y327 _ _ _ (fun k_ => some k_ ≠ (.slice Ao66 t323.length co66 : Value).ownBlock ∧ some k_ ≠ (.slice Ao70 y327.length co70 : Value).ownBlock) (fun _ => False) rfl rfl ?aO ?aR (fun _ _ h => h) (fun _ h => h.elim) ?aF ?aB ?aS ?aL ?_; (case aR => exact rC (Kd.R_reads' HO329.out).2.2); (case aB => exact (uB HB)); (case aF => exact (fun k_ hk => ⟨Kd.fresh' (Kd.R_lt (uR HO325)) k_ hk, Kd.fresh' (Kd.R_lt (uR HO329)) k_ hk⟩)); (case aO => exact (mR HO_9)); (case aS => exact (below_size (uB HB))); (case aL => have := LMc59.out; omega); intro v331 w69 ho hb hg hat; rw [← Ny330.out] at ho; have n0_ := Aside0.mk (blk_grown (uK BK293) hg (Kd.R_ne HO_9.out BK293.out (by decide))); have n1_ := Aside0.mk (blk_grown (uK BK322) hg (Kd.R_ne HO_9.out BK322.out (by decide))); have n2_ := Aside0.mk (Kd.R_after (ok := (fun k_ => some k_ ≠ (.slice Ao70 y327.length co70 : Value).ownBlock)) (mR HO325) hg hat); have n3_ := Aside0.mk (Kd.R_after (ok := (fun k_ => some k_ ≠ (.slice Ao66 t323.length co66 : Value).ownBlock)) (mR HO329) hg hat); have n4_ := Aside0.mk (hb); have n5_ := Aside0.mk (ho); clear BK293; clear BK322; clear HO325; clear HO329; clear HB; clear HO_9; have BK293 := n0_; have BK322 := n1_; have HO325 := n2_; have HO329 := n3_; have HB := n4_; have HO332 := n5_; clear n0_ n1_ n2_ n3_ n4_ n5_; clear ho hb hg hat) | ((with_reducible refine gate_builtin (b := .append) (xs := #[.tmp 119, .tmp 120]) rfl ?_); (try (refine gate_guard (by rfl) ?_; dsimp only)); at_builtin; refine Kd.R_append_rows (Kd.int .u8) (w0 := w) w.heap.size rfl (.tmp 119) (.tmp 120) 26 5 (.int .u8 0) 1 rfl Try.underlying26 info5 rfl (by decide) (by omega) v331 y330 t323 _ _ _ (fun k_ => some k_ ≠ (.slice Ao66 t323.length co66 : Value).ownBlock ∧ some k_ ≠ (.slice Ao70 y327.length co70 : Value).ownBlock) (fun _ => False) rfl rfl ?aO ?aR (fun _ _ h => h) (fun _ h => h.elim) ?aF ?aB ?aS ?aL ?_; (case aR => exact rC (Kd.R_reads' HO325.out).2.2); (case aB => exact (uB HB)); (case aF => exact (fun k_ hk => ⟨Kd.fresh' (Kd.R_lt (uR HO325)) k_ hk, Kd.fresh' (Kd.R_lt (uR HO329)) k_ hk⟩)); (case aO => exact (uR HO332)); (case aS => exact (below_size (uB HB))); (case aL => have := LMc60.out; omega); intro v334 w71 ho hb hg hat; rw [← Ny333.out] at ho; have n0_ := Aside0.mk (blk_grown (uK BK293) hg (Kd.R_ne HO332.out BK293.out (by decide))); have n1_ := Aside0.mk (blk_grown (uK BK322) hg (Kd.R_ne HO332.out BK322.out (by decide))); have n2_ := Aside0.mk (Kd.R_after (ok := (fun k_ => some k_ ≠ (.slice Ao70 y327.length co70 : Value).ownBlock)) (uR HO325) hg hat); have n3_ := Aside0.mk (Kd.R_after (ok := (fun k_ => some k_ ≠ (.slice Ao66 t323.length co66 : Value).ownBlock)) (uR HO329) hg hat); have n4_ := Aside0.mk (hb); have n5_ := Aside0.mk (ho); clear BK293; clear BK322; clear HO325; clear HO329; clear HB; clear HO332; have BK293 := n0_; have BK322 := n1_; have HO325 := n2_; have HO329 := n3_; have HB := n4_; have HO335 := n5_; clear n0_ n1_ n2_ n3_ n4_ n5_; clear ho hb hg hat))
       go_roundg k2
       case measure => have := HJ3.out; have := HK2.out; omega
       case rel => exact ⟨(y333), (wrap64 (x96_2 + 1)), gv, H', ⟨by have := HJ3.out; have := HK2.out; omega⟩, ⟨by refine rR ?_; exact Kd.R_mono HO335.out (fun _ hk => trivial)⟩, ⟨uK BK293⟩, ⟨uB HB⟩⟩
      replace c58 := Bool.eq_false_iff.mpr c58
      subst c58
      rw [if_neg (show ¬ (false = true) by decide)] at H
      simp only [Option.some.injEq, Prod.mk.injEq] at H
      obtain ⟨rfl, rfl⟩ := H
      have p321 : 0 ≤ (x96_2 : Int) := of_decide_eq_true gA
      have q321 : x96_2 < (l0_4.length : Int) := of_decide_eq_true gA
      obtain ⟨ad321, A321_2, c321_2, A321_4, c321_4, A321_5, c321_5, e321, hx321_0, hx321_1, hx321_2, hx321_3, hx321_4, hx321_5, hx321_6, hx321_7, hx321_8, hx321_9, hx321_10, hl321_2, hi321_2, hl321_4, hi321_4, hl321_5, hi321_5⟩ := at_T50 HR0_4.out x96_2 p321 q321
      cases e321
      replace hx321_0 := bc HB hx321_0; replace hx321_1 := bc HB hx321_1; replace hx321_2 := bc HB hx321_2; replace hx321_3 := bc HB hx321_3; replace hx321_4 := bc HB hx321_4; replace hx321_5 := bc HB hx321_5; replace hx321_6 := bc HB hx321_6; replace hx321_7 := bc HB hx321_7; replace hx321_8 := bc HB hx321_8; replace hx321_9 := bc HB hx321_9; replace hx321_10 := bc HB hx321_10; have HR321_2 := Aside0.mk hi321_2; have HC321_2 := Aside0.mk hl321_2; clear hi321_2 hl321_2; have HR321_4 := Aside0.mk hi321_4; have HC321_4 := Aside0.mk hl321_4; clear hi321_4 hl321_4; have HR321_5 := Aside0.mk hi321_5; have HC321_5 := Aside0.mk hl321_5; clear hi321_5 hl321_5; replace p321 := eq_true p321; replace q321 := eq_true q321
      go_wp2_with (first | ((with_reducible refine gate_dst (N := 11) rfl ?_); (try (refine gate_guard (by rfl) ?_; dsimp only)); refine bx #[.int .i64 0, .int .i64 0, .slice none 0 0, .int .i64 0, .slice none 0 0, .slice none 0 0, .int .i64 0, .int .i64 0, .int .i64 0, .int .i64 0, .string (⟨#[]⟩ : ByteArray)] 50 ?_; intro gb322 hg w72 hbox hb; replace HO_9 := Aside0.mk (Kd.R_below (uR HO_9) hb); have BK322 := Aside0.mk hbox; have GW322 := ge HB hg; have GE322 := ge HB hg; replace HB := bs HB hb; have NB293_322 := nL BK293 hg; have NB322_293 := nG BK293 hg; replace BK293 := kb BK293 hb; clear hb hbox hg; have hnb73 := NB322_293.out; have hnc73 := NB293_322.out; obtain ⟨q74_0, q74_1, q74_2, q74_3, q74_4, q74_5, q74_6, q74_7, q74_8, q74_9, q74_10⟩ := cA11 BK322; obtain ⟨f74_0, f74_1, f74_2, f74_3, f74_4, f74_5, f74_6, f74_7, f74_8, f74_9, f74_10⟩ := fA11 BK322) | ((with_reducible refine gate_callee (f := 21) rfl ?_); refine gL (some 102) Try.func21 #[.agg #[.int .i64 ((rd_T50 l0_4 x96_2).f0), .int .i64 ((rd_T50 l0_4 x96_2).f1.f0), .slice A321_2 ((rd_T50 l0_4 x96_2).f1.f1).length c321_2, .int .i64 ((rd_T50 l0_4 x96_2).f2.f0), .slice A321_4 ((rd_T50 l0_4 x96_2).f2.f1).length c321_4, .slice A321_5 ((rd_T50 l0_4 x96_2).f3).length c321_5, .int .i64 ((rd_T50 l0_4 x96_2).f4.f0), .int .i64 ((rd_T50 l0_4 x96_2).f4.f1), .int .i64 ((rd_T50 l0_4 x96_2).f4.f2), .int .i64 ((rd_T50 l0_4 x96_2).f4.f3), .string ((rd_T50 l0_4 x96_2).f4.f4)]] ?_; (with_reducible refine (frame_bytes.calls k2 ((rd_T50 l0_4 x96_2).f0) ((rd_T50 l0_4 x96_2).f1.f0) _ _ ((rd_T50 l0_4 x96_2).f1.f1) ((rd_T50 l0_4 x96_2).f2.f0) _ _ ((rd_T50 l0_4 x96_2).f2.f1) _ _ ((rd_T50 l0_4 x96_2).f3) ((rd_T50 l0_4 x96_2).f4.f0) ((rd_T50 l0_4 x96_2).f4.f1) ((rd_T50 l0_4 x96_2).f4.f2) ((rd_T50 l0_4 x96_2).f4.f3) ((rd_T50 l0_4 x96_2).f4.f4) t323 false _ ?side1 ?side2 ?side3 ?side4 ?side5 ?side6 A57.out).mono ?_); (case side1 => exact Kd.C_below HR321_2.out (uB HB)); (case side2 => exact HC321_2.out); (case side3 => exact Kd.C_below HR321_4.out (uB HB)); (case side4 => exact HC321_4.out); (case side5 => exact Kd.C_below HR321_5.out (uB HB)); (case side6 => exact HC321_5.out); rintro e w75 ⟨v324, rfl, ho0, hb⟩; refine ⟨_, rfl, ?_⟩; have HO325 := Aside0.mk (Kd.R_lower (Kd.R_new' ho0 (Kd.R_lt (fR HO_9 BK322))) (below_size (uB HB))); replace HO_9 := Aside0.mk (Kd.R_elder' (fR HO_9 BK322) (Kd.R_base ho0) hb); replace BK293 := kc BK293 hb; replace BK322 := kc BK322 hb; replace HB := bs HB hb; (try clear hb); (try clear hb2); (try clear hk); (try clear hi); (try clear ho0)))
      go_ret2
      exact ⟨_, gE, gO, uB HB⟩
     rw [if_neg c54] at H
     have c54b0 : decide (x96_2 < (l0_4.length : Int)) = false := decide_eq_false c54
     clear c54
     by_cases c76 : (wrap64 ((x9_2.length : Int) + 2)) > 1400
     ·rw [if_pos c76] at H
      have c76b0 : decide (1400 < (wrap64 ((x9_2.length : Int) + 2))) = true := decide_eq_true c76
      clear c76
      simp only [Option.some.injEq, Prod.mk.injEq] at H
      obtain ⟨rfl, rfl⟩ := H; obtain ⟨Ao77, co77, eo77⟩ := Kd.R_slice HO_9.out
      subst eo77
      go_wp2
      go_ret2
      exact ⟨_, gE, gO, uB HB⟩
     rw [if_neg c76] at H
     have c76b0 : decide (1400 < (wrap64 ((x9_2.length : Int) + 2))) = false := decide_eq_false c76
     clear c76
     by_cases c78 : 12 < (x9_2.length : Int)
     rotate_left
     ·rw [if_neg c78] at H
      exact absurd H (by simp)
     rw [if_pos c78] at H; have c78b0 := decide_eq_true c78
     have c78b1 : decide (12 < x9_2.length) = true := decide_eq_true (by omega)
     clear c78
     obtain ⟨y336, hy336⟩ : ∃ y_ : List Int, y_ = (x9_2.set (12 : Int).toNat (((wrap64 ((x9_2.length : Int) + 2)) / 256) % 256)) := ⟨_, rfl⟩
     replace H : (if 13 < (x9_2.length : Int) then ((some (y336.set (13 : Int).toNat ((wrap64 ((x9_2.length : Int) + 2)) % 256) : List Int)).bind fun y337 => ((wire_Sum.f k2 y337).bind fun t338 => ((some (([(t338 / 256) % 256, (t338) % 256] : List Int) : List Int)).bind fun y339 => (if y337.length + y339.length < 140737488355328 then (some ((y337 ++ y339), 0)) else (none))))) else (none)) = some (r1, r2) := by first | (rw [hy336]; with_reducible exact H) | (have H2_ := (Option.bind_some _ _).symm.trans H; rw [hy336]; with_reducible exact H2_) | (have H2_ := (Option.bind_some _ _).symm.trans H; with_reducible exact H2_) | with_reducible exact H | (rw [hy336]; exact H) | exact H
     have Ny336 := Aside0.mk hy336; clear hy336
     by_cases c80 : 13 < (x9_2.length : Int)
     rotate_left
     ·rw [if_neg c80] at H
      exact absurd H (by simp)
     rw [if_pos c80] at H; have c80b0 := decide_eq_true c80
     have c80b1 : decide (13 < x9_2.length) = true := decide_eq_true (by omega)
     clear c80
     obtain ⟨y337, hy337⟩ : ∃ y_ : List Int, y_ = (y336.set (13 : Int).toNat ((wrap64 ((x9_2.length : Int) + 2)) % 256)) := ⟨_, rfl⟩
     replace H : ((wire_Sum.f k2 y337).bind fun t338 => ((some (([(t338 / 256) % 256, (t338) % 256] : List Int) : List Int)).bind fun y339 => (if y337.length + y339.length < 140737488355328 then (some ((y337 ++ y339), 0)) else (none)))) = some (r1, r2) := by first | (rw [hy337]; with_reducible exact H) | (have H2_ := (Option.bind_some _ _).symm.trans H; rw [hy337]; with_reducible exact H2_) | (have H2_ := (Option.bind_some _ _).symm.trans H; with_reducible exact H2_) | with_reducible exact H | (rw [hy337]; exact H) | exact H
     have Ny337 := Aside0.mk hy337; clear hy337; replace H := Option.bind_eq_some_iff.mp H; obtain ⟨t338, A820, H⟩ := H
     replace H : ((some (([(t338 / 256) % 256, (t338) % 256] : List Int) : List Int)).bind fun y339 => (if y337.length + y339.length < 140737488355328 then (some ((y337 ++ y339), 0)) else (none))) = some (r1, r2) := H
     have A82 := Aside0.mk A820; clear A820
     obtain ⟨y339, hy339⟩ : ∃ y_ : List Int, y_ = (([(t338 / 256) % 256, (t338) % 256] : List Int)) := ⟨_, rfl⟩
     replace H : (if y337.length + y339.length < 140737488355328 then (some ((y337 ++ y339), 0)) else (none)) = some (r1, r2) := by first | (rw [hy339]; with_reducible exact H) | (have H2_ := (Option.bind_some _ _).symm.trans H; rw [hy339]; with_reducible exact H2_) | (have H2_ := (Option.bind_some _ _).symm.trans H; with_reducible exact H2_) | with_reducible exact H | (rw [hy339]; exact H) | exact H
     have Ny339 := Aside0.mk hy339; clear hy339
     by_cases c83 : y337.length + y339.length < 140737488355328
     rotate_left
     ·rw [if_neg c83] at H
      exact absurd H (by simp)
     rw [if_pos c83] at H; have LMc83 := Aside0.mk c83; clear c83
     obtain ⟨y342, hy342⟩ : ∃ y_ : List Int, y_ = (y337 ++ y339) := ⟨_, rfl⟩
     replace H : (some (y342, 0)) = some (r1, r2) := by first | (rw [hy342]; with_reducible exact H) | (have H2_ := (Option.bind_some _ _).symm.trans H; rw [hy342]; with_reducible exact H2_) | (have H2_ := (Option.bind_some _ _).symm.trans H; with_reducible exact H2_) | with_reducible exact H | (rw [hy342]; exact H) | exact H
     have Ny342 := Aside0.mk hy342; clear hy342
     simp only [Option.some.injEq, Prod.mk.injEq] at H
     obtain ⟨rfl, rfl⟩ := H; obtain ⟨Ao84, co84, eo84⟩ := Kd.R_slice HO_9.out
     subst eo84
     have p79 : 0 ≤ (12 : Int) := (by omega)
     have q79 : (12 : Int) < ((x9_2.length : Int) : Int) := of_decide_eq_true gA
     have qi79 : (12 < x9_2.length) = True := eq_true (by omega)
     obtain ⟨go79, co79, eo79, gb79, gl79, cl79, HG79⟩ := Kd.R_form HO_9.out (by omega)
     (first | cases eo79 | (injection eo79 with ea_ en_ ec_; (first | subst ea_ | (injection ea_ with ea_; subst ea_)); subst ec_; clear en_))
     have GB79 := Aside0.mk gb79; have GG79 := Aside0.mk HG79; clear gb79 gl79 HG79; obtain ⟨hx79_0, hf79_0⟩ := Kd.R_celln 0 HO_9.out (12 : Int) p79 q79
     (try rw [show ((12 : Int)).toNat = 12 from rfl] at hx79_0)
     (try simp only [Nat.reduceMul, Nat.zero_mul, Nat.zero_add, Nat.reduceAdd] at hx79_0)
     (try rw [show ((12 : Int)).toNat = 12 from rfl] at hf79_0)
     (try simp only [Nat.reduceMul, Nat.zero_mul, Nat.zero_add, Nat.reduceAdd] at hf79_0)
     replace p79 := eq_true p79; replace q79 := eq_true q79; have HP85 := Kd.R_putg HO_9.out (12 : Int) (((wrap64 ((x9_2.length : Int) + 2)) / 256) % 256)
     go_wp2_with (first | ((with_reducible refine gate_store (t := 5) (p := 135) rfl ?_); refine store_event (t := 5) (p := 135) (v := ?vo_w86) (w1 := (wr.setCell ⟨go79, (12 : Int).toNat, none⟩ (.int .u8 (((wrap64 ((x9_2.length : Int) + 2)) / 256) % 256)))) ?hg ?ho ?hn ?hr ?_; (case ho => rfl); (case hg => rfl); (case hn => rfl); (case hr => first | (go_simp; done) | (go_simp; rfl)); intro w86 hw; have hg : wr.grownBy w86 (some go79) := (by rw [hw]; exact HP85.2); have hp_ : Kd.R (Kd.int .u8) 5 w86 w.heap.size (fun _ => True) (.slice (some ⟨go79, 0, none⟩) x9_2.length co84) y336 := (by rw [hw, Ny336.out]; exact HP85.1); clear HP85; replace BK293 := Aside0.mk (blk_grown (uK BK293) hg (Kd.R_ne HO_9.out BK293.out (by decide))); replace HO_9 := Aside0.mk hp_; replace HB := Aside0.mk ((by rw [hw]; exact below_set (HB.out) GB79.out : Below w.heap.size w w86)); clear hg hw hp_; have p81 : 0 ≤ (13 : Int) := (by omega); have q81 : (13 : Int) < ((x9_2.length : Int) : Int) := of_decide_eq_true gA; have qi81 : (13 < x9_2.length) = True := eq_true (by omega); obtain ⟨hx81_0, hf81_0⟩ := Kd.R_celln 0 HO_9.out (13 : Int) p81 q81; (try rw [show ((13 : Int)).toNat = 13 from rfl] at hx81_0); (try simp only [Nat.reduceMul, Nat.zero_mul, Nat.zero_add, Nat.reduceAdd] at hx81_0); (try rw [show ((13 : Int)).toNat = 13 from rfl] at hf81_0); (try simp only [Nat.reduceMul, Nat.zero_mul, Nat.zero_add, Nat.reduceAdd] at hf81_0); replace p81 := eq_true p81; replace q81 := eq_true q81; obtain ⟨hy87_, hz87_⟩ := Kd.R_celln 0 HO_9.out (13 : Int) (by omega) (of_decide_eq_true gA); (try simp only [Int.reduceToNat, Int.toNat_zero, Int.toNat_ofNat, Nat.reduceMul, Nat.zero_mul, Nat.zero_add] at hy87_ hz87_); (try rw [show ((13 : Int)).toNat = 13 from rfl] at hy87_); (try rw [show ((13 : Int)).toNat = 13 from rfl] at hz87_); have HP87 := Kd.R_putg HO_9.out (13 : Int) ((wrap64 ((x9_2.length : Int) + 2)) % 256)) | ((with_reducible refine gate_store (t := 5) (p := 136) rfl ?_); refine store_event (t := 5) (p := 136) (v := ?vo_w88) (w1 := (w86.setCell ⟨go79, (13 : Int).toNat, none⟩ (.int .u8 ((wrap64 ((x9_2.length : Int) + 2)) % 256)))) ?hg ?ho ?hn ?hr ?_; (case ho => rfl); (case hg => rfl); (case hn => rfl); (case hr => first | (go_simp; done) | (go_simp; rfl)); intro w88 hw; have hg : w86.grownBy w88 (some go79) := (by rw [hw]; exact HP87.2); have hp_ : Kd.R (Kd.int .u8) 5 w88 w.heap.size (fun _ => True) (.slice (some ⟨go79, 0, none⟩) x9_2.length co84) y337 := (by rw [hw, Ny337.out]; exact HP87.1); clear HP87; replace BK293 := Aside0.mk (blk_grown (uK BK293) hg (Kd.R_ne HO_9.out BK293.out (by decide))); replace HO_9 := Aside0.mk hp_; replace HB := Aside0.mk ((by rw [hw]; exact below_set (HB.out) GB79.out : Below w.heap.size w w88)); clear hg hw hp_) | ((with_reducible refine gate_callee (f := 22) rfl ?_); refine goesL_ (some 138) rfl rfl Try.func22 (by kernel_rfl) rfl #[.slice (some ⟨go79, 0, none⟩) y337.length co84] rfl (by (try simp only [List.map_toArray, List.map_cons, List.map_nil]); first | done | (rw [show y337.length = x9_2.length from (Kd.R_reads' HO_9.out).1.symm] <;> rfl) | rfl | (simp only [List.length_drop, List.length_take]; rfl)) ?_; (with_reducible refine (wire_Sum.calls k2 _ _ y337 t338 _ ?side1 ?side2 A82.out).mono ?_); (case side1 => exact rC (Kd.R_reads' HO_9.out).2.2); (case side2 => rw [show y337.length = x9_2.length from (Kd.R_reads' HO_9.out).1.symm]; exact (Kd.R_reads' HO_9.out).2.1); rintro e w' ⟨rfl, ⟨nd, rfl⟩⟩; refine ⟨_, rfl, ?_⟩) | ((with_reducible refine gate_dst (N := 145) rfl ?_); (try (refine gate_guard (by rfl) ?_; dsimp only)); refine Kd.R_lit (Kd.int .u8) _ 5 ?hg (N := 145) ?hd (xs := ([(t338 / 256) % 256, (t338) % 256] : List Int)) (inner := [.int .u8 ((t338 / 256) % 256), .int .u8 ((t338) % 256)]) (ok := fun _ => True) (okp := fun _ => True) ?hr ?hp (fun _ hk => hk) trivial (Below.refl _ _) (Nat.le_refl _) (by simp) ?_; (case hd => rfl); (case hg => rfl); (case hr => first | (go_simp; done) | (go_simp; rfl)); (case hp => exact (Reps.one (show Kd.M (Kd.int .u8) _ _ _ ((t338 / 256) % 256) [.int .u8 ((t338 / 256) % 256)] from rfl) (Reps.one (show Kd.M (Kd.int .u8) _ _ _ ((t338) % 256) [.int .u8 ((t338) % 256)] from rfl) (Reps.none _ _)))); intro v340 w89 ho90 hb hg_ hnew_; clear hg_ hnew_; (first | rw [← Ny339.out] at ho90 | (simp only [Int.reduceToNat] at ho90; rw [← Ny339.out] at ho90)); have HO341 := Aside0.mk (Kd.R_lower (Kd.R_new' ho90 (Kd.R_lt (uR HO_9))) (below_size (uB HB))); replace HO_9 := Aside0.mk (Kd.R_elder' (uR HO_9) (Kd.R_base ho90) hb); replace BK293 := kb BK293 hb; replace HB := bs HB hb; clear hb ho90; obtain ⟨Ao92, co92, eo92⟩ := Kd.R_slice HO341.out; subst eo92) | ((with_reducible refine gate_builtin (b := .append) (xs := #[.tmp 139, .tmp 145]) rfl ?_); (try (refine gate_guard (by rfl) ?_; dsimp only)); at_builtin; refine Kd.R_append_rows (Kd.int .u8) (w0 := w) w.heap.size rfl (.tmp 139) (.tmp 145) 26 5 (.int .u8 0) 1 rfl Try.underlying26 info5 rfl (by decide) (by omega) (.slice (some ⟨go79, 0, none⟩) x9_2.length co84) y337 y339 _ _ _ (fun k_ => some k_ ≠ (.slice Ao92 y339.length co92 : Value).ownBlock) (fun _ => False) rfl rfl ?aO ?aR (fun _ _ h => h) (fun _ h => h.elim) ?aF ?aB ?aS ?aL ?_; (case aR => exact rC (Kd.R_reads' HO341.out).2.2); (case aB => exact (uB HB)); (case aF => exact (fun k_ hk => Kd.fresh' (Kd.R_lt (uR HO341)) k_ hk)); (case aO => exact (mR HO_9)); (case aS => exact (below_size (uB HB))); (case aL => have := LMc83.out; omega); intro v343 w91 ho hb hg hat; rw [← Ny342.out] at ho; have n0_ := Aside0.mk (blk_grown (uK BK293) hg (Kd.R_ne HO_9.out BK293.out (by decide))); have n1_ := Aside0.mk (Kd.R_after (ok := (fun _ => True)) (uR HO341) hg hat); have n2_ := Aside0.mk (hb); have n3_ := Aside0.mk (ho); clear BK293; clear HO341; clear HB; clear HO_9; have BK293 := n0_; have HO341 := n1_; have HB := n2_; have HO344 := n3_; clear n0_ n1_ n2_ n3_; clear ho hb hg hat))
     go_ret2
     exact ⟨_, gE, by refine rR ?_; exact Kd.R_mono HO344.out (fun _ hk => trivial), uB HB⟩
def frame_Check.f (k : Nat) (a0_0 : Int) (a0_1 : Int) (a0_2 : Int) (a0_3 : Int) (l0_4 : List (S50)) : Option (Int) := (frame_Bytes.f k a0_0 a0_1 a0_2 a0_3 l0_4).bind fun bt346 => (some bt346.2)
theorem frame_Check.mono : ∀ a0 a1 a2 a3 a4 k, LeO (frame_Check.f k a0 a1 a2 a3 a4) (frame_Check.f (k + 1) a0 a1 a2 a3 a4) := by
 intro a0 a1 a2 a3 a4 k
 unfold frame_Check.f
 repeat' first
   | (with_reducible exact frame_Bytes.mono _ _ _ _ _ _)
   | (with_reducible exact LeO.refl _)
   | (with_reducible exact LeO.none _)
   | (with_reducible refine LeO.ite ?_ ?_)
   | (with_reducible refine LeO.bind ?_ (fun _ => ?_))
   | exact frame_Bytes.mono _ _ _ _ _ _
   | exact LeO.none _
   | refine LeO.ite ?_ ?_
   | refine LeO.bind ?_ (fun _ => ?_)
theorem frame_Check.calls (k : Nat) (a0_0 : Int) (a0_1 : Int) (a0_2 : Int) (a0_3 : Int) (A0_4 : Option Addr) (c0_4 : Nat) (l0_4 : List (S50)) (r : Int) (w : World) (hr0_4 : Kd.C k50 w A0_4 l0_4.length l0_4) (hc0_4 : l0_4.length ≤ c0_4) (h : frame_Check.f k a0_0 a0_1 a0_2 a0_3 l0_4 = some r) :
  Calls Try.prog 12 #[.agg #[.int .i64 a0_0, .int .i64 a0_1, .int .i64 a0_2, .int .i64 a0_3, .slice A0_4 l0_4.length c0_4]] w fun e w' => e = .returned (.int .i64 r) ∧ Below w.heap.size w w' := by
 have hu24 := Try.underlying24; have HR0_4 := Aside0.mk hr0_4; have HC0_4 := Aside0.mk hc0_4; clear hr0_4 hc0_4; have HB := Aside0.mk (Below.refl w.heap.size w)
 have H : ((frame_Bytes.f k a0_0 a0_1 a0_2 a0_3 l0_4).bind fun bt346 => (some bt346.2)) = some r := h
 clear h; replace H := Option.bind_eq_some_iff.mp H
 obtain ⟨⟨t346, t349⟩, A20, H⟩ := H
 replace H : (some t349) = some r := H
 have A2 := Aside0.mk A20; clear A20
 obtain rfl := Option.some.inj H
 go_enter Try.func12, Try.ntmps12
 go_wp2_with (first | ((with_reducible refine gate_dst (N := 1) rfl ?_); refine bx #[.int .i64 a0_0, .int .i64 a0_1, .int .i64 a0_2, .int .i64 a0_3, .slice A0_4 l0_4.length c0_4] 24 ?_; intro gb345 hg w3 hbox hb; have BK345 := Aside0.mk hbox; have GW345 := ge HB hg; have GE345 := ge HB hg; replace HB := bs HB hb; clear hb hbox hg; obtain ⟨q4_0, q4_1, q4_2, q4_3, q4_4⟩ := cA5 BK345; obtain ⟨f4_0, f4_1, f4_2, f4_3, f4_4⟩ := fA5 BK345) | ((with_reducible refine gate_callee (f := 9) rfl ?_); refine gL (some 7) Try.func9 #[.agg #[.int .i64 a0_0, .int .i64 a0_1, .int .i64 a0_2, .int .i64 a0_3, .slice A0_4 l0_4.length c0_4]] ?_; (with_reducible refine (frame_Bytes.calls k a0_0 a0_1 a0_2 a0_3 _ _ l0_4 t346 t349 _ ?side1 ?side2 A2.out).mono ?_); (case side1 => repeat (first | exact (Kd.C_below HR0_4.out HB.out) | (with_reducible refine Kd.C_alloc ?_ _) | (with_reducible refine Kd.C_drewN ?_ _) | (with_reducible refine Kd.C_drew ?_))); (case side2 => exact HC0_4.out); rintro e w5 ⟨v347, rfl, ho0, hb⟩; refine ⟨_, rfl, ?_⟩; have HO348 := Aside0.mk (Kd.R_lower ho0 (below_size (uB HB))); replace BK345 := kb BK345 hb; replace HB := bs HB hb; (try clear hb); (try clear hb2); (try clear hk); (try clear hi); (try clear ho0)))
 go_ret
 exact ⟨gE, uB HB⟩
def frame_For.f (k : Nat) (a0_0 : Int) (a0_1 : Int) (a0_2 : Int) (a0_3 : Int) (l0_4 : List (S50)) (a1 : Int) : Option (Bool) := (frame_Check.f k a0_0 a0_1 a0_2 a0_3 l0_4).bind fun t351 => (if t351 = 0 then (if a0_0 = a1 then (some false) else (if a0_2 = a1 then (some true) else (some (a0_2 == 255)))) else (some false))
theorem frame_For.mono : ∀ a0 a1 a2 a3 a4 a5 k, LeO (frame_For.f k a0 a1 a2 a3 a4 a5) (frame_For.f (k + 1) a0 a1 a2 a3 a4 a5) := by
 intro a0 a1 a2 a3 a4 a5 k
 unfold frame_For.f
 repeat' first
   | (with_reducible exact frame_Check.mono _ _ _ _ _ _)
   | (with_reducible exact LeO.refl _)
   | (with_reducible exact LeO.none _)
   | (with_reducible refine LeO.ite ?_ ?_)
   | (with_reducible refine LeO.bind ?_ (fun _ => ?_))
   | exact frame_Check.mono _ _ _ _ _ _
   | exact LeO.none _
   | refine LeO.ite ?_ ?_
   | refine LeO.bind ?_ (fun _ => ?_)
theorem frame_For.calls (k : Nat) (a0_0 : Int) (a0_1 : Int) (a0_2 : Int) (a0_3 : Int) (A0_4 : Option Addr) (c0_4 : Nat) (l0_4 : List (S50)) (a1 : Int) (r : Bool) (w : World) (hr0_4 : Kd.C k50 w A0_4 l0_4.length l0_4) (hc0_4 : l0_4.length ≤ c0_4) (h : frame_For.f k a0_0 a0_1 a0_2 a0_3 l0_4 a1 = some r) :
  Calls Try.prog 14 #[.agg #[.int .i64 a0_0, .int .i64 a0_1, .int .i64 a0_2, .int .i64 a0_3, .slice A0_4 l0_4.length c0_4], .int .i64 a1] w fun e w' => e = .returned (.bool r) ∧ Below w.heap.size w w' := by
 have hu24 := Try.underlying24; have HR0_4 := Aside0.mk hr0_4; have HC0_4 := Aside0.mk hc0_4; clear hr0_4 hc0_4; have HB := Aside0.mk (Below.refl w.heap.size w)
 have H : ((frame_Check.f k a0_0 a0_1 a0_2 a0_3 l0_4).bind fun t351 => (if t351 = 0 then (if a0_0 = a1 then (some false) else (if a0_2 = a1 then (some true) else (some (a0_2 == 255)))) else (some false))) = some r := h
 clear h; replace H := Option.bind_eq_some_iff.mp H; obtain ⟨t351, A30, H⟩ := H
 replace H : (if t351 = 0 then (if a0_0 = a1 then (some false) else (if a0_2 = a1 then (some true) else (some (a0_2 == 255)))) else (some false)) = some r := H
 have A3 := Aside0.mk A30; clear A30
 by_cases c4 : t351 = 0
 ·rw [if_pos c4] at H
  have c4b0 : (t351 == 0) = true := beq_iff_eq.mpr c4
  have c4b1 : (t351 != 0) = false := bne_eq_false_iff_eq.mpr c4
  clear c4
  by_cases c5 : a0_0 = a1
  ·rw [if_pos c5] at H
   have c5b0 : (a0_0 == a1) = true := beq_iff_eq.mpr c5
   have c5b1 : (a0_0 != a1) = false := bne_eq_false_iff_eq.mpr c5
   clear c5
   obtain rfl := Option.some.inj H
   go_enter Try.func14, Try.ntmps14
   go_wp2_with (first | ((with_reducible refine gate_dst (N := 2) rfl ?_); refine bx #[.int .i64 a0_0, .int .i64 a0_1, .int .i64 a0_2, .int .i64 a0_3, .slice A0_4 l0_4.length c0_4] 24 ?_; intro gb350 hg w6 hbox hb; have BK350 := Aside0.mk hbox; have GW350 := ge HB hg; have GE350 := ge HB hg; replace HB := bs HB hb; clear hb hbox hg; obtain ⟨q7_0, q7_1, q7_2, q7_3, q7_4⟩ := cA5 BK350; obtain ⟨f7_0, f7_1, f7_2, f7_3, f7_4⟩ := fA5 BK350) | ((with_reducible refine gate_callee (f := 12) rfl ?_); refine gL (some 6) Try.func12 #[.agg #[.int .i64 a0_0, .int .i64 a0_1, .int .i64 a0_2, .int .i64 a0_3, .slice A0_4 l0_4.length c0_4]] ?_; (with_reducible refine (frame_Check.calls k a0_0 a0_1 a0_2 a0_3 _ _ l0_4 t351 _ ?side1 ?side2 A3.out).mono ?_); (case side1 => repeat (first | exact (Kd.C_below HR0_4.out HB.out) | (with_reducible refine Kd.C_alloc ?_ _) | (with_reducible refine Kd.C_drewN ?_ _) | (with_reducible refine Kd.C_drew ?_))); (case side2 => exact HC0_4.out); rintro e w8 ⟨rfl, hb⟩; refine ⟨_, rfl, ?_⟩; replace BK350 := kb BK350 hb; replace HB := bs HB hb; (try clear hb); (try clear hb2); (try clear hk); (try clear hi); obtain ⟨q9_0, q9_1, q9_2, q9_3, q9_4⟩ := cA5 BK350; obtain ⟨f9_0, f9_1, f9_2, f9_3, f9_4⟩ := fA5 BK350))
   go_ret
   exact ⟨gE, uB HB⟩
  rw [if_neg c5] at H
  have c5b0 : (a0_0 == a1) = false := beq_eq_false_iff_ne.mpr c5
  have c5b1 : (a0_0 != a1) = true := bne_iff_ne.mpr c5
  by_cases c10 : a0_2 = a1
  ·rw [if_pos c10] at H
   have c10b0 : (a0_2 == a1) = true := beq_iff_eq.mpr c10
   have c10b1 : (a0_2 != a1) = false := bne_eq_false_iff_eq.mpr c10
   clear c10
   obtain rfl := Option.some.inj H
   go_enter Try.func14, Try.ntmps14
   go_wp2_with (first | ((with_reducible refine gate_dst (N := 2) rfl ?_); refine bx #[.int .i64 a0_0, .int .i64 a0_1, .int .i64 a0_2, .int .i64 a0_3, .slice A0_4 l0_4.length c0_4] 24 ?_; intro gb350 hg w11 hbox hb; have BK350 := Aside0.mk hbox; have GW350 := ge HB hg; have GE350 := ge HB hg; replace HB := bs HB hb; clear hb hbox hg; obtain ⟨q12_0, q12_1, q12_2, q12_3, q12_4⟩ := cA5 BK350; obtain ⟨f12_0, f12_1, f12_2, f12_3, f12_4⟩ := fA5 BK350) | ((with_reducible refine gate_callee (f := 12) rfl ?_); refine gL (some 6) Try.func12 #[.agg #[.int .i64 a0_0, .int .i64 a0_1, .int .i64 a0_2, .int .i64 a0_3, .slice A0_4 l0_4.length c0_4]] ?_; (with_reducible refine (frame_Check.calls k a0_0 a0_1 a0_2 a0_3 _ _ l0_4 t351 _ ?side1 ?side2 A3.out).mono ?_); (case side1 => repeat (first | exact (Kd.C_below HR0_4.out HB.out) | (with_reducible refine Kd.C_alloc ?_ _) | (with_reducible refine Kd.C_drewN ?_ _) | (with_reducible refine Kd.C_drew ?_))); (case side2 => exact HC0_4.out); rintro e w13 ⟨rfl, hb⟩; refine ⟨_, rfl, ?_⟩; replace BK350 := kb BK350 hb; replace HB := bs HB hb; (try clear hb); (try clear hb2); (try clear hk); (try clear hi); obtain ⟨q14_0, q14_1, q14_2, q14_3, q14_4⟩ := cA5 BK350; obtain ⟨f14_0, f14_1, f14_2, f14_3, f14_4⟩ := fA5 BK350))
   go_ret
   exact ⟨gE, uB HB⟩
  rw [if_neg c10] at H
  have c10b0 : (a0_2 == a1) = false := beq_eq_false_iff_ne.mpr c10
  have c10b1 : (a0_2 != a1) = true := bne_iff_ne.mpr c10
  obtain rfl := Option.some.inj H
  go_enter Try.func14, Try.ntmps14
  go_wp2_with (first | ((with_reducible refine gate_dst (N := 2) rfl ?_); refine bx #[.int .i64 a0_0, .int .i64 a0_1, .int .i64 a0_2, .int .i64 a0_3, .slice A0_4 l0_4.length c0_4] 24 ?_; intro gb350 hg w15 hbox hb; have BK350 := Aside0.mk hbox; have GW350 := ge HB hg; have GE350 := ge HB hg; replace HB := bs HB hb; clear hb hbox hg; obtain ⟨q16_0, q16_1, q16_2, q16_3, q16_4⟩ := cA5 BK350; obtain ⟨f16_0, f16_1, f16_2, f16_3, f16_4⟩ := fA5 BK350) | ((with_reducible refine gate_callee (f := 12) rfl ?_); refine gL (some 6) Try.func12 #[.agg #[.int .i64 a0_0, .int .i64 a0_1, .int .i64 a0_2, .int .i64 a0_3, .slice A0_4 l0_4.length c0_4]] ?_; (with_reducible refine (frame_Check.calls k a0_0 a0_1 a0_2 a0_3 _ _ l0_4 t351 _ ?side1 ?side2 A3.out).mono ?_); (case side1 => repeat (first | exact (Kd.C_below HR0_4.out HB.out) | (with_reducible refine Kd.C_alloc ?_ _) | (with_reducible refine Kd.C_drewN ?_ _) | (with_reducible refine Kd.C_drew ?_))); (case side2 => exact HC0_4.out); rintro e w17 ⟨rfl, hb⟩; refine ⟨_, rfl, ?_⟩; replace BK350 := kb BK350 hb; replace HB := bs HB hb; (try clear hb); (try clear hb2); (try clear hk); (try clear hi); obtain ⟨q18_0, q18_1, q18_2, q18_3, q18_4⟩ := cA5 BK350; obtain ⟨f18_0, f18_1, f18_2, f18_3, f18_4⟩ := fA5 BK350))
  go_ret
  exact ⟨gE, uB HB⟩
 rw [if_neg c4] at H
 have c4b0 : (t351 == 0) = false := beq_eq_false_iff_ne.mpr c4
 have c4b1 : (t351 != 0) = true := bne_iff_ne.mpr c4
 obtain rfl := Option.some.inj H
 go_enter Try.func14, Try.ntmps14
 go_wp2_with (first | ((with_reducible refine gate_dst (N := 2) rfl ?_); refine bx #[.int .i64 a0_0, .int .i64 a0_1, .int .i64 a0_2, .int .i64 a0_3, .slice A0_4 l0_4.length c0_4] 24 ?_; intro gb350 hg w19 hbox hb; have BK350 := Aside0.mk hbox; have GW350 := ge HB hg; have GE350 := ge HB hg; replace HB := bs HB hb; clear hb hbox hg; obtain ⟨q20_0, q20_1, q20_2, q20_3, q20_4⟩ := cA5 BK350; obtain ⟨f20_0, f20_1, f20_2, f20_3, f20_4⟩ := fA5 BK350) | ((with_reducible refine gate_callee (f := 12) rfl ?_); refine gL (some 6) Try.func12 #[.agg #[.int .i64 a0_0, .int .i64 a0_1, .int .i64 a0_2, .int .i64 a0_3, .slice A0_4 l0_4.length c0_4]] ?_; (with_reducible refine (frame_Check.calls k a0_0 a0_1 a0_2 a0_3 _ _ l0_4 t351 _ ?side1 ?side2 A3.out).mono ?_); (case side1 => repeat (first | exact (Kd.C_below HR0_4.out HB.out) | (with_reducible refine Kd.C_alloc ?_ _) | (with_reducible refine Kd.C_drewN ?_ _) | (with_reducible refine Kd.C_drew ?_))); (case side2 => exact HC0_4.out); rintro e w21 ⟨rfl, hb⟩; refine ⟨_, rfl, ?_⟩; replace BK350 := kb BK350 hb; replace HB := bs HB hb; (try clear hb); (try clear hb2); (try clear hk); (try clear hi)))
 go_ret
 exact ⟨gE, uB HB⟩
def wire_Get.f (l0 : List Int) (a1 : Int) (a2 : Int) : Option (Int × Int × Int) := if a2 < 1 then (some (0, 0, 1)) else (if a2 > 7 then (some (0, 0, 1)) else ((wire_number.f l0 a1 a2).bind fun bt352 => (some (wrap64 (bt352.1), bt352.2.1, bt352.2.2))))
theorem wire_Get.calls (A0 : Option Addr) (c0 : Nat) (l0 : List Int) (a1 : Int) (a2 : Int) (r1 : Int) (r2 : Int) (r3 : Int) (w : World) (hr0 : Kd.C (Kd.int .u8) w A0 l0.length l0) (hc0 : l0.length ≤ c0) (h : wire_Get.f l0 a1 a2 = some (r1, r2, r3)) :
  Calls Try.prog 27 #[.slice A0 l0.length c0, .int .i64 a1, .int .i64 a2] w fun e w' => e = .returned (.tuple #[.int .i64 r1, .int .i64 r2, .int .i64 r3]) ∧ Below w.heap.size w w' := by
 have HR0 := Aside0.mk hr0; have HC0 := Aside0.mk hc0; clear hr0 hc0; have HB := Aside0.mk (Below.refl w.heap.size w)
 have H : (if a2 < 1 then (some (0, 0, 1)) else (if a2 > 7 then (some (0, 0, 1)) else ((wire_number.f l0 a1 a2).bind fun bt352 => (some (wrap64 (bt352.1), bt352.2.1, bt352.2.2))))) = some (r1, r2, r3) := h
 clear h
 by_cases c4 : a2 < 1
 ·rw [if_pos c4] at H
  have c4b0 := decide_eq_true c4; clear c4
  simp only [Option.some.injEq, Prod.mk.injEq] at H
  obtain ⟨rfl, rfl, rfl⟩ := H
  go_enter Try.func27, Try.ntmps27
  go_wp2
  go_ret3
  exact ⟨gE, uB HB⟩
 rw [if_neg c4] at H; have c4b0 : decide (a2 < 1) = false := decide_eq_false c4; clear c4
 by_cases c5 : a2 > 7
 ·rw [if_pos c5] at H
  have c5b0 : decide (7 < a2) = true := decide_eq_true c5; clear c5
  simp only [Option.some.injEq, Prod.mk.injEq] at H
  obtain ⟨rfl, rfl, rfl⟩ := H
  go_enter Try.func27, Try.ntmps27
  go_wp2
  go_ret3
  exact ⟨gE, uB HB⟩
 rw [if_neg c5] at H; have c5b0 : decide (7 < a2) = false := decide_eq_false c5; clear c5; replace H := Option.bind_eq_some_iff.mp H
 obtain ⟨⟨t352, t353, t354⟩, A60, H⟩ := H
 replace H : (some (wrap64 (t352), t353, t354)) = some (r1, r2, r3) := H
 have A6 := Aside0.mk A60; clear A60
 simp only [Option.some.injEq, Prod.mk.injEq] at H
 obtain ⟨rfl, rfl, rfl⟩ := H
 go_enter Try.func27, Try.ntmps27
 go_wp2_with (first | ((with_reducible refine gate_callee (f := 47) rfl ?_); refine gL (some 22) Try.func47 #[.slice A0 l0.length c0, .int .i64 a1, .int .i64 a2] ?_; (with_reducible refine (wire_number.calls _ _ l0 a1 a2 t352 t353 t354 _ ?side1 ?side2 A6.out).mono ?_); (case side1 => repeat (first | exact HR0.out | (with_reducible refine Kd.C_alloc ?_ _) | (with_reducible refine Kd.C_drewN ?_ _) | (with_reducible refine Kd.C_drew ?_))); (case side2 => exact HC0.out); rintro e w7 ⟨rfl, hb⟩; refine ⟨_, rfl, ?_⟩; replace HB := bs HB hb; (try clear hb); (try clear hb2); (try clear hk); (try clear hi)))
 go_ret3
 exact ⟨gE, uB HB⟩
def wire_GetInt.f (l0 : List Int) (a1 : Int) : Option (Int × Int × Int) := (wire_number.f l0 a1 8).bind fun bt355 => (some (wrap64 (bt355.1), bt355.2.1, bt355.2.2))
theorem wire_GetInt.calls (A0 : Option Addr) (c0 : Nat) (l0 : List Int) (a1 : Int) (r1 : Int) (r2 : Int) (r3 : Int) (w : World) (hr0 : Kd.C (Kd.int .u8) w A0 l0.length l0) (hc0 : l0.length ≤ c0) (h : wire_GetInt.f l0 a1 = some (r1, r2, r3)) :
  Calls Try.prog 101 #[.slice A0 l0.length c0, .int .i64 a1] w fun e w' => e = .returned (.tuple #[.int .i64 r1, .int .i64 r2, .int .i64 r3]) ∧ Below w.heap.size w w' := by
 have HR0 := Aside0.mk hr0; have HC0 := Aside0.mk hc0; clear hr0 hc0; have HB := Aside0.mk (Below.refl w.heap.size w)
 have H : ((wire_number.f l0 a1 8).bind fun bt355 => (some (wrap64 (bt355.1), bt355.2.1, bt355.2.2))) = some (r1, r2, r3) := h
 clear h; replace H := Option.bind_eq_some_iff.mp H
 obtain ⟨⟨t355, t356, t357⟩, A30, H⟩ := H
 replace H : (some (wrap64 (t355), t356, t357)) = some (r1, r2, r3) := H
 have A3 := Aside0.mk A30; clear A30
 simp only [Option.some.injEq, Prod.mk.injEq] at H
 obtain ⟨rfl, rfl, rfl⟩ := H
 go_enter Try.func101, Try.ntmps101
 go_wp2_with (first | ((with_reducible refine gate_callee (f := 47) rfl ?_); refine gL (some 13) Try.func47 #[.slice A0 l0.length c0, .int .i64 a1, .int .i64 8] ?_; (with_reducible refine (wire_number.calls _ _ l0 a1 8 t355 t356 t357 _ ?side1 ?side2 A3.out).mono ?_); (case side1 => repeat (first | exact HR0.out | (with_reducible refine Kd.C_alloc ?_ _) | (with_reducible refine Kd.C_drewN ?_ _) | (with_reducible refine Kd.C_drew ?_))); (case side2 => exact HC0.out); rintro e w4 ⟨rfl, hb⟩; refine ⟨_, rfl, ?_⟩; replace HB := bs HB hb; (try clear hb); (try clear hb2); (try clear hk); (try clear hi)))
 go_ret3
 exact ⟨gE, uB HB⟩
end Go.Proofs.Ytpgmmnlkiogamaa.P
namespace Go.Proofs.Ytpgmmnlkiogamaa.P
open Go.RowKit YtpgmmnlkiogamaaW.PrintWords YtpgmmnlkiogamaaW.PrintLast YtpgmmnlkiogamaaW.PrintMore
def notU8 (cs : Array Value) : Bool := cs.toList.all fun v => match v with | .int .u8 _ => false | _ => true
theorem u8_ne {w : World} {g t : Nat} {cs : Array Value} {ad : Addr} {x : Int} (h : w.cell? ad = some (.int .u8 x)) (b : w.heap[g]? = some (.cells cs t (0, 0))) (hc : notU8 cs = true) : ad.block ≠ g := by
 rintro rfl
 have h2 : cs[ad.off]? = some (.int .u8 x) := by
  unfold World.cell? at h
  rw [b] at h
  dsimp only at h
  split at h
  ·cases h
  ·exact h
 have h3 : Value.int .u8 x ∈ cs.toList := Array.mem_toList_iff.2 (Array.mem_of_getElem? h2)
 have := List.all_eq_true.1 hc _ h3
 simp at this
theorem far_c {w : World} {a : Addr} {g i : Nat} {u x : Value} (h : a.block ≠ g) (e : w.cell? a = some x) : (w.setCell ⟨g, i, none⟩ u).cell? a = some x := (cell_far (p := ⟨g, i, none⟩) h u).trans e
theorem u8S {w w2 : World} {g t : Nat} {cs : Array Value} {ad : Addr} {x : Int} (h : w.cell? ad = some (.int .u8 x)) (b : Aside0 (w.heap[g]? = some (.cells cs t (0, 0)))) (hc : notU8 cs = true := by rfl)
  (e : ad.block ≠ g → w.cell? ad = some (.int .u8 x) → w2.cell? ad = some (.int .u8 x) := by intro n_ h_; repeat (first | (with_reducible exact h_) | (with_reducible refine far_c n_ ?_))) : w2.cell? ad = some (.int .u8 x) := e (u8_ne h b.out hc) h
theorem wire_number_eq (l : List Int) (a n : Int) (hB : Bytes l) (hl : l.length ≤ 1000000000000) (h0 : 0 ≤ n) (h8 : n ≤ 8) : wire_number.f l a n = some (numSpec l a n) := by
 unfold wire_number.f
 rw [if_pos ⟨hl, h0, h8, hB⟩]
theorem numSpec_small (l : List Int) (a n : Int) (hB : Bytes l) (h7 : n ≤ 7) : 0 ≤ (numSpec l a n).1 ∧ (numSpec l a n).1 < 72057594037927936 := by
 unfold numSpec
 split
 ·simp
 ·split
  ·simp
  ·have hr := bev_range _ ((hB.drop a.toNat).take n.toNat)
   have hp : (256 : Int) ^ ((l.drop a.toNat).take n.toNat).length ≤ 256 ^ 7 := pow256_le _ _ (by rw [List.length_take]; omega)
   have e7 : (256 : Int) ^ 7 = 72057594037927936 := by decide
   exact ⟨hr.1, by show bev _ < _; omega⟩
theorem wire_Get_eq (l : List Int) (a n : Int) (hB : Bytes l) (hl : l.length ≤ 1000000000000) : wire_Get.f l a n = some (getSpec l a n) := by
 unfold wire_Get.f getSpec
 by_cases c : n < 1 ∨ 7 < n
 ·rw [if_pos c]
  by_cases c1 : n < 1
  ·rw [if_pos c1]
  ·rw [if_neg c1, if_pos (show n > 7 by omega)]
 ·rw [if_neg c]
  rw [if_neg (show ¬ n < 1 by omega), if_neg (show ¬ n > 7 by omega), wire_number_eq l a n hB hl (by omega) (by omega)]
  have hs := numSpec_small l a n hB (by omega)
  rw [Option.bind_some, w64 (by omega) (by omega)]
theorem wire_GetInt_eq (l : List Int) (a : Int) (hB : Bytes l) (hl : l.length ≤ 1000000000000) : wire_GetInt.f l a = some (getIntSpec l a) := by
 unfold wire_GetInt.f getIntSpec
 rw [wire_number_eq l a 8 hB hl (by omega) (by omega)]
 rfl
end Go.Proofs.Ytpgmmnlkiogamaa.P
namespace Go.Proofs.Ytpgmmnlkiogamaa.P
open Go.RowKit YtpgmmnlkiogamaaW.PrintWords YtpgmmnlkiogamaaW.PrintLast YtpgmmnlkiogamaaW.PrintMore
attribute [local go_sem] max2_int min2_int max_two min_two max_three min_three max_four min_four
abbrev RdC (A : Option Addr) (n c : Nat) (at_ e : Int) : Array Value := #[.slice A n c, .int .i64 at_, .int .i64 e]
def rdStep (G : Int × Int × Int) (at_ e : Int) : Int × Int × Int := if e = 0 then (if G.2.2 = 0 then (G.1, G.2.1, 0) else (0, at_, G.2.2)) else (0, at_, e)
def rd1 (l : List Int) (n at_ e : Int) : Int × Int × Int := rdStep (getSpec l at_ n) at_ e
def rd8 (l : List Int) (at_ e : Int) : Int × Int × Int := rdStep (getIntSpec l at_) at_ e
theorem cells3 {w : World} {g : Nat} {t : TypeId} {v0 v1 v2 : Value} (h : w.heap[g]? = some (.cells #[v0, v1, v2] t (0, 0))) : (w.cell? ⟨g, 0, none⟩ = some v0 ∧ w.cell? ⟨g, 1, none⟩ = some v1 ∧ w.cell? ⟨g, 2, none⟩ = some v2) ∧ (w.frozen? ⟨g, 0, none⟩ = false ∧ w.frozen? ⟨g, 1, none⟩ = false ∧ w.frozen? ⟨g, 2, none⟩ = false) := ⟨⟨(blk_cell h 0).trans rfl, (blk_cell h 1).trans rfl, (blk_cell h 2).trans rfl⟩, ⟨blk_frozen h 0, blk_frozen h 1, blk_frozen h 2⟩⟩
theorem cells12 {w : World} {g : Nat} {t : TypeId} {v0 v1 v2 v3 v4 v5 v6 v7 v8 v9 v10 v11 : Value} (h : w.heap[g]? = some (.cells #[v0, v1, v2, v3, v4, v5, v6, v7, v8, v9, v10, v11] t (0, 0))) : (w.cell? ⟨g, 0, none⟩ = some v0 ∧ w.cell? ⟨g, 1, none⟩ = some v1 ∧ w.cell? ⟨g, 2, none⟩ = some v2 ∧ w.cell? ⟨g, 3, none⟩ = some v3 ∧ w.cell? ⟨g, 4, none⟩ = some v4 ∧ w.cell? ⟨g, 5, none⟩ = some v5 ∧ w.cell? ⟨g, 6, none⟩ = some v6 ∧ w.cell? ⟨g, 7, none⟩ = some v7 ∧ w.cell? ⟨g, 8, none⟩ = some v8 ∧ w.cell? ⟨g, 9, none⟩ = some v9 ∧ w.cell? ⟨g, 10, none⟩ = some v10 ∧ w.cell? ⟨g, 11, none⟩ = some v11) ∧ (w.frozen? ⟨g, 0, none⟩ = false ∧ w.frozen? ⟨g, 1, none⟩ = false ∧ w.frozen? ⟨g, 2, none⟩ = false ∧ w.frozen? ⟨g, 3, none⟩ = false ∧ w.frozen? ⟨g, 4, none⟩ = false ∧ w.frozen? ⟨g, 5, none⟩ = false ∧ w.frozen? ⟨g, 6, none⟩ = false ∧ w.frozen? ⟨g, 7, none⟩ = false ∧ w.frozen? ⟨g, 8, none⟩ = false ∧ w.frozen? ⟨g, 9, none⟩ = false ∧ w.frozen? ⟨g, 10, none⟩ = false ∧ w.frozen? ⟨g, 11, none⟩ = false) := ⟨⟨(blk_cell h 0).trans rfl, (blk_cell h 1).trans rfl, (blk_cell h 2).trans rfl, (blk_cell h 3).trans rfl, (blk_cell h 4).trans rfl, (blk_cell h 5).trans rfl, (blk_cell h 6).trans rfl, (blk_cell h 7).trans rfl, (blk_cell h 8).trans rfl, (blk_cell h 9).trans rfl, (blk_cell h 10).trans rfl, (blk_cell h 11).trans rfl⟩, ⟨blk_frozen h 0, blk_frozen h 1, blk_frozen h 2, blk_frozen h 3, blk_frozen h 4, blk_frozen h 5, blk_frozen h 6, blk_frozen h 7, blk_frozen h 8, blk_frozen h 9, blk_frozen h 10, blk_frozen h 11⟩⟩
theorem grown_set {w : World} {g : Nat} {cs : Array Value} {t : TypeId} (hb : w.heap[g]? = some (.cells cs t (0, 0))) (i : Nat) (u : Value) : w.grownBy (w.setCell ⟨g, i, none⟩ u) (some g) :=
 ⟨rfl, rfl, rfl, by simp [World.setCell], fun k hk hn => Below.heap_setCell w ⟨g, i, none⟩ u k (fun e => hn (by rw [e]))⟩
theorem grown_below {w w1 w2 : World} {g : Nat} (hb : Below w.heap.size w w1) (h : w1.grownBy w2 (some g)) : w.grownBy w2 (some g) :=
 ⟨h.os.trans hb.os, h.tape.trans hb.tape, h.output.trans hb.output, Nat.le_trans hb.size h.size, fun k hk hn => (h.block k (Nat.lt_of_lt_of_le hk hb.size) hn).trans (hb.block k hk)⟩
theorem hr_keep0 (g : Nat) (A : Option Addr) (n c : Nat) (at_ e v tt : Int) (w : World) (hb : w.heap[g]? = some (.cells (RdC A n c at_ e) 177 (0, 0))) :
  Calls Try.prog 105 #[.pointer (some ⟨g, 0, none⟩), .int .i64 v, .int .i64 tt, .int .i64 0] w fun x w' => x = .returned (.int .i64 v) ∧ w' = w.setCell ⟨g, 1, none⟩ (.int .i64 tt) := by
 have h1 : w.cell? ⟨g, 1, none⟩ = some (.int .i64 at_) := (blk_cell hb 1).trans rfl
 have f1 := blk_frozen hb 1; clear hb
 go_enter Try.func105, Try.ntmps105
 go_wp2
 go_ret
 exact ⟨rfl, rfl⟩
theorem hr_keepE (g : Nat) (A : Option Addr) (n c : Nat) (at_ e v tt e2 : Int) (w : World) (he : ¬ e2 = 0) (hb : w.heap[g]? = some (.cells (RdC A n c at_ e) 177 (0, 0))) :
  Calls Try.prog 105 #[.pointer (some ⟨g, 0, none⟩), .int .i64 v, .int .i64 tt, .int .i64 e2] w fun x w' => x = .returned (.int .i64 0) ∧ w' = w.setCell ⟨g, 2, none⟩ (.int .i64 e2) := by
 have h1 : w.cell? ⟨g, 2, none⟩ = some (.int .i64 e) := (blk_cell hb 2).trans rfl
 have f1 := blk_frozen hb 2
 have b1 : (e2 != 0) = true := bne_iff_ne.mpr he
 clear hb he
 go_enter Try.func105, Try.ntmps105
 go_wp2
 go_ret
 exact ⟨rfl, rfl⟩
theorem hr_keep (g : Nat) (A : Option Addr) (n c : Nat) (at_ v tt e2 : Int) (w : World) (hb : w.heap[g]? = some (.cells (RdC A n c at_ 0) 177 (0, 0))) :
  Calls Try.prog 105 #[.pointer (some ⟨g, 0, none⟩), .int .i64 v, .int .i64 tt, .int .i64 e2] w fun x w' => x = .returned (.int .i64 (rdStep (v, tt, e2) at_ 0).1) ∧ w'.heap[g]? = some (.cells (RdC A n c (rdStep (v, tt, e2) at_ 0).2.1 (rdStep (v, tt, e2) at_ 0).2.2) 177 (0, 0)) ∧ w.grownBy w' (some g) := by
 by_cases c0 : e2 = 0
 ·subst c0
  refine (hr_keep0 g A n c at_ 0 v tt w hb).mono ?_
  rintro x w' ⟨rfl, rfl⟩
  exact ⟨rfl, blk_put hb 1 _ rfl, grown_set hb _ _⟩
 ·refine (hr_keepE g A n c at_ 0 v tt e2 w c0 hb).mono ?_
  rintro x w' ⟨rfl, rfl⟩
  simp only [rdStep, if_true, if_neg c0]
  exact ⟨trivial, blk_put hb 2 _ rfl, grown_set hb _ _⟩
def hr_one.T3 : Bool × List (List Nat × List Nat) := (true, [([], []), ([], []), ([1], [1]), ([2], [2]), ([3], [3]), ([], []), ([5], [5]), ([6], [6]), ([7], [7]), ([4, 8], [4, 8]), ([9], [9]), ([9], [9]), ([9], [9]), ([0, 10, 11, 12, 9], [0, 10, 11, 12]), ([13, 13, 0, 1, 2, 3, 4, 5, 6, 7, 8, 9, 10, 11, 12, 13], [13])])
def hr_one.B3 : List Nat := [0, 0, 2, 6, 14, 0, 32, 96, 224, 510, 1022, 1022, 1022, 8191, 16383]
theorem hr_one.tab3 : rtab .any (opsOf Try.f103 3) = hr_one.T3 := by kernel_rfl
theorem hr_one.bits3 : waitsOk hr_one.T3.2 hr_one.B3 = true := by kernel_rfl
theorem hr_one (g : Nat) (A : Option Addr) (c : Nat) (l : List Int) (at_ e : Int) (w : World) (hB : Bytes l) (hl : l.length ≤ 1000000000000) (hr : Kd.C (Kd.int .u8) w A l.length l) (hc : l.length ≤ c) (hb : w.heap[g]? = some (.cells (RdC A l.length c at_ e) 177 (0, 0))) :
  Calls Try.prog 103 #[.pointer (some ⟨g, 0, none⟩)] w fun x w' => x = .returned (.int .i64 (rd1 l 1 at_ e).1) ∧ w'.heap[g]? = some (.cells (RdC A l.length c (rd1 l 1 at_ e).2.1 (rd1 l 1 at_ e).2.2) 177 (0, 0)) ∧ w.grownBy w' (some g) := by
 have h2 : w.cell? ⟨g, 2, none⟩ = some (.int .i64 e) := (blk_cell hb 2).trans rfl
 have HBB := Aside0.mk hb
 by_cases c0 : e = 0
 case neg =>
  have b0 : (e != 0) = true := bne_iff_ne.mpr c0
  have HN := Aside0.mk c0; clear hb c0
  go_enter Try.func103, Try.ntmps103
  go_wp2
  go_ret
  simp only [rd1, rd8, rdStep, if_neg HN.out]
  exact ⟨rfl, HBB.out, rfl, rfl, rfl, Nat.le_refl _, fun _ _ _ => rfl⟩
 subst c0
 obtain ⟨s1, s2, s3, hG⟩ : ∃ s1 s2 s3, getSpec l at_ 1 = (s1, s2, s3) := ⟨_, _, _, rfl⟩
 have HG := Aside0.mk (show wire_Get.f l at_ 1 = some (s1, s2, s3) by rw [wire_Get_eq _ _ _ hB hl, hG]); have HGG := Aside0.mk hG; clear hG hb
 go_enter Try.func103, Try.ntmps103
 go_wp2
 clear h2
 refine start_ (n := 15) (S := fun w' => w'.cell? ⟨g, 0, none⟩ = some (.slice A l.length c) ∧ w'.cell? ⟨g, 1, none⟩ = some (.int .i64 at_)) (ds := [13]) #[false, false, false, false, false, false, false, false, false, false, false, false, false, false, false] (by kernel_rfl) rfl rfl ⟨(blk_cell HBB.out 0).trans rfl, (blk_cell HBB.out 1).trans rfl⟩ (fun hHeld => ?_); refine with_tabW hr_one.tab3 hr_one.bits3 (fun HT_ HW_ => ?_)
 refine pA 0 (some 8) ?_; refine pA 1 (some 9) ?_; refine pA 2 (some 10) ?_; refine pA 3 (some 11) ?_; refine pA 5 (some 13) ?_; refine pA 6 (some 14) ?_; refine pA 7 (some 15) ?_; refine tA 4 (some 12) ?_; refine tA 8 (some 16) ?_
 refine oA 9 (some 17) (fun K hK => ?_)
 refine goes_ Try.func27 (by kernel_rfl) rfl #[.slice A l.length c, .int .i64 at_, .int .i64 1] (by rfl) rfl rfl (by simp only [List.map_toArray, List.map_cons, List.map_nil]; rfl) ?_
 with_reducible refine (wire_Get.calls A c l at_ 1 s1 s2 s3 _ (Kd.C_below hr (below_drew (Below.refl _ _))) hc HG.out).mono ?_
 rintro e w7 ⟨rfl, hb7⟩
 refine ⟨_, rfl, ?_⟩
 have HB7 := Aside0.mk hb7; have BX7 := Aside0.mk (blk_below (w := w.drew) HBB.out hb7); clear hb7
 refine hK.out _ _ ⟨(blk_cell BX7.out 0).trans rfl, (blk_cell BX7.out 1).trans rfl⟩ (fun hHeld => ?_)
 clear hK K; refine nA 17 ?_; refine pA 10 (some 18) ?_; refine pA 11 (some 19) ?_; refine pA 12 (some 20) ?_
 refine last_ (i := 13) (N := some 21) #[true, true, true, true, true, true, true, true, true, true, true, true, true, true, false] rfl rfl (one_of HT_.out (by kernel_rfl)) (by decide) (fun K hK => ?_)
 refine goes_ Try.func105 (by kernel_rfl) rfl #[.pointer (some ⟨g, 0, none⟩), .int .i64 s1, .int .i64 s2, .int .i64 s3] (by rfl) rfl rfl (by simp only [List.map_toArray, List.map_cons, List.map_nil]; rfl) ?_
 with_reducible refine (hr_keep g A l.length c at_ s1 s2 s3 _ BX7.out).mono ?_
 rintro e w8 ⟨rfl, hbx, hgr⟩
 refine ⟨_, rfl, ?_⟩
 have BX8 := Aside0.mk hbx; have HG8 := Aside0.mk hgr; clear hbx hgr
 refine hK.out _ _ ?_
 clear hK K; refine nA 21 ?_; refine pA 14 (some 2) ?_
 refine dA ?_
 clear HT_ HW_
 go_wp2
 go_ret
 have hgg := HGG.out
 simp only [rd1, rd8, hgg]
 exact ⟨rfl, BX8.out, grown_below (below_step (below_drew (Below.refl _ _)) HB7.out) HG8.out⟩
def hr_eight.T3 : Bool × List (List Nat × List Nat) := (true, [([], []), ([], []), ([1], [1]), ([2], [2]), ([3], [3]), ([], []), ([5], [5]), ([6], [6]), ([7], [7]), ([4, 8], [4, 8]), ([9], [9]), ([9], [9]), ([9], [9]), ([0, 10, 11, 12, 9], [0, 10, 11, 12]), ([13, 13, 0, 1, 2, 3, 4, 5, 6, 7, 8, 9, 10, 11, 12, 13], [13])])
def hr_eight.B3 : List Nat := [0, 0, 2, 6, 14, 0, 32, 96, 224, 510, 1022, 1022, 1022, 8191, 16383]
theorem hr_eight.tab3 : rtab .any (opsOf Try.f104 3) = hr_eight.T3 := by kernel_rfl
theorem hr_eight.bits3 : waitsOk hr_eight.T3.2 hr_eight.B3 = true := by kernel_rfl
theorem hr_eight (g : Nat) (A : Option Addr) (c : Nat) (l : List Int) (at_ e : Int) (w : World) (hB : Bytes l) (hl : l.length ≤ 1000000000000) (hr : Kd.C (Kd.int .u8) w A l.length l) (hc : l.length ≤ c) (hb : w.heap[g]? = some (.cells (RdC A l.length c at_ e) 177 (0, 0))) :
  Calls Try.prog 104 #[.pointer (some ⟨g, 0, none⟩)] w fun x w' => x = .returned (.int .i64 (rd8 l at_ e).1) ∧ w'.heap[g]? = some (.cells (RdC A l.length c (rd8 l at_ e).2.1 (rd8 l at_ e).2.2) 177 (0, 0)) ∧ w.grownBy w' (some g) := by
 have h2 : w.cell? ⟨g, 2, none⟩ = some (.int .i64 e) := (blk_cell hb 2).trans rfl
 have HBB := Aside0.mk hb
 by_cases c0 : e = 0
 case neg =>
  have b0 : (e != 0) = true := bne_iff_ne.mpr c0
  have HN := Aside0.mk c0; clear hb c0
  go_enter Try.func104, Try.ntmps104
  go_wp2
  go_ret
  simp only [rd1, rd8, rdStep, if_neg HN.out]
  exact ⟨rfl, HBB.out, rfl, rfl, rfl, Nat.le_refl _, fun _ _ _ => rfl⟩
 subst c0
 obtain ⟨s1, s2, s3, hG⟩ : ∃ s1 s2 s3, getIntSpec l at_ = (s1, s2, s3) := ⟨_, _, _, rfl⟩
 have HG := Aside0.mk (show wire_GetInt.f l at_ = some (s1, s2, s3) by rw [wire_GetInt_eq _ _ hB hl, hG]); have HGG := Aside0.mk hG; clear hG hb
 go_enter Try.func104, Try.ntmps104
 go_wp2
 clear h2
 refine start_ (n := 15) (S := fun w' => w'.cell? ⟨g, 0, none⟩ = some (.slice A l.length c) ∧ w'.cell? ⟨g, 1, none⟩ = some (.int .i64 at_)) (ds := [13]) #[false, false, false, false, false, false, false, false, false, false, false, false, false, false, false] (by kernel_rfl) rfl rfl ⟨(blk_cell HBB.out 0).trans rfl, (blk_cell HBB.out 1).trans rfl⟩ (fun hHeld => ?_); refine with_tabW hr_eight.tab3 hr_eight.bits3 (fun HT_ HW_ => ?_)
 refine pA 0 (some 8) ?_; refine pA 1 (some 9) ?_; refine pA 2 (some 10) ?_; refine pA 3 (some 11) ?_; refine pA 5 (some 13) ?_; refine pA 6 (some 14) ?_; refine pA 7 (some 15) ?_; refine tA 4 (some 12) ?_; refine tA 8 (some 16) ?_
 refine oA 9 (some 17) (fun K hK => ?_)
 refine goes_ Try.func101 (by kernel_rfl) rfl #[.slice A l.length c, .int .i64 at_] (by rfl) rfl rfl (by simp only [List.map_toArray, List.map_cons, List.map_nil]; rfl) ?_
 with_reducible refine (wire_GetInt.calls A c l at_ s1 s2 s3 _ (Kd.C_below hr (below_drew (Below.refl _ _))) hc HG.out).mono ?_
 rintro e w7 ⟨rfl, hb7⟩
 refine ⟨_, rfl, ?_⟩
 have HB7 := Aside0.mk hb7; have BX7 := Aside0.mk (blk_below (w := w.drew) HBB.out hb7); clear hb7
 refine hK.out _ _ ⟨(blk_cell BX7.out 0).trans rfl, (blk_cell BX7.out 1).trans rfl⟩ (fun hHeld => ?_)
 clear hK K; refine nA 17 ?_; refine pA 10 (some 18) ?_; refine pA 11 (some 19) ?_; refine pA 12 (some 20) ?_
 refine last_ (i := 13) (N := some 21) #[true, true, true, true, true, true, true, true, true, true, true, true, true, true, false] rfl rfl (one_of HT_.out (by kernel_rfl)) (by decide) (fun K hK => ?_)
 refine goes_ Try.func105 (by kernel_rfl) rfl #[.pointer (some ⟨g, 0, none⟩), .int .i64 s1, .int .i64 s2, .int .i64 s3] (by rfl) rfl rfl (by simp only [List.map_toArray, List.map_cons, List.map_nil]; rfl) ?_
 with_reducible refine (hr_keep g A l.length c at_ s1 s2 s3 _ BX7.out).mono ?_
 rintro e w8 ⟨rfl, hbx, hgr⟩
 refine ⟨_, rfl, ?_⟩
 have BX8 := Aside0.mk hbx; have HG8 := Aside0.mk hgr; clear hbx hgr
 refine hK.out _ _ ?_
 clear hK K; refine nA 21 ?_; refine pA 14 (some 2) ?_
 refine dA ?_
 clear HT_ HW_
 go_wp2
 go_ret
 have hgg := HGG.out
 simp only [rd1, rd8, hgg]
 exact ⟨rfl, BX8.out, grown_below (below_step (below_drew (Below.refl _ _)) HB7.out) HG8.out⟩
def rdN (l : List Int) (n at_ e : Int) : Int × Int × Int := if n = 8 then rd8 l at_ e else rd1 l n at_ e
theorem or_numE (g : Nat) (A : Option Addr) (n c : Nat) (at_ e sz : Int) (w : World) (he : ¬ e = 0) (hb : w.heap[g]? = some (.cells (RdC A n c at_ e) 168 (0, 0))) :
  Calls Try.prog 97 #[.pointer (some ⟨g, 0, none⟩), .int .i64 sz] w fun x w' => x = .returned (.int .i64 0) ∧ w' = w := by
 have h1 : w.cell? ⟨g, 2, none⟩ = some (.int .i64 e) := (blk_cell hb 2).trans rfl
 have b0 : (e != 0) = true := bne_iff_ne.mpr he
 clear hb he
 go_enter Try.func97, Try.ntmps97
 go_wp2
 go_ret
 exact ⟨rfl, rfl⟩
def or_num8.T5 : Bool × List (List Nat × List Nat) := (true, [([], []), ([0], [0]), ([1], [1]), ([2], [2]), ([], []), ([4], [4]), ([5], [5]), ([6], [6]), ([3, 7], [3, 7]), ([8], [8]), ([9], [9]), ([9], [9]), ([9], [9]), ([10, 8, 0, 1, 2, 3, 4, 5, 6, 7, 8, 9, 10], [10]), ([11, 13, 0, 1, 2, 3, 4, 5, 6, 7, 8, 9, 10, 11, 13], [11]), ([12, 14, 0, 1, 2, 3, 4, 5, 6, 7, 8, 9, 10, 11, 12, 13, 14], [12])])
def or_num8.B5 : List Nat := [0, 1, 3, 7, 0, 16, 48, 112, 255, 511, 1023, 1023, 1023, 2047, 12287, 32767]
theorem or_num8.tab5 : rtab .any (opsOf Try.f97 5) = or_num8.T5 := by kernel_rfl
theorem or_num8.bits5 : waitsOk or_num8.T5.2 or_num8.B5 = true := by kernel_rfl
theorem or_num8 (g : Nat) (A : Option Addr) (c : Nat) (l : List Int) (at_ e s1 s2 s3 : Int) (w : World) (he : e = 0) (hG : getIntSpec l at_ = (s1, s2, s3)) (hs : s3 = 0) (hB : Bytes l) (hl : l.length ≤ 1000000000000) (hr : Kd.C (Kd.int .u8) w A l.length l) (hc : l.length ≤ c) (hb : w.heap[g]? = some (.cells (RdC A l.length c at_ e) 168 (0, 0))) :
  Calls Try.prog 97 #[.pointer (some ⟨g, 0, none⟩), .int .i64 8] w fun x w' => x = .returned (.int .i64 s1) ∧ w'.heap[g]? = some (.cells (RdC A l.length c s2 0) 168 (0, 0)) ∧ w.grownBy w' (some g) := by
 subst he
 have h2 : w.cell? ⟨g, 2, none⟩ = some (.int .i64 0) := (blk_cell hb 2).trans rfl
 have HBB := Aside0.mk hb; have HG := Aside0.mk (show wire_GetInt.f l at_ = some (s1, s2, s3) by rw [wire_GetInt_eq _ _ hB hl, hG]); have HR := Aside0.mk hr; have HC := Aside0.mk hc
 subst hs
 skip
 clear hG hb hr hc hB hl
 go_enter Try.func97, Try.ntmps97
 go_upto_region 5 with (fail)
 clear h2
 refine start_ (n := 16) (S := fun w' => w'.cell? ⟨g, 0, none⟩ = some (.slice A l.length c) ∧ w'.cell? ⟨g, 1, none⟩ = some (.int .i64 at_)) (ds := []) #[false, false, false, false, false, false, false, false, false, false, false, false, false, false, false, false] (by kernel_rfl) rfl rfl ⟨(blk_cell HBB.out 0).trans rfl, (blk_cell HBB.out 1).trans rfl⟩ (fun hHeld => ?_)
 refine with_tabW or_num8.tab5 or_num8.bits5 (fun HT_ HW_ => ?_)
 refine pA 0 (some 16) ?_; refine pA 1 (some 17) ?_; refine pA 2 (some 18) ?_; refine pA 4 (some 20) ?_; refine pA 5 (some 21) ?_; refine pA 6 (some 22) ?_; refine tA 3 (some 19) ?_; refine tA 7 (some 23) ?_
 refine oA 8 (some 24) (fun K hK => ?_)
 refine goes_ Try.func101 (by kernel_rfl) rfl #[.slice A l.length c, .int .i64 at_] (by rfl) rfl rfl (by simp only [List.map_toArray, List.map_cons, List.map_nil]; rfl) ?_
 with_reducible refine (wire_GetInt.calls A c l at_ _ _ _ _ (Kd.C_below HR.out (below_drew (Below.refl _ _))) HC.out HG.out).mono ?_
 rintro e w7 ⟨rfl, hb7⟩
 refine ⟨_, rfl, ?_⟩
 have HB7 := Aside0.mk hb7; have BX7 := Aside0.mk (blk_below (w := w.drew) HBB.out hb7); clear hb7
 refine hK.out _ _ ⟨(blk_cell BX7.out 0).trans rfl, (blk_cell BX7.out 1).trans rfl⟩ (fun hHeld => ?_)
 clear hK K; refine nA 24 ?_; refine pA 9 (some 15) ?_; refine pA 10 (some 25) ?_; refine pA 11 (some 26) ?_; refine pA 12 (some 27) ?_; refine pA 13 (some 5) ?_; refine pA 14 (some 6) ?_; refine pA 15 (some 7) ?_
 refine dA ?_
 clear HT_ HW_ hHeld; have k1 := cE BX7 1; have kf := blk_frozen BX7.out 1
 go_wp2
 go_ret
 exact ⟨rfl, blk_put BX7.out 1 _ rfl, grown_below (below_step (below_drew (Below.refl _ _)) HB7.out) (grown_set BX7.out _ _)⟩
def or_num8x.T5 : Bool × List (List Nat × List Nat) := (true, [([], []), ([0], [0]), ([1], [1]), ([2], [2]), ([], []), ([4], [4]), ([5], [5]), ([6], [6]), ([3, 7], [3, 7]), ([8], [8]), ([9], [9]), ([9], [9]), ([9], [9]), ([10, 8, 0, 1, 2, 3, 4, 5, 6, 7, 8, 9, 10], [10]), ([11, 13, 0, 1, 2, 3, 4, 5, 6, 7, 8, 9, 10, 11, 13], [11]), ([12, 14, 0, 1, 2, 3, 4, 5, 6, 7, 8, 9, 10, 11, 12, 13, 14], [12])])
def or_num8x.B5 : List Nat := [0, 1, 3, 7, 0, 16, 48, 112, 255, 511, 1023, 1023, 1023, 2047, 12287, 32767]
theorem or_num8x.tab5 : rtab .any (opsOf Try.f97 5) = or_num8x.T5 := by kernel_rfl
theorem or_num8x.bits5 : waitsOk or_num8x.T5.2 or_num8x.B5 = true := by kernel_rfl
theorem or_num8x (g : Nat) (A : Option Addr) (c : Nat) (l : List Int) (at_ e s1 s2 s3 : Int) (w : World) (he : e = 0) (hG : getIntSpec l at_ = (s1, s2, s3)) (hs : ¬ s3 = 0) (hB : Bytes l) (hl : l.length ≤ 1000000000000) (hr : Kd.C (Kd.int .u8) w A l.length l) (hc : l.length ≤ c) (hb : w.heap[g]? = some (.cells (RdC A l.length c at_ e) 168 (0, 0))) :
  Calls Try.prog 97 #[.pointer (some ⟨g, 0, none⟩), .int .i64 8] w fun x w' => x = .returned (.int .i64 0) ∧ w'.heap[g]? = some (.cells (RdC A l.length c at_ s3) 168 (0, 0)) ∧ w.grownBy w' (some g) := by
 subst he
 have h2 : w.cell? ⟨g, 2, none⟩ = some (.int .i64 0) := (blk_cell hb 2).trans rfl
 have HBB := Aside0.mk hb; have HG := Aside0.mk (show wire_GetInt.f l at_ = some (s1, s2, s3) by rw [wire_GetInt_eq _ _ hB hl, hG]); have HR := Aside0.mk hr; have HC := Aside0.mk hc
 have b1 : (s3 != 0) = true := bne_iff_ne.mpr hs
 clear hs
 skip
 clear hG hb hr hc hB hl
 go_enter Try.func97, Try.ntmps97
 go_upto_region 5 with (fail)
 clear h2
 refine start_ (n := 16) (S := fun w' => w'.cell? ⟨g, 0, none⟩ = some (.slice A l.length c) ∧ w'.cell? ⟨g, 1, none⟩ = some (.int .i64 at_)) (ds := []) #[false, false, false, false, false, false, false, false, false, false, false, false, false, false, false, false] (by kernel_rfl) rfl rfl ⟨(blk_cell HBB.out 0).trans rfl, (blk_cell HBB.out 1).trans rfl⟩ (fun hHeld => ?_)
 refine with_tabW or_num8x.tab5 or_num8x.bits5 (fun HT_ HW_ => ?_)
 refine pA 0 (some 16) ?_; refine pA 1 (some 17) ?_; refine pA 2 (some 18) ?_; refine pA 4 (some 20) ?_; refine pA 5 (some 21) ?_; refine pA 6 (some 22) ?_; refine tA 3 (some 19) ?_; refine tA 7 (some 23) ?_
 refine oA 8 (some 24) (fun K hK => ?_)
 refine goes_ Try.func101 (by kernel_rfl) rfl #[.slice A l.length c, .int .i64 at_] (by rfl) rfl rfl (by simp only [List.map_toArray, List.map_cons, List.map_nil]; rfl) ?_
 with_reducible refine (wire_GetInt.calls A c l at_ _ _ _ _ (Kd.C_below HR.out (below_drew (Below.refl _ _))) HC.out HG.out).mono ?_
 rintro e w7 ⟨rfl, hb7⟩
 refine ⟨_, rfl, ?_⟩
 have HB7 := Aside0.mk hb7; have BX7 := Aside0.mk (blk_below (w := w.drew) HBB.out hb7); clear hb7
 refine hK.out _ _ ⟨(blk_cell BX7.out 0).trans rfl, (blk_cell BX7.out 1).trans rfl⟩ (fun hHeld => ?_)
 clear hK K; refine nA 24 ?_; refine pA 9 (some 15) ?_; refine pA 10 (some 25) ?_; refine pA 11 (some 26) ?_; refine pA 12 (some 27) ?_; refine pA 13 (some 5) ?_; refine pA 14 (some 6) ?_; refine pA 15 (some 7) ?_
 refine dA ?_
 clear HT_ HW_ hHeld; have k1 := cE BX7 2; have kf := blk_frozen BX7.out 2
 go_wp2
 go_ret
 exact ⟨rfl, blk_put BX7.out 2 _ rfl, grown_below (below_step (below_drew (Below.refl _ _)) HB7.out) (grown_set BX7.out _ _)⟩
def or_numN.T6 : Bool × List (List Nat × List Nat) := (true, [([], []), ([0], [0]), ([1], [1]), ([2], [2]), ([], []), ([4], [4]), ([5], [5]), ([6], [6]), ([], []), ([3, 7, 8], [3, 7, 8]), ([9], [9]), ([10], [10]), ([10], [10]), ([10], [10]), ([11, 9, 0, 1, 2, 3, 4, 5, 6, 7, 8, 9, 10, 11], [11]), ([12, 14, 0, 1, 2, 3, 4, 5, 6, 7, 8, 9, 10, 11, 12, 14], [12]), ([13, 15, 0, 1, 2, 3, 4, 5, 6, 7, 8, 9, 10, 11, 12, 13, 14, 15], [13])])
def or_numN.B6 : List Nat := [0, 1, 3, 7, 0, 16, 48, 112, 0, 511, 1023, 2047, 2047, 2047, 4095, 24575, 65535]
theorem or_numN.tab6 : rtab .any (opsOf Try.f97 6) = or_numN.T6 := by kernel_rfl
theorem or_numN.bits6 : waitsOk or_numN.T6.2 or_numN.B6 = true := by kernel_rfl
theorem or_numN (g : Nat) (A : Option Addr) (c : Nat) (l : List Int) (at_ e sz s1 s2 s3 : Int) (w : World) (he : e = 0) (hsz : ¬ sz = 8) (hG : getSpec l at_ sz = (s1, s2, s3)) (hs : s3 = 0) (hB : Bytes l) (hl : l.length ≤ 1000000000000) (hr : Kd.C (Kd.int .u8) w A l.length l) (hc : l.length ≤ c) (hb : w.heap[g]? = some (.cells (RdC A l.length c at_ e) 168 (0, 0))) :
  Calls Try.prog 97 #[.pointer (some ⟨g, 0, none⟩), .int .i64 sz] w fun x w' => x = .returned (.int .i64 s1) ∧ w'.heap[g]? = some (.cells (RdC A l.length c s2 0) 168 (0, 0)) ∧ w.grownBy w' (some g) := by
 subst he
 have h2 : w.cell? ⟨g, 2, none⟩ = some (.int .i64 0) := (blk_cell hb 2).trans rfl
 have HBB := Aside0.mk hb; have HG := Aside0.mk (show wire_Get.f l at_ sz = some (s1, s2, s3) by rw [wire_Get_eq _ _ _ hB hl, hG]); have HR := Aside0.mk hr; have HC := Aside0.mk hc
 subst hs
 have b2 : (sz == 8) = false := beq_eq_false_iff_ne.mpr hsz
 clear hsz; clear hG hb hr hc hB hl
 go_enter Try.func97, Try.ntmps97
 go_upto_region 6 with (fail)
 clear h2
 refine start_ (n := 17) (S := fun w' => w'.cell? ⟨g, 0, none⟩ = some (.slice A l.length c) ∧ w'.cell? ⟨g, 1, none⟩ = some (.int .i64 at_)) (ds := []) #[false, false, false, false, false, false, false, false, false, false, false, false, false, false, false, false, false] (by kernel_rfl) rfl rfl ⟨(blk_cell HBB.out 0).trans rfl, (blk_cell HBB.out 1).trans rfl⟩ (fun hHeld => ?_)
 refine with_tabW or_numN.tab6 or_numN.bits6 (fun HT_ HW_ => ?_)
 refine pA 0 (some 29) ?_; refine pA 1 (some 30) ?_; refine pA 2 (some 31) ?_; refine pA 4 (some 33) ?_; refine pA 5 (some 34) ?_; refine pA 6 (some 35) ?_; refine pA 8 (some 37) ?_; refine tA 3 (some 32) ?_; refine tA 7 (some 36) ?_
 refine oA 9 (some 38) (fun K hK => ?_)
 refine goes_ Try.func27 (by kernel_rfl) rfl #[.slice A l.length c, .int .i64 at_, .int .i64 sz] (by rfl) rfl rfl (by simp only [List.map_toArray, List.map_cons, List.map_nil]; rfl) ?_
 with_reducible refine (wire_Get.calls A c l at_ sz _ _ _ _ (Kd.C_below HR.out (below_drew (Below.refl _ _))) HC.out HG.out).mono ?_
 rintro e w7 ⟨rfl, hb7⟩
 refine ⟨_, rfl, ?_⟩
 have HB7 := Aside0.mk hb7; have BX7 := Aside0.mk (blk_below (w := w.drew) HBB.out hb7); clear hb7
 refine hK.out _ _ ⟨(blk_cell BX7.out 0).trans rfl, (blk_cell BX7.out 1).trans rfl⟩ (fun hHeld => ?_)
 clear hK K; refine nA 38 ?_; refine pA 10 (some 28) ?_; refine pA 11 (some 39) ?_; refine pA 12 (some 40) ?_; refine pA 13 (some 41) ?_; refine pA 14 (some 5) ?_; refine pA 15 (some 6) ?_; refine pA 16 (some 7) ?_
 refine dA ?_
 clear HT_ HW_ hHeld; have k1 := cE BX7 1; have kf := blk_frozen BX7.out 1
 go_wp2
 go_ret
 exact ⟨rfl, blk_put BX7.out 1 _ rfl, grown_below (below_step (below_drew (Below.refl _ _)) HB7.out) (grown_set BX7.out _ _)⟩
def or_numNx.T6 : Bool × List (List Nat × List Nat) := (true, [([], []), ([0], [0]), ([1], [1]), ([2], [2]), ([], []), ([4], [4]), ([5], [5]), ([6], [6]), ([], []), ([3, 7, 8], [3, 7, 8]), ([9], [9]), ([10], [10]), ([10], [10]), ([10], [10]), ([11, 9, 0, 1, 2, 3, 4, 5, 6, 7, 8, 9, 10, 11], [11]), ([12, 14, 0, 1, 2, 3, 4, 5, 6, 7, 8, 9, 10, 11, 12, 14], [12]), ([13, 15, 0, 1, 2, 3, 4, 5, 6, 7, 8, 9, 10, 11, 12, 13, 14, 15], [13])])
def or_numNx.B6 : List Nat := [0, 1, 3, 7, 0, 16, 48, 112, 0, 511, 1023, 2047, 2047, 2047, 4095, 24575, 65535]
theorem or_numNx.tab6 : rtab .any (opsOf Try.f97 6) = or_numNx.T6 := by kernel_rfl
theorem or_numNx.bits6 : waitsOk or_numNx.T6.2 or_numNx.B6 = true := by kernel_rfl
theorem or_numNx (g : Nat) (A : Option Addr) (c : Nat) (l : List Int) (at_ e sz s1 s2 s3 : Int) (w : World) (he : e = 0) (hsz : ¬ sz = 8) (hG : getSpec l at_ sz = (s1, s2, s3)) (hs : ¬ s3 = 0) (hB : Bytes l) (hl : l.length ≤ 1000000000000) (hr : Kd.C (Kd.int .u8) w A l.length l) (hc : l.length ≤ c) (hb : w.heap[g]? = some (.cells (RdC A l.length c at_ e) 168 (0, 0))) :
  Calls Try.prog 97 #[.pointer (some ⟨g, 0, none⟩), .int .i64 sz] w fun x w' => x = .returned (.int .i64 0) ∧ w'.heap[g]? = some (.cells (RdC A l.length c at_ s3) 168 (0, 0)) ∧ w.grownBy w' (some g) := by
 subst he
 have h2 : w.cell? ⟨g, 2, none⟩ = some (.int .i64 0) := (blk_cell hb 2).trans rfl
 have HBB := Aside0.mk hb; have HG := Aside0.mk (show wire_Get.f l at_ sz = some (s1, s2, s3) by rw [wire_Get_eq _ _ _ hB hl, hG]); have HR := Aside0.mk hr; have HC := Aside0.mk hc
 have b1 : (s3 != 0) = true := bne_iff_ne.mpr hs
 clear hs
 have b2 : (sz == 8) = false := beq_eq_false_iff_ne.mpr hsz
 clear hsz; clear hG hb hr hc hB hl
 go_enter Try.func97, Try.ntmps97
 go_upto_region 6 with (fail)
 clear h2
 refine start_ (n := 17) (S := fun w' => w'.cell? ⟨g, 0, none⟩ = some (.slice A l.length c) ∧ w'.cell? ⟨g, 1, none⟩ = some (.int .i64 at_)) (ds := []) #[false, false, false, false, false, false, false, false, false, false, false, false, false, false, false, false, false] (by kernel_rfl) rfl rfl ⟨(blk_cell HBB.out 0).trans rfl, (blk_cell HBB.out 1).trans rfl⟩ (fun hHeld => ?_)
 refine with_tabW or_numNx.tab6 or_numNx.bits6 (fun HT_ HW_ => ?_)
 refine pA 0 (some 29) ?_; refine pA 1 (some 30) ?_; refine pA 2 (some 31) ?_; refine pA 4 (some 33) ?_; refine pA 5 (some 34) ?_; refine pA 6 (some 35) ?_; refine pA 8 (some 37) ?_; refine tA 3 (some 32) ?_; refine tA 7 (some 36) ?_
 refine oA 9 (some 38) (fun K hK => ?_)
 refine goes_ Try.func27 (by kernel_rfl) rfl #[.slice A l.length c, .int .i64 at_, .int .i64 sz] (by rfl) rfl rfl (by simp only [List.map_toArray, List.map_cons, List.map_nil]; rfl) ?_
 with_reducible refine (wire_Get.calls A c l at_ sz _ _ _ _ (Kd.C_below HR.out (below_drew (Below.refl _ _))) HC.out HG.out).mono ?_
 rintro e w7 ⟨rfl, hb7⟩
 refine ⟨_, rfl, ?_⟩
 have HB7 := Aside0.mk hb7; have BX7 := Aside0.mk (blk_below (w := w.drew) HBB.out hb7); clear hb7
 refine hK.out _ _ ⟨(blk_cell BX7.out 0).trans rfl, (blk_cell BX7.out 1).trans rfl⟩ (fun hHeld => ?_)
 clear hK K; refine nA 38 ?_; refine pA 10 (some 28) ?_; refine pA 11 (some 39) ?_; refine pA 12 (some 40) ?_; refine pA 13 (some 41) ?_; refine pA 14 (some 5) ?_; refine pA 15 (some 6) ?_; refine pA 16 (some 7) ?_
 refine dA ?_
 clear HT_ HW_ hHeld; have k1 := cE BX7 2; have kf := blk_frozen BX7.out 2
 go_wp2
 go_ret
 exact ⟨rfl, blk_put BX7.out 2 _ rfl, grown_below (below_step (below_drew (Below.refl _ _)) HB7.out) (grown_set BX7.out _ _)⟩
theorem or_number (g : Nat) (A : Option Addr) (c : Nat) (l : List Int) (at_ e sz v at2 e2 : Int) (w : World) (hN : rdN l sz at_ e = (v, at2, e2)) (hB : Bytes l) (hl : l.length ≤ 1000000000000) (hr : Kd.C (Kd.int .u8) w A l.length l) (hc : l.length ≤ c) (hb : w.heap[g]? = some (.cells (RdC A l.length c at_ e) 168 (0, 0))) :
  Calls Try.prog 97 #[.pointer (some ⟨g, 0, none⟩), .int .i64 sz] w fun x w' => x = .returned (.int .i64 v) ∧ w'.heap[g]? = some (.cells (RdC A l.length c at2 e2) 168 (0, 0)) ∧ w.grownBy w' (some g) := by
 by_cases he : e = 0
 ·unfold rdN at hN
  by_cases h8 : sz = 8
  ·subst h8
   rw [if_pos rfl] at hN
   obtain ⟨s1, s2, s3, hG⟩ : ∃ s1 s2 s3, getIntSpec l at_ = (s1, s2, s3) := ⟨_, _, _, rfl⟩
   unfold rd8 rdStep at hN
   rw [if_pos he, hG] at hN
   by_cases hs : s3 = 0
   ·rw [if_pos hs] at hN
    simp only [Prod.mk.injEq] at hN
    obtain ⟨rfl, rfl, rfl⟩ := hN
    exact or_num8 g A c l at_ e s1 s2 s3 w he hG hs hB hl hr hc hb
   ·rw [if_neg hs] at hN
    simp only [Prod.mk.injEq] at hN
    obtain ⟨rfl, rfl, rfl⟩ := hN
    exact or_num8x g A c l at_ e s1 s2 s3 w he hG hs hB hl hr hc hb
  ·rw [if_neg h8] at hN
   obtain ⟨s1, s2, s3, hG⟩ : ∃ s1 s2 s3, getSpec l at_ sz = (s1, s2, s3) := ⟨_, _, _, rfl⟩
   unfold rd1 rdStep at hN
   rw [if_pos he, hG] at hN
   by_cases hs : s3 = 0
   ·rw [if_pos hs] at hN
    simp only [Prod.mk.injEq] at hN
    obtain ⟨rfl, rfl, rfl⟩ := hN
    exact or_numN g A c l at_ e sz s1 s2 s3 w he h8 hG hs hB hl hr hc hb
   ·rw [if_neg hs] at hN
    simp only [Prod.mk.injEq] at hN
    obtain ⟨rfl, rfl, rfl⟩ := hN
    exact or_numNx g A c l at_ e sz s1 s2 s3 w he h8 hG hs hB hl hr hc hb
 ·have hz : (0, at_, e) = (v, at2, e2) := by
   rw [← hN]
   simp only [rdN, rd8, rd1, rdStep, if_neg he, ite_self]
  simp only [Prod.mk.injEq] at hz
  obtain ⟨rfl, rfl, rfl⟩ := hz
  refine (or_numE g A l.length c at_ e sz w he hb).mono ?_
  rintro x w' ⟨rfl, rfl⟩
  exact ⟨rfl, hb, rfl, rfl, rfl, Nat.le_refl _, fun _ _ _ => rfl⟩
end Go.Proofs.Ytpgmmnlkiogamaa.P
namespace Go.Proofs.Ytpgmmnlkiogamaa.P
open Go.RowKit YtpgmmnlkiogamaaW.PrintWords YtpgmmnlkiogamaaW.PrintLast YtpgmmnlkiogamaaW.PrintMore
theorem wire_Int_eq (v : Int) : wire_Int.f v = some (intSpec v) := by
 unfold wire_Int.f wire_bytes.f intSpec
 rw [wrap_u64, if_pos (by omega)]
 rfl
theorem intSpec_length (v : Int) : (intSpec v).length = 8 := be_length _ _
theorem ob_no (a0 a1 : Int) (a2 : Bool) (a3 a4 a5 a6 a7 a8 a9 a10 a11 c : Int) (h : Ev (fun k => object_Check.f k a0 a1 a2 a3 a4 a5 a6 a7 a8 a9 a10 a11) c) (hc : c ≠ 0) :
  Ev (fun k => object_Bytes.f k a0 a1 a2 a3 a4 a5 a6 a7 a8 a9 a10 a11) ([], c) := by
 unfold object_Bytes.f
 refine Ev.bind h ?_
 simp only [if_neg hc]
 exact Ev.now _
theorem os_ev (a0 a1 : Int) (a2 : Bool) (a3 a4 a5 a6 a7 a8 a9 a10 a11 : Int) (out : List Int × Int) (h : Ev (fun k => object_Bytes.f k a0 a1 a2 a3 a4 a5 a6 a7 a8 a9 a10 a11) out) :
  Ev (fun k => object_Size.f k a0 a1 a2 a3 a4 a5 a6 a7 a8 a9 a10 a11) (out.1.length : Int) := by
 unfold object_Size.f
 exact Ev.bind h (Ev.now _)
def RH (n : Bool) (a b c d e : Int) : Prop := (0 ≤ e ∧ e < 64) ∧ ((n = true ∧ a = 0 ∧ b = 0 ∧ c = 0 ∧ d = 0) ∨ (n = false ∧ 0 ≤ a ∧ a ≤ 4611686018427387903 ∧ 0 ≤ b ∧ b < 64 ∧ 0 ≤ c ∧ c ≤ 1 ∧ -1099511627776 ≤ d ∧ d ≤ 1099511627776))
instance (n : Bool) (a b c d e : Int) : Decidable (RH n a b c d e) := by unfold RH; infer_instance
theorem hj_eq (k : Nat) (n x : Bool) (a b c d e : Int) : height_Check.j0 (k + 1) x n a b c d e = some (if x = true ∧ ((n = true ∧ a = 0 ∧ b = 0 ∧ c = 0 ∧ d = 0) ∨ (n = false ∧ 0 ≤ a ∧ a ≤ 4611686018427387903 ∧ 0 ≤ b ∧ b < 64 ∧ 0 ≤ c ∧ c ≤ 1 ∧ -1099511627776 ≤ d ∧ d ≤ 1099511627776)) then 0 else 1) := by
 simp only [height_Check.j0, height_Null.f, Option.bind_some]
 cases n <;> cases x <;> simp only [Bool.true_and, beq_self_eq_true, Bool.and_true, Bool.and_eq_true, beq_iff_eq, if_true, Bool.false_eq_true, if_false, true_and, false_and, or_false, false_or, Bool.true_eq_false, reduceCtorEq]
 ·repeat' split
  all_goals first
   | rfl
   | (exfalso; omega)
 ·by_cases h : a = 0 ∧ b = 0 ∧ c = 0 ∧ d = 0
  ·rw [if_pos h, if_pos h]
  ·rw [if_neg h, if_neg h]
theorem hc_eq (n : Bool) (a b c d e : Int) : Ev (fun k => height_Check.f k n a b c d e) (if RH n a b c d e then 0 else 1) := by
 unfold height_Check.f
 refine Ev.from 1 fun k => ?_
 rw [hj_eq, hj_eq]
 unfold RH
 by_cases h : e ≥ 0
 ·rw [if_pos h]
  congr 1
  have h0 : 0 ≤ e := h
  simp only [decide_eq_true_eq, h0, true_and]
 ·rw [if_neg h]
  have : ¬ 0 ≤ e := h
  simp only [this, false_and, Bool.false_eq_true]
theorem ha_eq (a b c d e : Int) : ∃ t : Bool × Int × Int × Int × Int × Int × Int, Ev (fun k => height_At.f k a b c d e) t ∧ t.2.2.2.2.2.2 = (if RH false a b c d e then 0 else 1) := by
 unfold height_At.f
 by_cases h : RH false a b c d e
 ·have := hc_eq false a b c d e
  rw [if_pos h] at this
  rw [if_pos h]
  exact ⟨(false, a, b, c, d, e, 0), Ev.bind this (by simp only [if_true]; exact Ev.now _), rfl⟩
 ·have := hc_eq false a b c d e
  rw [if_neg h] at this
  rw [if_neg h]
  exact ⟨(false, 0, 0, 0, 0, 0, 1), Ev.bind this (by simp only [if_neg (show ¬ (1 : Int) = 0 by decide)]; exact Ev.now _), rfl⟩
theorem ev_eq {α : Type} {g : Nat → Option α} {a b : α} (h : Ev g a) (e : a = b) : Ev g b := e ▸ h
def RO (a0 a1 : Int) (a2 : Bool) (a3 a4 a5 a6 a7 a8 a9 a10 a11 : Int) : Prop := (0 ≤ a1 ∧ a1 < 64) ∧
  ((a0 = 1 ∧ (a8 = 0 ∧ a9 = 0 ∧ a10 = 0) ∧ (a2 = false ∧ a3 = 0 ∧ a4 = 0 ∧ a5 = 0 ∧ a6 = 0 ∧ a7 = 0) ∧ a11 = 0) ∨
   (a0 = 2 ∧ (a8 = 0 ∧ a9 = 0 ∧ a10 = 0) ∧ a11 = 0 ∧ RH a2 a3 a4 a5 a6 a7) ∨
   (a0 = 3 ∧ (a2 = false ∧ a3 = 0 ∧ a4 = 0 ∧ a5 = 0 ∧ a6 = 0 ∧ a7 = 0) ∧ a11 = 0 ∧ RH false a8 a9 a10 0 0) ∨
   (a0 = 4 ∧ (a8 = 0 ∧ a9 = 0 ∧ a10 = 0) ∧ 0 ≤ a11 ∧ a11 ≤ 65535 ∧ RH a2 a3 a4 a5 a6 a7 ∧ a2 = false))
instance (a0 a1 : Int) (a2 : Bool) (a3 a4 a5 a6 a7 a8 a9 a10 a11 : Int) : Decidable (RO a0 a1 a2 a3 a4 a5 a6 a7 a8 a9 a10 a11) := by unfold RO; infer_instance
theorem oj1_eq (x4 : Bool) (a0 a1 : Int) (a2 : Bool) (a3 a4 a5 a6 a7 a8 a9 a10 a11 : Int) (b2 : Bool) (b3 b4 b5 b6 b7 b8 b9 b10 b11 : Int) :
  Ev (fun k => object_Check.j1 k x4 a0 a1 a2 a3 a4 a5 a6 a7 a8 a9 a10 a11 0 0 b2 b3 b4 b5 b6 b7 b8 b9 b10 b11) (if x4 = true ∧ RH a2 a3 a4 a5 a6 a7 ∧ (b8 = 0 ∧ b9 = 0 ∧ b10 = 0) ∧ b11 = 0 then 0 else 1) := by
 refine Ev.step (f := fun k => _) (fun k => by simp only [object_Check.j1]; rfl) ?_
 cases x4 with
 | false => simp only [Bool.false_eq_true, if_false, false_and]; exact Ev.now _
 | true =>
  simp only [if_true, true_and]
  refine Ev.bind (hc_eq a2 a3 a4 a5 a6 a7) ?_
  by_cases h : RH a2 a3 a4 a5 a6 a7
  ·simp only [if_pos h, if_true, h, true_and]
   by_cases g : (b8 = 0 ∧ b9 = 0 ∧ b10 = 0) ∧ b11 = 0
   ·obtain ⟨⟨rfl, rfl, rfl⟩, rfl⟩ := g
    simp only [and_self, if_true]
    exact Ev.now _
   ·rw [if_neg g]
    have : (!((0 : Int) == 0) || (!((0 : Int) == 0) || ((!(b8 == 0) || (!(b9 == 0) || (!(b10 == 0)))) || (!(b11 == 0))))) = true := by
     rw [← Bool.not_eq_false]
     intro hf
     simp only [Bool.or_eq_false_iff, Bool.not_eq_false', beq_iff_eq] at hf
     exact g ⟨⟨hf.2.2.1.1, hf.2.2.1.2.1, hf.2.2.1.2.2⟩, hf.2.2.2⟩
    simp only [if_pos this]
    exact Ev.now _
  ·simp only [if_neg h, h, false_and, if_false, show ¬ (1 : Int) = 0 by decide]
   exact Ev.now _
theorem oc_eq (a0 a1 : Int) (a2 : Bool) (a3 a4 a5 a6 a7 a8 a9 a10 a11 : Int) : Ev (fun k => object_Check.f k a0 a1 a2 a3 a4 a5 a6 a7 a8 a9 a10 a11) (if RO a0 a1 a2 a3 a4 a5 a6 a7 a8 a9 a10 a11 then 0 else 1) := by
  have hj : ∀ x : Bool, Ev (fun k => object_Check.j0 k x a0 a1 a2 a3 a4 a5 a6 a7 a8 a9 a10 a11 0 0 a2 a3 a4 a5 a6 a7 a8 a9 a10 a11) (if x = true ∧
    ((a0 = 1 ∧ (a8 = 0 ∧ a9 = 0 ∧ a10 = 0) ∧ (a2 = false ∧ a3 = 0 ∧ a4 = 0 ∧ a5 = 0 ∧ a6 = 0 ∧ a7 = 0) ∧ a11 = 0) ∨
     (a0 = 2 ∧ (a8 = 0 ∧ a9 = 0 ∧ a10 = 0) ∧ a11 = 0 ∧ RH a2 a3 a4 a5 a6 a7) ∨
     (a0 = 3 ∧ (a2 = false ∧ a3 = 0 ∧ a4 = 0 ∧ a5 = 0 ∧ a6 = 0 ∧ a7 = 0) ∧ a11 = 0 ∧ RH false a8 a9 a10 0 0) ∨
     (a0 = 4 ∧ (a8 = 0 ∧ a9 = 0 ∧ a10 = 0) ∧ 0 ≤ a11 ∧ a11 ≤ 65535 ∧ RH a2 a3 a4 a5 a6 a7 ∧ a2 = false)) then 0 else 1) := by
    intro x
    refine Ev.step (f := fun k => _) (fun k => by simp only [object_Check.j0]; rfl) ?_
    by_cases h1 : a0 = 1
    · subst h1
      simp only [if_true, show ¬ (1 : Int) = 2 by decide, show ¬ (1 : Int) = 3 by decide, show ¬ (1 : Int) = 4 by decide, false_and, or_false, true_and]
      cases x with
      | false => simp only [Bool.false_eq_true, if_false, false_and]; exact Ev.now _
      | true =>
        simp only [if_true, true_and]
        by_cases g : (a8 = 0 ∧ a9 = 0 ∧ a10 = 0) ∧ (a2 = false ∧ a3 = 0 ∧ a4 = 0 ∧ a5 = 0 ∧ a6 = 0 ∧ a7 = 0) ∧ a11 = 0
        · rw [if_pos g]
          obtain ⟨⟨rfl, rfl, rfl⟩, ⟨rfl, rfl, rfl, rfl, rfl, rfl⟩, rfl⟩ := g
          exact Ev.now _
        · rw [if_neg g]
          have : (!((0 : Int) == 0) || (!((0 : Int) == 0) || ((a2 || (!(a3 == 0) || (!(a4 == 0) || (!(a5 == 0) || (!(a6 == 0) || (!(a7 == 0))))))) || ((!(a8 == 0) || (!(a9 == 0) || (!(a10 == 0)))) || (!(a11 == 0)))))) = true := by
            rw [← Bool.not_eq_false]
            intro hf
            simp only [Bool.or_eq_false_iff, Bool.not_eq_false', beq_iff_eq] at hf
            obtain ⟨_, _, ⟨u2, u3, u4, u5, u6, u7⟩, ⟨u8, u9, u10⟩, u11⟩ := hf
            exact g ⟨⟨u8, u9, u10⟩, ⟨u2, u3, u4, u5, u6, u7⟩, u11⟩
          simp only [if_pos this]
          exact Ev.now _
    by_cases h4 : a0 = 4
    · subst h4
      simp only [if_true, if_neg h1, show ¬ (4 : Int) = 1 by decide, show ¬ (4 : Int) = 2 by decide, show ¬ (4 : Int) = 3 by decide, false_and, false_or, true_and]
      cases x with
      | false =>
        simp only [Bool.false_eq_true, if_false, false_and]
        refine ev_eq (oj1_eq _ _ _ _ _ _ _ _ _ _ _ _ _ _ _ _ _ _ _ _ _ _ _) ?_
        simp only [Bool.false_eq_true, false_and, if_false]
      | true =>
        simp only [if_true, true_and]
        cases a2 with
        | true =>
          simp only [if_true, Bool.true_eq_false, and_false, if_false]
          refine ev_eq (oj1_eq _ _ _ _ _ _ _ _ _ _ _ _ _ _ _ _ _ _ _ _ _ _ _) ?_
          simp only [Bool.false_eq_true, false_and, if_false]
        | false =>
          simp only [Bool.false_eq_true, if_false, and_true]
          by_cases g : a11 ≥ 0
          · simp only [if_pos g]
            refine ev_eq (oj1_eq _ _ _ _ _ _ _ _ _ _ _ _ _ _ _ _ _ _ _ _ _ _ _) ?_
            have g0 : 0 ≤ a11 := g
            simp only [decide_eq_true_eq, g0, true_and, and_true]
            congr 1
            apply propext
            constructor
            · rintro ⟨u, v, w⟩; exact ⟨w, u, v⟩
            · rintro ⟨w, u, v⟩; exact ⟨u, v, w⟩
          · simp only [if_neg g]
            refine ev_eq (oj1_eq _ _ _ _ _ _ _ _ _ _ _ _ _ _ _ _ _ _ _ _ _ _ _) ?_
            have g' : ¬ 0 ≤ a11 := g
            simp only [g', Bool.false_eq_true, false_and, and_false, if_false]
    by_cases h2 : a0 = 2
    · subst h2
      simp only [if_neg h1, if_neg h4, if_true, show ¬ (2 : Int) = 1 by decide, show ¬ (2 : Int) = 4 by decide, show ¬ (2 : Int) = 3 by decide, false_and, false_or, or_false, true_and]
      refine ev_eq (oj1_eq _ _ _ _ _ _ _ _ _ _ _ _ _ _ _ _ _ _ _ _ _ _ _) ?_
      congr 1
      apply propext
      constructor
      · rintro ⟨u, v, w, z⟩; exact ⟨u, w, z, v⟩
      · rintro ⟨u, w, z, v⟩; exact ⟨u, v, w, z⟩
    by_cases h3 : a0 = 3
    · subst h3
      simp only [if_neg h1, if_neg h4, if_neg h2, if_true, show ¬ (3 : Int) = 1 by decide, show ¬ (3 : Int) = 4 by decide, show ¬ (3 : Int) = 2 by decide, false_and, false_or, or_false, true_and]
      obtain ⟨t, ht, he⟩ := ha_eq a8 a9 a10 0 0
      refine Ev.bind ht ?_
      rw [he]
      cases x with
      | false => simp only [Bool.false_eq_true, if_false, false_and]; exact Ev.now _
      | true =>
        simp only [if_true, true_and]
        by_cases h : RH false a8 a9 a10 0 0
        · simp only [if_pos h, h, if_true, and_true]
          by_cases g : (a2 = false ∧ a3 = 0 ∧ a4 = 0 ∧ a5 = 0 ∧ a6 = 0 ∧ a7 = 0) ∧ a11 = 0
          · rw [if_pos g]
            obtain ⟨⟨rfl, rfl, rfl, rfl, rfl, rfl⟩, rfl⟩ := g
            exact Ev.now _
          · rw [if_neg g]
            have : (!((0 : Int) == 0) || (!((0 : Int) == 0) || ((a2 || (!(a3 == 0) || (!(a4 == 0) || (!(a5 == 0) || (!(a6 == 0) || (!(a7 == 0))))))) || (!(a11 == 0))))) = true := by
              rw [← Bool.not_eq_false]
              intro hf
              simp only [Bool.or_eq_false_iff, Bool.not_eq_false', beq_iff_eq] at hf
              obtain ⟨_, _, ⟨u2, u3, u4, u5, u6, u7⟩, u11⟩ := hf
              exact g ⟨⟨u2, u3, u4, u5, u6, u7⟩, u11⟩
            simp only [if_pos this]
            exact Ev.now _
        · simp only [if_neg h, h, show ¬ (1 : Int) = 0 by decide, if_false, and_false]
          exact Ev.now _
    · simp only [if_neg h1, if_neg h4, if_neg h2, if_neg h3, h1, h2, h3, h4, false_and, or_false, and_false, if_false]
      exact Ev.now _
  unfold object_Check.f RO
  by_cases h : a1 ≥ 0
  · simp only [if_pos h]
    refine ev_eq (hj _) ?_
    have g0 : 0 ≤ a1 := h
    simp only [decide_eq_true_eq, g0, true_and]
  · simp only [if_neg h]
    refine ev_eq (hj _) ?_
    have h' : ¬ 0 ≤ a1 := h
    simp only [h', Bool.false_eq_true, false_and, and_false, if_false]
end Go.Proofs.Ytpgmmnlkiogamaa.P
namespace Go.Proofs.Ytpgmmnlkiogamaa.P
open Go.RowKit YtpgmmnlkiogamaaW.PrintWords YtpgmmnlkiogamaaW.PrintLast YtpgmmnlkiogamaaW.PrintMore
attribute [local go_sem] max2_int min2_int max_two min_two max_three min_three max_four min_four
structure OpSt (w0 w : World) (A : Option Addr) (n c g4 g8 gr : Nat) (at_ e : Int) (cs : Array Value) : Prop where
 b4 : w.heap[g4]? = some (.cells #[.int .i64 0, .int .i64 0, .bool false, .int .i64 0, .int .i64 0, .int .i64 0, .int .i64 0, .int .i64 0, .int .i64 0, .int .i64 0, .int .i64 0, .int .i64 0] 62 (0, 0))
 b8 : w.heap[g8]? = some (.cells cs 62 (0, 0))
 br : w.heap[gr]? = some (.cells (RdC A n c at_ e) 168 (0, 0))
 bl : Below w0.heap.size w0 w
 n4 : w0.heap.size ≤ g4
 n8 : w0.heap.size ≤ g8
 nr : w0.heap.size ≤ gr
 d48 : g4 ≠ g8
theorem OpSt.step {w0 w w' : World} {A : Option Addr} {n c g4 g8 gr : Nat} {at_ e : Int} {cs : Array Value} (h : OpSt w0 w A n c g4 g8 gr at_ e cs) {at2 e2 : Int} (hb : w'.heap[gr]? = some (.cells (RdC A n c at2 e2) 168 (0, 0))) (hg : w.grownBy w' (some gr)) : OpSt w0 w' A n c g4 g8 gr at2 e2 cs :=
 ⟨blk_grown h.b4 hg (fun e => blk_ne h.b4 h.br (by decide) (Option.some.inj e)), blk_grown h.b8 hg (fun e => blk_ne h.b8 h.br (by decide) (Option.some.inj e)), hb, pw_below_grown h.bl (some gr) (below_size h.bl) hg (fun k e => by cases e; exact h.nr), h.n4, h.n8, h.nr, h.d48⟩
theorem OpSt.below {w0 w w' : World} {A : Option Addr} {n c g4 g8 gr : Nat} {at_ e : Int} {cs : Array Value} (h : OpSt w0 w A n c g4 g8 gr at_ e cs) (hb : Below w.heap.size w w') : OpSt w0 w' A n c g4 g8 gr at_ e cs :=
 ⟨blk_below h.b4 hb, blk_below h.b8 hb, blk_below h.br hb, below_step h.bl hb, h.n4, h.n8, h.nr, h.d48⟩
theorem OpSt.put {w0 w : World} {A : Option Addr} {n c g4 g8 gr : Nat} {at_ e : Int} {cs cs2 : Array Value} (h : OpSt w0 w A n c g4 g8 gr at_ e cs) (i : Nat) (u : Value) (hs : cs.setIfInBounds i u = cs2) : OpSt w0 (w.setCell ⟨g8, i, none⟩ u) A n c g4 g8 gr at_ e cs2 :=
 ⟨blk_far h.b4 h.d48 _, blk_put h.b8 i _ hs, blk_far h.br (blk_ne h.br h.b8 (by decide)) _, below_set h.bl h.n8, h.n4, h.n8, h.nr, h.d48⟩
theorem OpSt.put12 {w0 w : World} {A : Option Addr} {n c g4 g8 gr : Nat} {at_ e : Int} {a0 a1 a2 a3 a4 a5 a6 a7 a8 a9 a10 a11 : Value} (h : OpSt w0 w A n c g4 g8 gr at_ e #[a0, a1, a2, a3, a4, a5, a6, a7, a8, a9, a10, a11]) (v0 v1 v2 v3 v4 v5 v6 v7 v8 v9 v10 v11 : Value) : OpSt w0 ((((((((((((w.setCell ⟨g8, 0, none⟩ v0).setCell ⟨g8, 1, none⟩ v1).setCell ⟨g8, 2, none⟩ v2).setCell ⟨g8, 3, none⟩ v3).setCell ⟨g8, 4, none⟩ v4).setCell ⟨g8, 5, none⟩ v5).setCell ⟨g8, 6, none⟩ v6).setCell ⟨g8, 7, none⟩ v7).setCell ⟨g8, 8, none⟩ v8).setCell ⟨g8, 9, none⟩ v9).setCell ⟨g8, 10, none⟩ v10).setCell ⟨g8, 11, none⟩ v11) A n c g4 g8 gr at_ e #[v0, v1, v2, v3, v4, v5, v6, v7, v8, v9, v10, v11] :=
 (OpSt.put (OpSt.put (OpSt.put (OpSt.put (OpSt.put (OpSt.put (OpSt.put (OpSt.put (OpSt.put (OpSt.put (OpSt.put (OpSt.put h 0 v0 (cs2 := #[v0, a1, a2, a3, a4, a5, a6, a7, a8, a9, a10, a11]) rfl) 1 v1 (cs2 := #[v0, v1, a2, a3, a4, a5, a6, a7, a8, a9, a10, a11]) rfl) 2 v2 (cs2 := #[v0, v1, v2, a3, a4, a5, a6, a7, a8, a9, a10, a11]) rfl) 3 v3 (cs2 := #[v0, v1, v2, v3, a4, a5, a6, a7, a8, a9, a10, a11]) rfl) 4 v4 (cs2 := #[v0, v1, v2, v3, v4, a5, a6, a7, a8, a9, a10, a11]) rfl) 5 v5 (cs2 := #[v0, v1, v2, v3, v4, v5, a6, a7, a8, a9, a10, a11]) rfl) 6 v6 (cs2 := #[v0, v1, v2, v3, v4, v5, v6, a7, a8, a9, a10, a11]) rfl) 7 v7 (cs2 := #[v0, v1, v2, v3, v4, v5, v6, v7, a8, a9, a10, a11]) rfl) 8 v8 (cs2 := #[v0, v1, v2, v3, v4, v5, v6, v7, v8, a9, a10, a11]) rfl) 9 v9 (cs2 := #[v0, v1, v2, v3, v4, v5, v6, v7, v8, v9, a10, a11]) rfl) 10 v10 (cs2 := #[v0, v1, v2, v3, v4, v5, v6, v7, v8, v9, v10, a11]) rfl) 11 v11 (cs2 := #[v0, v1, v2, v3, v4, v5, v6, v7, v8, v9, v10, v11]) rfl)
theorem blk_put12 {w : World} {g : Nat} {t : TypeId} {a0 a1 a2 a3 a4 a5 a6 a7 a8 a9 a10 a11 : Value} (h : w.heap[g]? = some (.cells #[a0, a1, a2, a3, a4, a5, a6, a7, a8, a9, a10, a11] t (0, 0))) (v0 v1 v2 v3 v4 v5 v6 v7 v8 v9 v10 v11 : Value) : ((((((((((((w.setCell ⟨g, 0, none⟩ v0).setCell ⟨g, 1, none⟩ v1).setCell ⟨g, 2, none⟩ v2).setCell ⟨g, 3, none⟩ v3).setCell ⟨g, 4, none⟩ v4).setCell ⟨g, 5, none⟩ v5).setCell ⟨g, 6, none⟩ v6).setCell ⟨g, 7, none⟩ v7).setCell ⟨g, 8, none⟩ v8).setCell ⟨g, 9, none⟩ v9).setCell ⟨g, 10, none⟩ v10).setCell ⟨g, 11, none⟩ v11).heap[g]? = some (.cells #[v0, v1, v2, v3, v4, v5, v6, v7, v8, v9, v10, v11] t (0, 0)) :=
 (blk_put (blk_put (blk_put (blk_put (blk_put (blk_put (blk_put (blk_put (blk_put (blk_put (blk_put (blk_put h 0 v0 (cs' := #[v0, a1, a2, a3, a4, a5, a6, a7, a8, a9, a10, a11]) rfl) 1 v1 (cs' := #[v0, v1, a2, a3, a4, a5, a6, a7, a8, a9, a10, a11]) rfl) 2 v2 (cs' := #[v0, v1, v2, a3, a4, a5, a6, a7, a8, a9, a10, a11]) rfl) 3 v3 (cs' := #[v0, v1, v2, v3, a4, a5, a6, a7, a8, a9, a10, a11]) rfl) 4 v4 (cs' := #[v0, v1, v2, v3, v4, a5, a6, a7, a8, a9, a10, a11]) rfl) 5 v5 (cs' := #[v0, v1, v2, v3, v4, v5, a6, a7, a8, a9, a10, a11]) rfl) 6 v6 (cs' := #[v0, v1, v2, v3, v4, v5, v6, a7, a8, a9, a10, a11]) rfl) 7 v7 (cs' := #[v0, v1, v2, v3, v4, v5, v6, v7, a8, a9, a10, a11]) rfl) 8 v8 (cs' := #[v0, v1, v2, v3, v4, v5, v6, v7, v8, a9, a10, a11]) rfl) 9 v9 (cs' := #[v0, v1, v2, v3, v4, v5, v6, v7, v8, v9, a10, a11]) rfl) 10 v10 (cs' := #[v0, v1, v2, v3, v4, v5, v6, v7, v8, v9, v10, a11]) rfl) 11 v11 (cs' := #[v0, v1, v2, v3, v4, v5, v6, v7, v8, v9, v10, v11]) rfl)
theorem below_set12 {g : Nat} {w0 w : World} {v0 v1 v2 v3 v4 v5 v6 v7 v8 v9 v10 v11 : Value} (h : Below w0.heap.size w0 w) (hg : w0.heap.size ≤ g) : Below w0.heap.size w0 ((((((((((((w.setCell ⟨g, 0, none⟩ v0).setCell ⟨g, 1, none⟩ v1).setCell ⟨g, 2, none⟩ v2).setCell ⟨g, 3, none⟩ v3).setCell ⟨g, 4, none⟩ v4).setCell ⟨g, 5, none⟩ v5).setCell ⟨g, 6, none⟩ v6).setCell ⟨g, 7, none⟩ v7).setCell ⟨g, 8, none⟩ v8).setCell ⟨g, 9, none⟩ v9).setCell ⟨g, 10, none⟩ v10).setCell ⟨g, 11, none⟩ v11) :=
 (below_set (below_set (below_set (below_set (below_set (below_set (below_set (below_set (below_set (below_set (below_set (below_set h hg) hg) hg) hg) hg) hg) hg) hg) hg) hg) hg) hg)
theorem OpSt.drew {w0 w : World} {A : Option Addr} {n c g4 g8 gr : Nat} {at_ e : Int} {cs : Array Value} (h : OpSt w0 w A n c g4 g8 gr at_ e cs) : OpSt w0 w.drew A n c g4 g8 gr at_ e cs :=
 ⟨h.b4, h.b8, h.br, below_drew h.bl, h.n4, h.n8, h.nr, h.d48⟩
def object_Parse.T20 : Bool × List (List Nat × List Nat) := (true, [([], []), ([], []), ([1], [1]), ([2], [2]), ([3], [3]), ([0, 0], [0]), ([4, 5, 0, 1, 2, 3, 4, 5], [4]), ([6, 0, 1, 2, 3, 4, 5, 6], [])])
def object_Parse.B20 : List Nat := [0, 0, 2, 6, 14, 1, 63, 127]
theorem object_Parse.tab20 : rtab .any (opsOf Try.f87 20) = object_Parse.T20 := by kernel_rfl
theorem object_Parse.bits20 : waitsOk object_Parse.T20.2 object_Parse.B20 = true := by kernel_rfl
theorem op_q_yes (A0 : Option Addr) (c0 : Nat) (l0 : List Int) (a1 : Int) (w : World) (k p1 e1 d p2 e2 : Int) (HL : l0.length ≤ 1000000000000) (HY : Bytes l0) (HR0 : Kd.C (Kd.int .u8) w A0 l0.length l0) (HC0 : l0.length ≤ c0) (HG1 : rdN l0 1 a1 0 = (k, p1, e1)) (he : e1 = 0) (hk : k = 1) (HG2 : rdN l0 1 p1 0 = (d, p2, e2)) (hf : e2 = 0) (hr : RO k d false 0 0 0 0 0 0 0 0 0) :
  Calls Try.prog 87 #[.slice A0 l0.length c0, .int .i64 a1] w fun e w' => e = .returned (.tuple #[.agg #[.int .i64 k, .int .i64 d, .bool false, .int .i64 0, .int .i64 0, .int .i64 0, .int .i64 0, .int .i64 0, .int .i64 0, .int .i64 0, .int .i64 0, .int .i64 0], .int .i64 p2, .int .i64 0]) ∧ Below w.heap.size w w' := by
 have hu27 := Try.underlying62; have hu25 := Try.underlying60; have hu23 := Try.underlying58; have hu51 := Try.underlying168; replace HL := Aside0.mk HL; replace HY := Aside0.mk HY; replace HR0 := Aside0.mk HR0; replace HC0 := Aside0.mk HC0; replace HG1 := Aside0.mk HG1; replace HG2 := Aside0.mk HG2
 subst he
 subst hk
 subst hf
 obtain ⟨K, hK⟩ := (oc_eq 1 d false 0 0 0 0 0 0 0 0 0).rounds; rw [if_pos hr] at hK; have HK := Aside0.mk hK; clear hK hr
 go_enter Try.func87, Try.ntmps87
 go_upto_region 3 with (first
  | ((with_reducible refine gate_dst (N := 4) rfl ?_); refine bx #[.int .i64 0, .int .i64 0, .bool false, .int .i64 0, .int .i64 0, .int .i64 0, .int .i64 0, .int .i64 0, .int .i64 0, .int .i64 0, .int .i64 0, .int .i64 0] 62 ?_; intro g4 hg w4 hbox hb; have HB4 := Aside0.mk hb; have G4 := Aside0.mk (Nat.le_of_eq hg.symm); have B4 := Aside0.mk hbox; clear hb hbox hg)
  | ((with_reducible refine gate_dst (N := 12) rfl ?_); refine bx (RdC A0 l0.length c0 a1 0) 168 ?_; intro gr hg w5 hbox hb; have HB5 := Aside0.mk (below_step HB4.out hb); have GR := Aside0.mk (show w.heap.size ≤ gr by rw [hg]; exact below_size HB4.out); have B45 := Aside0.mk (blk_below B4.out hb); have BR := Aside0.mk hbox; clear hb hbox hg HB4 B4)
  | ((with_reducible refine gate_dst (N := 14) rfl ?_); refine gL (some 14) Try.func97 #[.pointer (some ⟨gr, 0, none⟩), .int .i64 1] ?_; (with_reducible refine (or_number gr A0 c0 l0 a1 0 1 _ _ _ _ HG1.out HY.out HL.out (Kd.C_below HR0.out HB5.out) HC0.out BR.out).mono ?_); rintro x_ w14 ⟨rfl, hbx, hgr⟩; refine ⟨_, rfl, ?_⟩; have HB6 := Aside0.mk (pw_below_grown HB5.out (some gr) (below_size HB5.out) hgr (fun k_ e_ => by cases e_; exact GR.out)); have B46 := Aside0.mk (blk_grown B45.out hgr (fun e_ => blk_ne B45.out BR.out (by decide) (Option.some.inj e_))); have BR6 := Aside0.mk hbx; clear hbx hgr HB5 B45 BR)
  | ((with_reducible refine gate_dst (N := 8) rfl ?_); refine bx #[.int .i64 0, .int .i64 0, .bool false, .int .i64 0, .int .i64 0, .int .i64 0, .int .i64 0, .int .i64 0, .int .i64 0, .int .i64 0, .int .i64 0, .int .i64 0] 62 ?_; intro g8 hg w7 hbox hb; have ST0 := Aside0.mk (OpSt.mk (blk_below B46.out hb) hbox (blk_below BR6.out hb) (below_step HB6.out hb) G4.out (by rw [hg]; exact below_size HB6.out) GR.out (by rw [hg]; exact Nat.ne_of_lt (blk_lt B46.out))); clear hb hbox hg; obtain ⟨⟨u0, u1, u2, u3, u4, u5, u6, u7, u8, u9, u10, u11⟩, uf0, uf1, uf2, uf3, uf4, uf5, uf6, uf7, uf8, uf9, uf10, uf11⟩ := cells12 ST0.out.b8))
 have STn := Aside0.mk ((OpSt.put12 ST0.out (.int .i64 1) (.int .i64 0) (.bool false) (.int .i64 0) (.int .i64 0) (.int .i64 0) (.int .i64 0) (.int .i64 0) (.int .i64 0) (.int .i64 0) (.int .i64 0) (.int .i64 0))); clear ST0; have ST := STn; clear STn
 generalize ((((((((((((w7.setCell ⟨g8, 0, none⟩ (.int .i64 1)).setCell ⟨g8, 1, none⟩ (.int .i64 0)).setCell ⟨g8, 2, none⟩ (.bool false)).setCell ⟨g8, 3, none⟩ (.int .i64 0)).setCell ⟨g8, 4, none⟩ (.int .i64 0)).setCell ⟨g8, 5, none⟩ (.int .i64 0)).setCell ⟨g8, 6, none⟩ (.int .i64 0)).setCell ⟨g8, 7, none⟩ (.int .i64 0)).setCell ⟨g8, 8, none⟩ (.int .i64 0)).setCell ⟨g8, 9, none⟩ (.int .i64 0)).setCell ⟨g8, 10, none⟩ (.int .i64 0)).setCell ⟨g8, 11, none⟩ (.int .i64 0)) = wq1 at ST ⊢
 clear u0 uf0 u1 uf1 u2 uf2 u3 uf3 u4 uf4 u5 uf5 u6 uf6 u7 uf7 u8 uf8 u9 uf9 u10 uf10 u11 uf11
 obtain ⟨⟨va0, va1, va2⟩, vaf0, vaf1, vaf2⟩ := cells3 ST.out.br
 obtain ⟨⟨ya0, ya1, ya2, ya3, ya4, ya5, ya6, ya7, ya8, ya9, ya10, ya11⟩, yaf0, yaf1, yaf2, yaf3, yaf4, yaf5, yaf6, yaf7, yaf8, yaf9, yaf10, yaf11⟩ := cells12 ST.out.b8
 go_upto_region 6 with (((with_reducible refine gate_dst (N := 35) rfl ?_); refine gL (some 35) Try.func97 #[.pointer (some ⟨gr, 0, none⟩), .int .i64 1] ?_; (with_reducible refine (or_number gr A0 c0 l0 _ _ 1 _ _ _ _ HG2.out HY.out HL.out (Kd.C_below HR0.out ST.out.bl) HC0.out ST.out.br).mono ?_); rintro x_ w35 ⟨rfl, hbx, hgr⟩; refine ⟨_, rfl, ?_⟩; have STn := Aside0.mk (ST.out.step hbx hgr); clear ST hbx hgr; have ST := STn; clear STn; obtain ⟨⟨x0, x1, x2, x3, x4, x5, x6, x7, x8, x9, x10, x11⟩, xf0, xf1, xf2, xf3, xf4, xf5, xf6, xf7, xf8, xf9, xf10, xf11⟩ := cells12 ST.out.b8))
 clear va0 vaf0 va1 vaf1 va2 vaf2 ya0 yaf0 ya1 yaf1 ya2 yaf2 ya3 yaf3 ya4 yaf4 ya5 yaf5 ya6 yaf6 ya7 yaf7 ya8 yaf8 ya9 yaf9 ya10 yaf10 ya11 yaf11; clear x0 xf0 x1 xf1 x2 xf2 x3 xf3 x4 xf4 x5 xf5 x6 xf6 x7 xf7 x8 xf8 x9 xf9 x10 xf10 x11 xf11; have STn := Aside0.mk ((OpSt.put ST.out 1 (.int .i64 d) (cs2 := #[.int .i64 1, .int .i64 d, .bool false, .int .i64 0, .int .i64 0, .int .i64 0, .int .i64 0, .int .i64 0, .int .i64 0, .int .i64 0, .int .i64 0, .int .i64 0]) rfl)); clear ST; have ST := STn; clear STn
 generalize (w35.setCell ⟨g8, 1, none⟩ (.int .i64 d)) = wq2 at ST ⊢
 obtain ⟨⟨vc0, vc1, vc2⟩, vcf0, vcf1, vcf2⟩ := cells3 ST.out.br
 obtain ⟨⟨yc0, yc1, yc2, yc3, yc4, yc5, yc6, yc7, yc8, yc9, yc10, yc11⟩, ycf0, ycf1, ycf2, ycf3, ycf4, ycf5, ycf6, ycf7, ycf8, ycf9, ycf10, ycf11⟩ := cells12 ST.out.b8
 go_upto_region 20 with ((go_at_call 75; (with_reducible refine (object_Check.calls K 1 d false 0 0 0 0 0 0 0 0 0 0 _ HK.out).mono ?_); rintro x_ ws ⟨rfl, hb⟩; have STn := Aside0.mk (OpSt.below ST.out hb); clear ST hb; have ST := STn; clear STn; obtain ⟨⟨s0, s1, s2⟩, sf0, sf1, sf2⟩ := cells3 ST.out.br))
 clear vc0 vcf0 vc1 vcf1 vc2 vcf2 yc0 ycf0 yc1 ycf1 yc2 ycf2 yc3 ycf3 yc4 ycf4 yc5 ycf5 yc6 ycf6 yc7 ycf7 yc8 ycf8 yc9 ycf9 yc10 ycf10 yc11 ycf11; clear s0 sf0 s1 sf1 s2 sf2; have STd := Aside0.mk (OpSt.drew ST.out); clear ST; have ST := STd; clear STd
 refine start_ (n := 8) (S := fun w' => w'.cell? ⟨g8, 0, none⟩ = some (.int .i64 1) ∧ w'.cell? ⟨g8, 1, none⟩ = some (.int .i64 d) ∧ w'.cell? ⟨g8, 2, none⟩ = some (.bool false) ∧ w'.cell? ⟨g8, 3, none⟩ = some (.int .i64 0) ∧ w'.cell? ⟨g8, 4, none⟩ = some (.int .i64 0) ∧ w'.cell? ⟨g8, 5, none⟩ = some (.int .i64 0) ∧ w'.cell? ⟨g8, 6, none⟩ = some (.int .i64 0) ∧ w'.cell? ⟨g8, 7, none⟩ = some (.int .i64 0) ∧ w'.cell? ⟨g8, 8, none⟩ = some (.int .i64 0) ∧ w'.cell? ⟨g8, 9, none⟩ = some (.int .i64 0) ∧ w'.cell? ⟨g8, 10, none⟩ = some (.int .i64 0) ∧ w'.cell? ⟨g8, 11, none⟩ = some (.int .i64 0) ∧ w'.cell? ⟨gr, 1, none⟩ = some (.int .i64 p2)) (ds := []) #[false, false, false, false, false, false, false, false] (by kernel_rfl) rfl rfl ⟨(blk_cell ST.out.b8 0).trans rfl, (blk_cell ST.out.b8 1).trans rfl, (blk_cell ST.out.b8 2).trans rfl, (blk_cell ST.out.b8 3).trans rfl, (blk_cell ST.out.b8 4).trans rfl, (blk_cell ST.out.b8 5).trans rfl, (blk_cell ST.out.b8 6).trans rfl, (blk_cell ST.out.b8 7).trans rfl, (blk_cell ST.out.b8 8).trans rfl, (blk_cell ST.out.b8 9).trans rfl, (blk_cell ST.out.b8 10).trans rfl, (blk_cell ST.out.b8 11).trans rfl, (blk_cell ST.out.br 1).trans rfl⟩ (fun hHeld => ?_); refine with_tabW object_Parse.tab20 object_Parse.bits20 (fun HT_ HW_ => ?_)
 generalize ws.drew = wd at ST hHeld ⊢
 obtain ⟨⟨o0, o1, o2, o3, o4, o5, o6, o7, o8, o9, o10, o11⟩, of0, of1, of2, of3, of4, of5, of6, of7, of8, of9, of10, of11⟩ := cells12 ST.out.b4
 have n94 : g8 ≠ g4 := ST.out.d48.symm
 have nr4 : gr ≠ g4 := (blk_ne ST.out.br ST.out.b4 (by decide))
 refine pA 1 (some 90) ?_; refine pA 2 (some 91) ?_; refine pA 3 (some 92) ?_; refine tA 0 (some 89) ?_; refine tA 4 (some 93) ?_
 refine oA 5 none (fun K hK => ?_)
 refine skip_ (w1 := ?_) (by rfl) rfl ?_ ?_
 rotate_left
 ·go_simp
  rfl
 refine hK.out _ _ ?_ (fun hHeld2 => ?_)
 ·refine ⟨?_, ?_, ?_, ?_, ?_, ?_, ?_, ?_, ?_, ?_, ?_, ?_, ?_⟩
  ·(repeat (first | refine (cell_far n94 _).trans ?_ | refine (cell_far nr4 _).trans ?_)); exact hHeld.1
  ·(repeat (first | refine (cell_far n94 _).trans ?_ | refine (cell_far nr4 _).trans ?_)); exact hHeld.2.1
  ·(repeat (first | refine (cell_far n94 _).trans ?_ | refine (cell_far nr4 _).trans ?_)); exact hHeld.2.2.1
  ·(repeat (first | refine (cell_far n94 _).trans ?_ | refine (cell_far nr4 _).trans ?_)); exact hHeld.2.2.2.1
  ·(repeat (first | refine (cell_far n94 _).trans ?_ | refine (cell_far nr4 _).trans ?_)); exact hHeld.2.2.2.2.1
  ·(repeat (first | refine (cell_far n94 _).trans ?_ | refine (cell_far nr4 _).trans ?_)); exact hHeld.2.2.2.2.2.1
  ·(repeat (first | refine (cell_far n94 _).trans ?_ | refine (cell_far nr4 _).trans ?_)); exact hHeld.2.2.2.2.2.2.1
  ·(repeat (first | refine (cell_far n94 _).trans ?_ | refine (cell_far nr4 _).trans ?_)); exact hHeld.2.2.2.2.2.2.2.1
  ·(repeat (first | refine (cell_far n94 _).trans ?_ | refine (cell_far nr4 _).trans ?_)); exact hHeld.2.2.2.2.2.2.2.2.1
  ·(repeat (first | refine (cell_far n94 _).trans ?_ | refine (cell_far nr4 _).trans ?_)); exact hHeld.2.2.2.2.2.2.2.2.2.1
  ·(repeat (first | refine (cell_far n94 _).trans ?_ | refine (cell_far nr4 _).trans ?_)); exact hHeld.2.2.2.2.2.2.2.2.2.2.1
  ·(repeat (first | refine (cell_far n94 _).trans ?_ | refine (cell_far nr4 _).trans ?_)); exact hHeld.2.2.2.2.2.2.2.2.2.2.2.1
  ·(repeat (first | refine (cell_far n94 _).trans ?_ | refine (cell_far nr4 _).trans ?_)); exact hHeld.2.2.2.2.2.2.2.2.2.2.2.2
 clear hHeld; have hHeld := hHeld2; clear hHeld2; clear hK K; refine pA 6 (some 5) ?_; refine pA 7 (some 6) ?_
 refine dA ?_
 clear HT_ HW_
 try go_wp2
 refine bodyPost_ret (results_ctt rfl _ _ g4 62 #[.int .i64 1, .int .i64 d, .bool false, .int .i64 0, .int .i64 0, .int .i64 0, .int .i64 0, .int .i64 0, .int .i64 0, .int .i64 0, .int .i64 0, .int .i64 0] (0, 0) _ rfl (blk_put12 ST.out.b4 (.int .i64 1) (.int .i64 d) (.bool false) (.int .i64 0) (.int .i64 0) (.int .i64 0) (.int .i64 0) (.int .i64 0) (.int .i64 0) (.int .i64 0) (.int .i64 0) (.int .i64 0)) Try.underlying62 rfl (by kernel_rfl)) rfl ?_
 exact ⟨rfl, (below_set12 ST.out.bl ST.out.n4)⟩
def object_Parse.f (l : List Int) (a : Int) : Option (Int × Int × Bool × Int × Int × Int × Int × Int × Int × Int × Int × Int × Int × Int) :=
 if l.length ≤ 1000000000000 ∧ (∀ x ∈ l, 0 ≤ x ∧ x ≤ 255) ∧ (rdN l 1 a 0).1 = 1 ∧ (rdN l 1 a 0).2.2 = 0 ∧ (rdN l 1 (rdN l 1 a 0).2.1 0).2.2 = 0 ∧ RO 1 (rdN l 1 (rdN l 1 a 0).2.1 0).1 false 0 0 0 0 0 0 0 0 0 then
  some (1, (rdN l 1 (rdN l 1 a 0).2.1 0).1, false, 0, 0, 0, 0, 0, 0, 0, 0, 0, (rdN l 1 (rdN l 1 a 0).2.1 0).2.1, 0)
 else none
theorem object_Parse.calls (A0 : Option Addr) (c0 : Nat) (l0 : List Int) (a1 : Int) (r1 r2 : Int) (r3 : Bool) (r4 r5 r6 r7 r8 r9 r10 r11 r12 r13 r14 : Int) (w : World) (hr0 : Kd.C (Kd.int .u8) w A0 l0.length l0) (hc0 : l0.length ≤ c0) (h : object_Parse.f l0 a1 = some (r1, r2, r3, r4, r5, r6, r7, r8, r9, r10, r11, r12, r13, r14)) :
  Calls Try.prog 87 #[.slice A0 l0.length c0, .int .i64 a1] w fun e w' => e = .returned (.tuple #[.agg #[.int .i64 r1, .int .i64 r2, .bool r3, .int .i64 r4, .int .i64 r5, .int .i64 r6, .int .i64 r7, .int .i64 r8, .int .i64 r9, .int .i64 r10, .int .i64 r11, .int .i64 r12], .int .i64 r13, .int .i64 r14]) ∧ Below w.heap.size w w' := by
 unfold object_Parse.f at h
 split at h
 ·rename_i hc
  obtain ⟨h1, h2, h3, h4, h5, h6⟩ := hc
  simp only [Option.some.injEq, Prod.mk.injEq] at h
  obtain ⟨rfl, rfl, rfl, rfl, rfl, rfl, rfl, rfl, rfl, rfl, rfl, rfl, rfl, rfl⟩ := h
  obtain ⟨k, p1, e1, hk⟩ : ∃ k p1 e1, rdN l0 1 a1 0 = (k, p1, e1) := ⟨_, _, _, rfl⟩
  rw [hk] at h3 h4 h5 h6 ⊢
  simp only at h3 h4 h5 h6 ⊢
  subst h3
  obtain ⟨d, p2, e2, hd⟩ : ∃ d p2 e2, rdN l0 1 p1 0 = (d, p2, e2) := ⟨_, _, _, rfl⟩
  rw [hd] at h5 h6 ⊢
  simp only at h5 h6 ⊢
  exact op_q_yes A0 c0 l0 a1 w 1 p1 e1 d p2 e2 h1 h2 hr0 hc0 hk h4 rfl hd h5 h6
 ·cases h
end Go.Proofs.Ytpgmmnlkiogamaa.P
